import Derived.Test.YtfoejfohbkmmeaaGreatDoorU34
import Derived.Test.YtfoejfohbkmmeaaGreatDoorU08
import Derived.Test.YtfoejfohbkmmeaaGreatDoorU00
set_option maxRecDepth 100000
set_option maxHeartbeats 4000000
namespace Go.Proofs.YtfoejfohbkmmeaaGreatDoor
open Go.RowKit
theorem Cc(n:Nat):cF false n 1=(n:Rat):=by
 unfold cF;rw[if_neg (by simp),Rat.mkRat_one];rfl
theorem FK(p q:Rat):((decide (p.num<0)==decide (q.num<0)&&decide (p.num.natAbs=q.num.natAbs))&&decide (p.den=q.den))=decide (p=q):=by
 rw[O2];simp only[Ma,beq_iff_eq,decide_eq_true_eq,decide_eq_decide];constructor
 ·rintro⟨⟨c,b⟩,a⟩;exact Rat.ext (by omega) a
 rintro rfl;exact⟨⟨OU,rfl⟩,rfl⟩
theorem FL{x y:Operand}(t:Nat)(_:t<4294967296)(w:World):(do eqGuard .shr 50 x y (.int .u32 (t:Nat)) (.int .u64 1);binOp .shr 50 (.int .u32 (t:Nat)) (.int .u64 1):Sem Value).run Tryz.prog w=.ok (.int .u32 ((t/2:Nat):Int)) w:=by
 simp[eqGuard,binOp,Op.shift,IntKind.bits];exact PM _ (by decide)
theorem yd{d:Nat}(h:d<4294967296):Lib.bitLen d<=64:=by
 by_cases a:d=0
 ·subst a;decide
 have:=(Lib.bitLenAux_bounds 64 d (by omega) a).2.1;unfold Lib.bitLen;rcases MI 64 (Lib.bitLenAux 64 d)with b|b
 ·have c:2^64<=2^(Lib.bitLenAux 64 d-1):=MP (by decide) (by omega);omega
 exact b
theorem FM{n d k t:Nat}(a:n≠0)(b:(ay n)[(ay n).length-1]? =some d)(h:k+Lib.bitLen t=Lib.bitLen d)(c:t=0):32*((ay n).length-1)+k=c8 n:=by
 subst c;unfold c8;rw[if_neg a,Mm,b,MK,<-h,show Lib.bitLen 0=0 from rfl];omega
theorem H0(a b:Nat):decide (eu (a:Int) (b:Int)≥0)=decide (b<=a):=by
 rw[xL];by_cases h:a<b
 ·rw[if_pos h];simp;omega
 rw[if_neg h];split<;>simp<;>omega
theorem wg:j4 Tryz.prog 65 0=some 0:=by kernel_rfl
theorem sX:iU Tryz.prog 50=true:=by kernel_rfl
theorem H1(q:Rat)(h:Fit 1048576 q):Ct 249 [dp q] (dp (-q)):=by
 refine Ct.of (n:=11) Tryz.func249 Z Z Z Z Z fun w0 G0=>?_
 refine ab<|aj 2 Z<|ab<|ae<|aa 2 Z<|af (t:=bT (!(decide (q.num<0)))) Z Z Z (ef Z Z Zy)<|aa 4 Z<|af Z Z Z (ar Z (kK _ _ _ h.num h.den q.den_pos) Z Z)<|aa 1 Z<|ag<|aC<|⟨.inr Z,_,.cons ⟨_,_,_,_,Z,Z,.inl ⟨_,aN,Z,Z⟩⟩ .nil,xK (by rw[xH,fd]),Z⟩
theorem ye(p q:Rat)(a:Fit 262144 p)(b:Fit 262144 q):Ct 167 [dp p,dp q] (dp (p+q)):=by
 have f:(ay (p.num.natAbs*q.den)).length<=524288:=jl a.num b.den;have j:(ay (q.num.natAbs*p.den)).length<=524288:=jl b.num a.den;have d:(ay (p.den*q.den)).length<=524288:=jl a.den b.den;have e:0<(p.den*q.den):=Oi p.den_pos q.den_pos;refine Ct.of (n:=71) Tryz.func167 Z Z Z Z Z fun w0 G0=>?_
 refine ab<|aj 3 Z<|ab<|iw (sl':=[(0,.agg (aU p)),(1,.agg (aU q)),(2,.box 0 0),(3,.box 1 0),(4,.box 2 0)]) ⟨Z,⟨Z,⟨Z,⟨Z,⟨Z,trivial⟩⟩⟩⟩⟩<|fz (fu:=2) [some 14,some 15,some 16,some 17,some 5,some 6,none,none] [4,5,6,7] [.agg (aU p),.agg (aU p),.agg (aU q),.agg (aU q),.any,.any,.any,.any] [⟨[4],[(0,.agg (aU p)),(1,.agg (aU q)),(2,.box 0 0),(3,.box 1 0),(4,.box 2 0)],[(65,(aU p)),(65,(aU q)),(65,[bT false,.sl [],.sl []]),(65,[bT false,.sl [],.sl []])],[],[.agg (aU p),.agg (aU p),.agg (aU q),.agg (aU q),.box 3 0,.any,.any,.any]⟩,⟨[5],[(0,.agg (aU p)),(1,.agg (aU q)),(2,.box 0 0),(3,.box 1 0),(4,.box 2 0)],[(65,(aU p)),(65,(aU q)),(65,[bT false,.sl [],.sl []]),(65,[bT false,.sl [],.sl []])],[],[.agg (aU p),.agg (aU p),.agg (aU q),.agg (aU q),.any,.box 3 0,.any,.any]⟩,⟨[5,4],[(0,.agg (aU p)),(1,.agg (aU q)),(2,.box 0 0),(3,.box 1 0),(4,.box 2 0)],[(65,(aU p)),(65,(aU q)),(65,[bT false,.sl [],.sl []]),(65,[bT false,.sl [],.sl []]),(65,[bT false,.sl [],.sl []])],[],[.agg (aU p),.agg (aU p),.agg (aU q),.agg (aU q),.box 3 0,.box 4 0,.any,.any]⟩,⟨[6,5,4],[(0,.agg (aU p)),(1,.agg (aU q)),(2,.box 0 0),(3,.box 1 0),(4,.box 2 0)],[(65,(aU p)),(65,(aU q)),(65,[bT false,.sl [],.sl []]),(65,(aU p)),(65,[bT false,.sl [],.sl []])],[],[.agg (aU p),.agg (aU p),.agg (aU q),.agg (aU q),.box 3 0,.box 4 0,.any,.any]⟩] ⟨[7,6,5,4],[(0,.agg (aU p)),(1,.agg (aU q)),(2,.box 0 0),(3,.box 1 0),(4,.box 2 0)],[(65,(aU p)),(65,(aU q)),(65,[bT false,.sl [],.sl []]),(65,(aU p)),(65,(aU q))],[],[.agg (aU p),.agg (aU p),.agg (aU q),.agg (aU q),.box 3 0,.box 4 0,.any,.any]⟩ (by kernel_rfl) Z (by kernel_rfl) (by kernel_rfl) (by kernel_rfl) Z Z ?_ ?_
 ·refine .op [] (by kernel_rfl) ?_ ?_
  ·refine .ok (t:=.agg (aU p)) (by kernel_rfl) Z Z (aJ Z Z Z aN Z Z)<|.ok (t:=.agg (aU p)) (by kernel_rfl) Z Z (aJ Z Z Z aN Z Z)<|.ok (t:=.agg (aU p)) (by kernel_rfl) Z Z (aJ Z Z Z aN Z Z)<|.ok (t:=.agg (aU p)) (by kernel_rfl) Z Z (aJ Z Z Z aN Z Z)<|.no (by kernel_rfl)<|.no (by kernel_rfl)<|.nil
  refine .op [0] (by kernel_rfl) ?_ ?_
  ·refine .ok (t:=.agg (aU p)) (by kernel_rfl) Z Z (ar Z (ff p (a.mono (by decide))) Z Z)<|.ok (t:=.agg (aU p)) (by kernel_rfl) Z Z (ar Z (ff p (a.mono (by decide))) Z Z)<|.ok (t:=.agg (aU p)) (by kernel_rfl) Z Z (ar Z (ff p (a.mono (by decide))) Z Z)<|.ok (t:=.agg (aU p)) (by kernel_rfl) Z Z (ar Z (ff p (a.mono (by decide))) Z Z)<|.no (by kernel_rfl)<|.no (by kernel_rfl)<|.nil
  refine .op [] (by kernel_rfl) ?_ ?_
  ·refine .ok (t:=.agg (aU q)) (by kernel_rfl) Z Z (aJ Z Z Z aN Z Z)<|.ok (t:=.agg (aU q)) (by kernel_rfl) Z Z (aJ Z Z Z aN Z Z)<|.ok (t:=.agg (aU q)) (by kernel_rfl) Z Z (aJ Z Z Z aN Z Z)<|.ok (t:=.agg (aU q)) (by kernel_rfl) Z Z (aJ Z Z Z aN Z Z)<|.no (by kernel_rfl)<|.no (by kernel_rfl)<|.nil
  refine .op [2] (by kernel_rfl) ?_ ?_
  ·refine .ok (t:=.agg (aU q)) (by kernel_rfl) Z Z (ar Z (ff q (b.mono (by decide))) Z Z)<|.ok (t:=.agg (aU q)) (by kernel_rfl) Z Z (ar Z (ff q (b.mono (by decide))) Z Z)<|.ok (t:=.agg (aU q)) (by kernel_rfl) Z Z (ar Z (ff q (b.mono (by decide))) Z Z)<|.ok (t:=.agg (aU q)) (by kernel_rfl) Z Z (ar Z (ff q (b.mono (by decide))) Z Z)<|.no (by kernel_rfl)<|.no (by kernel_rfl)<|.nil
  refine .op [] (by kernel_rfl) ?_ ?_
  ·refine .wr 1 id (.box 3 0) (by kernel_rfl) Z Z (iI Z Z Z lk Z Z Z Z) Z Z Z Z (.k Z (.k Z (.k Z (.k Z (.i Z (.k Z (.k Z (.k Z .nil))))))))<|.no (by kernel_rfl)<|.wr 3 (IU 3) (.box 3 0) (by kernel_rfl) Z Z (zb (p:=[(65,(aU p)),(65,(aU q)),(65,[bT false,.sl [],.sl []])]) Z Z Z lk Z Z Z Z) Z Z Z Z (.k Z (.k Z (.k Z (.k Z (.i Z (.k Z (.k Z (.k Z .nil))))))))<|.no (by kernel_rfl)<|.no (by kernel_rfl)<|.no (by kernel_rfl)<|.nil
  refine .op [] (by kernel_rfl) ?_ ?_
  ·refine .wr 2 id (.box 3 0) (by kernel_rfl) Z Z (iI Z Z Z lk Z Z Z Z) Z Z Z Z (.k Z (.k Z (.k Z (.k Z (.k Z (.i Z (.k Z (.k Z .nil))))))))<|.wr 3 id (.box 4 0) (by kernel_rfl) Z Z (iI Z Z Z lk Z Z Z Z) Z Z Z Z (.k Z (.k Z (.k Z (.k Z (.k Z (.i Z (.k Z (.k Z .nil))))))))<|.no (by kernel_rfl)<|.no (by kernel_rfl)<|.no (by kernel_rfl)<|.no (by kernel_rfl)<|.nil
  refine .op [1,4] (by kernel_rfl) ?_ ?_
  ·refine .no (by kernel_rfl)<|.no (by kernel_rfl)<|.no (by kernel_rfl)<|.wr 4 id .any (by kernel_rfl) Z Z (gJ Z Z Z Z Z Z Z Z fm Z Z Z) Z Z Z Z (.k Z (.k Z (.k Z (.k Z (.k Z (.k Z (.i Z (.k Z .nil))))))))<|.no (by kernel_rfl)<|.no (by kernel_rfl)<|.nil
  refine .op [3,5] (by kernel_rfl) ?_ ?_
  ·refine .no (by kernel_rfl)<|.no (by kernel_rfl)<|.no (by kernel_rfl)<|.no (by kernel_rfl)<|.wr 5 id .any (by kernel_rfl) Z Z (gJ Z Z Z Z Z Z Z Z fm Z Z Z) Z Z Z Z (.k Z (.k Z (.k Z (.k Z (.k Z (.k Z (.k Z (.i Z .nil))))))))<|.no (by kernel_rfl)<|.nil
  exact .nil
 refine ab<|ci (fu:=12) [some 18,some 19,some 20,some 21,some 22,some 23,some 24,some 25,some 26,some 27,some 7,some 8] [.box 3 1,aM p.num.natAbs,.box 4 2,aM q.den,aM (p.num.natAbs*q.den),.box 4 1,aM q.num.natAbs,.box 3 2,aM p.den,aM (q.num.natAbs*p.den),aM (p.num.natAbs*q.den),aM (q.num.natAbs*p.den)] (by kernel_rfl) Z Z (by kernel_rfl) Z ?_ ?_
 ·refine Chain.op Z (az Z Z fX Z)<|Chain.op Z (aD Z Z Z dU Z)<|Chain.op Z (az Z Z fY Z)<|Chain.op Z (aD Z Z Z dU Z)<|Chain.op Z (ar Z (we _ _ (L6 a.num (by decide)) (L6 b.den (by decide))) Z Z)<|Chain.op Z (az Z Z fX Z)<|Chain.op Z (aD Z Z Z dU Z)<|Chain.op Z (az Z Z fY Z)<|Chain.op Z (aD Z Z Z dU Z)<|Chain.op Z (ar Z (we _ _ (L6 b.num (by decide)) (L6 a.den (by decide))) Z Z)<|Chain.op Z (bW Z Z)<|Chain.op Z (bW Z Z)<|Chain.nil
 refine ab<|ae<|aa 4 Z<|af Z Z Z (ar Z (we _ _ (L6 a.den (by decide)) (L6 b.den (by decide))) Z Z)<|aa 1 Z<|ag<|ab<|ab<|ae<|aa 4 Z<|af (t:=bT ((decide (p.num<0))==(decide (q.num<0)))) Z Z Z (ai Z Z Z Zy)<|ag<|aH Z (fun c=>?_) (fun c=>?_)
 ·refine ab<|dH (ops:=[_,_,_,_,_,_,_]) (fu:=8) (bs':=[(65,(aU p)),(65,(aU q)),(65,[bT (decide ((cF (decide (p.num<0)) ((p.num.natAbs*q.den)+(q.num.natAbs*p.den)) (p.den*q.den)).num<0)),aM ((cF (decide (p.num<0)) ((p.num.natAbs*q.den)+(q.num.natAbs*p.den)) (p.den*q.den)).num.natAbs),aM ((cF (decide (p.num<0)) ((p.num.natAbs*q.den)+(q.num.natAbs*p.den)) (p.den*q.den)).den)]),(65,(aU p)),(65,(aU q))]) [some 38,some 39,some 40,some 41,some 42,some 43,some 44] [.box 3 0,bT (decide (p.num<0)),aM (p.num.natAbs*q.den),aM (q.num.natAbs*p.den),aM ((p.num.natAbs*q.den)+(q.num.natAbs*p.den)),aM (p.den*q.den),.agg [bT (decide ((cF (decide (p.num<0)) ((p.num.natAbs*q.den)+(q.num.natAbs*p.den)) (p.den*q.den)).num<0)),aM ((cF (decide (p.num<0)) ((p.num.natAbs*q.den)+(q.num.natAbs*p.den)) (p.den*q.den)).num.natAbs),aM ((cF (decide (p.num<0)) ((p.num.natAbs*q.den)+(q.num.natAbs*p.den)) (p.den*q.den)).den)]] (by kernel_rfl) Z Z Z Z Z (by kernel_rfl) (by kernel_rfl) Z Z Z Z Z Z Z Z fm Z Z Z ?_ ?_
  ·refine Chain.op Z (az Z Z wg Z)<|Chain.op Z (aD Z Z Z fW Z)<|Chain.op Z (aw Z Z)<|Chain.op Z (aw Z Z)<|Chain.op Z (ar Z (HH _ _ (L6 f (by decide)) (L6 j (by decide))) Z Z)<|Chain.op Z (aw Z Z)<|Chain.op Z (ar Z (kK _ _ _ (L6 (uu f j) (by decide)) (L6 d (by decide)) e) Z Z)<|Chain.nil
  refine aC<|⟨.inr Z,_,.cons ⟨_,_,_,_,Z,Z,.inl ⟨_,aN,Z,Z⟩⟩ .nil,xK (xO (by simpa using c)),Z⟩
 refine ax<|ab<|ab<|ae<|aa 2 Z<|af Z Z Z (ar Z (Hs _ _ (L6 f (by decide)) (L6 j (by decide))) Z Z)<|af (t:=bT (decide ((q.num.natAbs*p.den)<=(p.num.natAbs*q.den)))) Z Z Z (ah (ai Z Z Z Zy) (av (H0 _ _)))<|ag<|aF Z (fun h=>?_) (fun h=>?_)
 ·have g:=h;refine ab<|ae<|aa 2 Z<|af Z Z Z (ar Z (B4 _ _ (L6 f (by decide)) g) Z Z)<|aa 5 Z<|ag<|ab<|ae<|aa 4 Z<|af Z Z Z (ar Z (kK _ _ _ (L6 (aS (OZ _ _)) (L6 f (by decide))) (L6 d (by decide)) e) Z Z)<|aa 1 Z<|ag<|aC<|⟨.inr Z,_,.cons ⟨_,_,_,_,Z,Z,.inl ⟨_,aN,Z,Z⟩⟩ .nil,xK (Fb (by simpa using c) g),Z⟩
 refine ax<|ab<|ae<|aa 2 Z<|af Z Z Z (ar Z (B4 _ _ (L6 j (by decide)) (by omega)) Z Z)<|aa 5 Z<|ag<|ab<|ae<|aa 4 Z<|af Z Z Z (ar Z (kK _ _ _ (L6 (aS (OZ _ _)) (L6 j (by decide))) (L6 d (by decide)) e) Z Z)<|aa 1 Z<|ag<|aC<|⟨.inr Z,_,.cons ⟨_,_,_,_,Z,Z,.inl ⟨_,aN,Z,Z⟩⟩ .nil,xK (Fc (by simpa using c) (by omega)),Z⟩
theorem yf(p q:Rat)(b:Fit 262144 p)(a:Fit 262144 q):Ct 216 [dp p,dp q] (dp (p-q)):=by
 refine Ct.of (n:=9) Tryz.func216 Z Z Z Z Z fun w0 G0=>?_
 refine ab<|aj 3 Z<|ab<|dH (ops:=[_,_,_,_]) (fu:=5) (bs':=[(65,(aU p)),(65,(aU q)),(65,[bT (decide ((p+ -q).num<0)),aM ((p+ -q).num.natAbs),aM ((p+ -q).den)])]) [some 5,some 6,some 7,some 8] [.agg (aU p),.agg (aU q),.agg [bT (decide ((-q).num<0)),aM ((-q).num.natAbs),aM ((-q).den)],.agg [bT (decide ((p+ -q).num<0)),aM ((p+ -q).num.natAbs),aM ((p+ -q).den)]] (by kernel_rfl) Z Z Z Z Z (by kernel_rfl) (by kernel_rfl) Z Z Z Z Z Z Z Z fm Z Z Z ?_ ?_
 ·refine Chain.op Z (aJ Z Z Z aN Z Z)<|Chain.op Z (aJ Z Z Z aN Z Z)<|Chain.op Z (ar Z (H1 q (a.mono (by decide))) Z Z)<|Chain.op Z (ar Z (ye _ _ b (BV a)) Z Z)<|Chain.nil
 refine aC<|⟨.inr Z,_,.cons ⟨_,_,_,_,Z,Z,.inl ⟨_,aN,Z,Z⟩⟩ .nil,xK (Rat.sub_eq_add_neg _ _).symm,Z⟩
theorem rf(n:Nat)(b:n<4611686018427387904):Ct 87 [nI n] (dp (n:Rat)):=by
 refine Ct.of (n:=18) Tryz.func87 Z Z Z Z Z fun w0 G0=>?_
 refine ab<|aj 1 Z<|ab<|ab<|ae<|aa 1 Z<|af (t:=bT (decide (n<0))) Z Z Z (ah (ai Z Z Z Zy) (av (iu n 0)))<|ag<|aF Z (fun a=>?_) (fun a=>?_)
 ·exact absurd a (by omega)
 refine ax<|ab<|ae<|aa 1 Z<|af (t:=.sc (.int .u64 ((n:Nat):Int))) Z Z Z (ah (k7 Z mR nB Z) (ep (by rw[IntKind.wrap_u64];omega)))<|af Z Z Z (ar Z (Ft n (by omega)) Z Z)<|af Z Z Z (ar Z (Ft 1 (by decide)) Z Z)<|af Z Z Z (ar Z (kK _ _ _ (L6 (jA (by omega)) (by decide)) (by decide) (by decide)) Z Z)<|aa 1 Z<|ag<|aC<|⟨.inr Z,_,.cons ⟨_,_,_,_,Z,Z,.inl ⟨_,aN,Z,Z⟩⟩ .nil,xK (Cc n),Z⟩
theorem sY(q:Rat)(h:Fit 1048576 q):Ct 165 [dp q] (iT (bP q)):=by
 refine Ct.of (n:=14) Tryz.func165 Z Z Z Z Z fun w0 G0=>?_
 refine ab<|aj 2 Z<|ab<|ae<|aa 1 Z<|af Z Z Z (ar Z (ff q h) Z Z)<|aa 2 Z<|ag<|ab<|aE<|ab<|ae<|aa 2 Z<|af (t:=nI ((ay q.num.natAbs).length)) Z Z Z (ah (bd Z dw Z) (by simp only[L8]))<|af (t:=bT (decide ((ay q.num.natAbs).length=0))) Z Z Z (ah (ai Z Z Z Zy) (av (lY ((ay q.num.natAbs).length) 0)))<|aa 1 Z<|ag<|aF Z (fun a=>?_) (fun a=>?_)
 ·refine ab<|aj 1 Z<|aC<|⟨.inr Z,_,.cons Z .nil,ep (by unfold bP;rw[show q.num=0 by rw[bR]at a;omega];rfl),Z⟩
 refine ab<|aj 3 Z<|aF Z (fun b=>?_) (fun b=>?_)
 ·refine ab<|aj 1 Z<|aC<|⟨.inr Z,_,.cons Z .nil,ep (by unfold bP;rw[NR b]),Z⟩
 refine ax<|ab<|aj 1 Z<|aC<|⟨.inr Z,_,.cons Z .nil,ep (by unfold bP;rw[N3 (by rw[bR]at a;omega)]),Z⟩
theorem Dt(q:Rat)(a:Fit 262144 q):Ct 166 [dp q] (dp (1-q)):=by
 refine Ct.of (n:=6) Tryz.func166 Z Z Z Z Z fun w0 G0=>?_
 refine ab<|aj 2 Z<|ab<|dH (ops:=[_,_,_]) (fu:=4) (bs':=[(65,(aU q)),(65,[bT (decide ((((1:Nat):Rat)-q).num<0)),aM ((((1:Nat):Rat)-q).num.natAbs),aM ((((1:Nat):Rat)-q).den)])]) [some 3,some 4,some 5] [.agg [bT (decide ((((1:Nat):Nat):Rat).num<0)),aM ((((1:Nat):Nat):Rat).num.natAbs),aM ((((1:Nat):Nat):Rat).den)],.agg (aU q),.agg [bT (decide ((((1:Nat):Rat)-q).num<0)),aM ((((1:Nat):Rat)-q).num.natAbs),aM ((((1:Nat):Rat)-q).den)]] (by kernel_rfl) Z Z Z Z Z (by kernel_rfl) (by kernel_rfl) Z Z Z Z Z Z Z Z fm Z Z Z ?_ ?_
 ·refine Chain.op Z (ar Z (rf 1 (by decide)) Z Z)<|Chain.op Z (aJ Z Z Z aN Z Z)<|Chain.op Z (ar Z (yf _ _ qY a) Z Z)<|Chain.nil
 refine aC<|⟨.inr Z,_,.cons ⟨_,_,_,_,Z,Z,.inl ⟨_,aN,Z,Z⟩⟩ .nil,Z,Z⟩
theorem FN(p q:Rat)(a:Fit 262144 p)(b:Fit 262144 q):Ct 215 [dp p,dp q] (iT (bP (p-q))):=by
 refine Ct.of (n:=9) Tryz.func215 Z Z Z Z Z fun w0 G0=>?_
 refine ab<|aj 3 Z<|ab<|ae<|aa 2 Z<|af Z Z Z (ar Z (yf _ _ a b) Z Z)<|af Z Z Z (ar Z (sY _ ((oS a b).mono (by decide))) Z Z)<|aa 1 Z<|ag<|aC<|⟨.inr Z,_,.cons Z .nil,Z,Z⟩
theorem yg(x y:Nat)(q:(ay x).length<=1048576)(_:(ay y).length<=1048576):Ct 103 [aM x,aM y] (bT (decide (x=y))):=by
 refine Ct.of (n:=26) Tryz.func103 Z Z Z Z Z fun w0 G0=>?_
 refine ab<|aj 1 Z<|ab<|ab<|ae<|aa 1 Z<|af (t:=nI ((ay x).length)) Z Z Z (ah (bd Z dw Z) (by simp only[L8]))<|aa 1 Z<|af (t:=nI ((ay y).length)) Z Z Z (ah (bd Z dw Z) (by simp only[L8]))<|af (t:=bT (decide ((ay x).length≠(ay y).length))) Z Z Z (ah (ai Z Z Z Zy) (av (wD ((ay x).length) ((ay y).length))))<|ag<|aF Z (fun c=>?_) (fun c=>?_)
 ·refine ab<|aj 1 Z<|aC<|⟨.inr Z,_,.cons Z .nil,av (decide_eq_false fun e=>c (by rw[e])).symm,Z⟩
 have o:(ay x).length=(ay y).length:=NE.1 c;refine ax<|ab<|ab<|aj 1 Z<|aE<|aW (fun m l=>∃(i:Nat),(i<=(ay x).length/\(ay x).take i=(ay y).take i)/\m=(ay x).length-i/\l=⟨26,[(0,.sl ((ay x).map o4)),(1,.sl ((ay y).map o4)),(5,nI i)],[],[]⟩) 0 0 ⟨0,⟨by omega,Z⟩,Z,Z⟩ ⟨Z,Z,Z,.cons Z Z (.cons Z Z (.cons Z Z .nil)),Z⟩ ?_;rintro m l ⟨i,⟨r,h⟩,rfl,rfl⟩;refine ab<|ab<|ae<|aa 2 Z<|af (t:=nI ((ay x).length)) Z Z Z (ah (bd Z dw Z) (by simp only[L8]))<|af (t:=bT (decide (i<(ay x).length))) Z Z Z (ah (ai Z Z Z Zy) (av (iu i ((ay x).length))))<|ag<|aF Z (fun j=>?_) (fun j=>?_)
 ·obtain⟨d,a⟩:∃d,(ay x)[i]? =some d:=⟨_,L4 j⟩;obtain⟨e,b⟩:∃e,(ay y)[i]? =some e:=⟨_,L4 (by omega)⟩;refine ax<|ab<|aE<|ab<|ci (fu:=9) [some 17,some 18,some 19,some 20,some 21,some 22,some 23,some 24,some 25] [.sl ((ay x).map o4),nI i,.ref [.sc (.int .u32 ((d:Nat):Int))],.sc (.int .u32 ((d:Nat):Int)),.sl ((ay y).map o4),nI i,.ref [.sc (.int .u32 ((e:Nat):Int))],.sc (.int .u32 ((e:Nat):Int)),bT (decide (d≠e))] (by kernel_rfl) Z Z (by kernel_rfl) Z ?_ ?_
  ·refine Chain.op Z (aw Z Z)<|Chain.op Z (aw Z Z)<|Chain.op Z (aQ (o4 d) Z dw Z Z Z (bf (f:=o4) a) (nK _) Z)<|Chain.op Z (bE Z Z sX Z)<|Chain.op Z (aw Z Z)<|Chain.op Z (aw Z Z)<|Chain.op Z (aQ (o4 e) Z dw Z Z Z (bf (f:=o4) b) (nK _) Z)<|Chain.op Z (bE Z Z sX Z)<|Chain.op Z (ah (ai Z Z Z Zy) (av (wD d e)))<|Chain.nil
  refine aF Z (fun g=>?_) (fun g=>?_)
  ·refine ab<|aj 1 Z<|aC<|⟨.inr Z,_,.cons Z .nil,av (decide_eq_false fun e=>g (by rw[e]at a;rw[a]at b;exact Nt b)).symm,Z⟩
  have k:d=e:=NE.1 g;refine ax<|ae<|aa 1 Z<|af (t:=nI (i+1)) Z Z Z (ah (ai Z Z Z Zy) (bu (by omega)))<|aa 1 Z<|ag<|⟨_,_,?_,⟨i+1,?_,Z,Z⟩,⟨Z,Z,Z,.cons Z Z (.cons Z Z (.cons Z Z .nil)),Z⟩⟩
  ·omega
  refine⟨by omega,?_⟩;rw[pS a,pS b,h,k]
 refine aZ<|ab<|aj 1 Z<|aC<|⟨.inr Z,_,.cons Z .nil,av (decide_eq_true (by rw[Me (by omega),Me (by omega)]at h;rw[<-aI x,h,aI])).symm,Z⟩
theorem Du(p q:Rat)(c:Fit 1048576 p)(d:Fit 1048576 q):Ct 45 [dp p,dp q] (bT (decide (p=q))):=by
 refine Ct.of (n:=24) Tryz.func45 Z Z Z Z Z fun w0 G0=>?_
 refine ab<|aj 3 Z<|ab<|ae<|aa 4 Z<|af (t:=bT ((decide (p.num<0))==(decide (q.num<0)))) Z Z Z (ai Z Z Z Zy)<|aa 1 Z<|aA (t:=.box 0 1) (((decide (p.num<0))==(decide (q.num<0)))=true) Z Z Z au Z Z (fun a=>az Z Z fX Z)<|aA (t:=aM p.num.natAbs) (((decide (p.num<0))==(decide (q.num<0)))=true) Z Z Z au Z Z (fun a=>aD Z (if_pos a) Z dU Z)<|aA (t:=.box 1 1) (((decide (p.num<0))==(decide (q.num<0)))=true) Z Z Z au Z Z (fun a=>az Z Z fX Z)<|aA (t:=aM q.num.natAbs) (((decide (p.num<0))==(decide (q.num<0)))=true) Z Z Z au Z Z (fun a=>aD Z (if_pos a) Z dU Z)<|aA (t:=bT (decide (p.num.natAbs=q.num.natAbs))) (((decide (p.num<0))==(decide (q.num<0)))=true) Z Z Z au Z Z (fun a=>ar Z (yg _ _ c.num d.num) (eU (if_pos a) (eU (if_pos a) Z)) Z)<|af (t:=bT (((decide (p.num<0))==(decide (q.num<0)))&&(decide (p.num.natAbs=q.num.natAbs)))) Z Z Z (aL Z Z (fun b=>(if_pos b).trans (av (by rw[b];rfl))) (fun b=>(av (by rw[b];rfl))))<|aa 1 Z<|aA (t:=.box 0 2) ((((decide (p.num<0))==(decide (q.num<0)))&&(decide (p.num.natAbs=q.num.natAbs)))=true) Z Z Z au Z Z (fun a=>az Z Z fY Z)<|aA (t:=aM p.den) ((((decide (p.num<0))==(decide (q.num<0)))&&(decide (p.num.natAbs=q.num.natAbs)))=true) Z Z Z au Z Z (fun a=>aD Z (if_pos a) Z dU Z)<|aA (t:=.box 1 2) ((((decide (p.num<0))==(decide (q.num<0)))&&(decide (p.num.natAbs=q.num.natAbs)))=true) Z Z Z au Z Z (fun a=>az Z Z fY Z)<|aA (t:=aM q.den) ((((decide (p.num<0))==(decide (q.num<0)))&&(decide (p.num.natAbs=q.num.natAbs)))=true) Z Z Z au Z Z (fun a=>aD Z (if_pos a) Z dU Z)<|aA (t:=bT (decide (p.den=q.den))) ((((decide (p.num<0))==(decide (q.num<0)))&&(decide (p.num.natAbs=q.num.natAbs)))=true) Z Z Z au Z Z (fun a=>ar Z (yg _ _ c.den d.den) (eU (if_pos a) (eU (if_pos a) Z)) Z)<|af (t:=bT ((((decide (p.num<0))==(decide (q.num<0)))&&(decide (p.num.natAbs=q.num.natAbs)))&&(decide (p.den=q.den)))) Z Z Z (aL Z Z (fun b=>(if_pos b).trans (av (by rw[b];rfl))) (fun b=>(av (by rw[b];rfl))))<|aa 1 Z<|ag<|aC<|⟨.inr Z,_,.cons Z .nil,av (FK p q),Z⟩
theorem H3(a b:Int)(e: -9223372036854775808<=a)(g:a<=9223372036854775807)(d: -9223372036854775808<=b)(f:b<=9223372036854775807)(h:b≠0):Ct 94 [iT a,iT b] (.tup [dp (cF ((decide (a<0)) !=(decide (b<0))) a.natAbs b.natAbs),iT 0]):=by
 refine Ct.of (n:=19) Tryz.func94 Z Z Z Z Z fun w0 G0=>?_
 refine ab<|aj 2 Z<|ab<|ab<|ae<|aa 1 Z<|af (t:=bT (b==0)) Z Z Z (ai Z Z Z Zy)<|ag<|aH Z (fun c=>?_) (fun c=>?_)
 ·exact absurd (by simpa using c) h
 refine ax<|ab<|ae<|aa 1 Z<|af (t:=bT (decide (a<0))) Z Z Z (ai Z Z Z Zy)<|aa 1 Z<|af (t:=bT (decide (b<0))) Z Z Z (ai Z Z Z Zy)<|af (t:=bT ((decide (a<0)) !=(decide (b<0)))) Z Z Z (ai Z Z Z Zy)<|aa 1 Z<|af Z Z Z (ar Z (x3 a e g) Z Z)<|aa 1 Z<|af Z Z Z (ar Z (x3 b d f) Z Z)<|af Z Z Z (ar Z (kK _ _ _ (L6 (jA (by omega)) (by decide)) (L6 (jA (by omega)) (by decide)) (by omega)) Z Z)<|aa 2 Z<|ag<|aC<|⟨.inr Z,_,.cons ⟨_,_,_,_,Z,Z,.inl ⟨_,aN,Z,Z⟩⟩ (.cons Z .nil),Z,Z⟩
theorem FO(n:Nat)(p:(ay n).length<=1048576):Ct 159 [aM n] (iT (c8 n)):=by
 refine Ct.of (n:=28) Tryz.func159 Z Z Z Z Z fun w0 G0=>?_
 refine ab<|aj 1 Z<|ab<|ae<|aa 1 Z<|af Z Z Z (ar Z (Fs n (by omega)) Z Z)<|aa 1 Z<|ag<|ab<|ab<|ae<|aa 1 Z<|af (t:=nI ((ay n).length)) Z Z Z (ah (bd Z dw Z) (by simp only[L8]))<|af (t:=bT (decide ((ay n).length=0))) Z Z Z (ah (ai Z Z Z Zy) (av (lY ((ay n).length) 0)))<|ag<|aF Z (fun b=>?_) (fun b=>?_)
 ·refine ab<|aj 1 Z<|aC<|⟨.inr Z,_,.cons Z .nil,ep (by rw[show c8 n=0 from sj.2 (bR.1 b)];rfl),Z⟩
 obtain⟨d,c⟩:∃d,(ay n)[(ay n).length-1]? =some d:=⟨_,L4 (by omega)⟩;have a:d<4294967296:=bY n d (L9 c);have i:n≠0:=fun e=>b (bR.2 e)
 refine ax<|ab<|ae<|aa 1 Z<|af (t:=nI ((ay n).length)) Z Z Z (ah (bd Z dw Z) (by simp only[L8]))<|af (t:=nI (((ay n).length)-1)) Z Z Z (ah (ai Z Z Z Zy) (bu (by omega)))<|af (t:=nI (32*(((ay n).length)-1))) Z Z Z (ah (ai Z Z Z Zy) (bu (by omega)))<|aa 1 Z<|ag<|ab<|ab<|ae<|aa 2 Z<|af (t:=nI ((ay n).length)) Z Z Z (ah (bd Z dw Z) (by simp only[L8]))<|af (t:=nI (((ay n).length)-1)) Z Z Z (ah (ai Z Z Z Zy) (bu (by omega)))<|af (t:=.ref [.sc (.int .u32 ((d:Nat):Int))]) Z Z Z (aQ (o4 d) Z dw Z Z Z (bf (f:=o4) c) (nK _) Z)<|aa 2 Z<|ag<|aE<|aW (fun l j=>∃(k:Nat) (t:Nat),(t<4294967296/\k<=64/\k+Lib.bitLen t=Lib.bitLen d)/\l=t+1/\j=⟨28,[(4,nI (32*((ay n).length-1)+k)),(5,.sc (.int .u32 ((t:Nat):Int)))],[],[]⟩) 0 0 ⟨0,d,⟨a,by omega,M0 _⟩,Z,Z⟩ ⟨Z,Z,Z,.cons Z Z (.cons Z Z .nil),Z⟩ ?_;rintro l j ⟨k,t,⟨o,r,g⟩,rfl,rfl⟩;refine ab<|ab<|ae<|aa 1 Z<|af (t:=bT (decide (0<t))) Z Z Z (ah (ai Z Z Z Zy) (av (tE t 0)))<|ag<|aF Z (fun h=>?_) (fun h=>?_)
 ·refine ax<|ab<|aE<|ae<|aa 1 Z<|af (t:=nI ((32*((ay n).length-1)+k)+1)) Z Z Z (ah (ai Z Z Z Zy) (bu (by omega)))<|aa 1 Z<|ag<|ae<|aa 1 Z<|af (t:=.sc (.int .u32 ((t/2:Nat):Int))) Z Z Z (ai Z Z Z (fun w=>FL t o w))<|aa 1 Z<|ag<|⟨_,_,?_,⟨k+1,t/2,?_,Z,Z⟩,⟨Z,Z,Z,.cons Z Z (.cons Z Z .nil),Z⟩⟩
  ·omega
  have q:=Lib.bitLen_half t (by omega) (by omega);have m:Lib.bitLen d<=64:=yd a;exact⟨by omega,by omega,by omega⟩
 refine aZ<|ab<|aj 2 Z<|aC<|⟨.inr Z,_,.cons Z .nil,ep (by rw[FM i c g (by omega)]),Z⟩
end Go.Proofs.YtfoejfohbkmmeaaGreatDoor
