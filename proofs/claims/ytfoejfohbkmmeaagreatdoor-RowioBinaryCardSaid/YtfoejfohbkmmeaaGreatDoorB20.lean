import Derived.Test.YtfoejfohbkmmeaaGreatDoorB19
import Derived.Test.YtfoejfohbkmmeaaGreatDoorB00
import Derived.Test.YtfoejfohbkmmeaaGreatDoorB06
import Derived.Laws.BitsLemmas
set_option maxRecDepth 100000
set_option maxHeartbeats 4000000
namespace Go.Proofs.YtfoejfohbkmmeaaGreatDoor
open Go.RowKit
theorem pG{cert:Bool}{l:List Col}{i:Nat}{c:Col}(h:l[i]? =some c):gP cert (l.take i) (l.drop i)=(me cert c||(l.take i).any (fun d=>d.name.toList==c.name.toList)||gP cert (l.take (i+1)) (l.drop (i+1))):=by
 obtain⟨a,rfl⟩:=Ok.1 h;rw[Ow a,gP,OM a]
theorem tI:rT Tryz.prog 58=some 3:=by kernel_rfl
theorem bh:gS Tryz.prog 24=some (58,3):=by kernel_rfl
theorem xT:jm Tryz.prog 26 0=some 0:=by kernel_rfl
theorem fq:jm Tryz.prog 26 1=some 1:=by kernel_rfl
theorem cY:jm Tryz.prog 26 2=some 2:=by kernel_rfl
theorem mi:jm Tryz.prog 58 0=some 0:=by kernel_rfl
theorem ft:jm Tryz.prog 58 1=some 1:=by kernel_rfl
theorem iz:jm Tryz.prog 58 2=some 2:=by kernel_rfl
theorem ek:ja Tryz.prog 24=true:=by kernel_rfl
theorem eQ:ja Tryz.prog 3=true:=by kernel_rfl
theorem jH:ja Tryz.prog 9=true:=by kernel_rfl
theorem L9:(Tryz.prog.info? 58).map (·.size)=some 3:=by kernel_rfl
theorem iO:gJ Tryz.prog 58=some [.string (⟨#[]⟩),.int .i64 0,.bool false]:=by kernel_rfl
theorem j2(s:Sch):Ct 26 [s.tree] (bT (gt s)):=by
 refine Ct.of (n:=69) Tryz.func26 Z Z Z Z Z fun w0 G0=>?_
 refine ab<|aj 2 Z<|ab<|ab<|ae<|aa 2 Z<|ag Z Z Z (ak Z (pz _) Z Z)<|ag (t:=bT (!(ga s.name))) Z Z Z (dw Z Z Zy)<|aa 1 Z<|aw (t:=.box 0 2) Z Z Z Z (fun a=>aq Z Z cY Z)<|aw (t:=.sl (s.cols.map Col.tree)) Z Z Z Z (fun a=>ay Z (if_pos a) Z ek Z)<|aw (t:=nI s.cols.length) Z Z Z Z (fun a=>ah (aW Z bh (if_pos a)) (by simp only[Ol]))<|aw (t:=bT (decide (s.cols.length<1))) Z Z Z Z (fun a=>ah (ai Z (if_pos a) Z (fun _=>rfl)) (au (gK s.cols.length 1)))<|ag (t:=bT ((!(ga s.name))||(decide (s.cols.length<1)))) Z Z Z (aL Z Z (fun b=>(au (by rw[b];rfl))) (fun b=>(if_pos b).trans (au (by rw[b];rfl))))<|aa 1 Z<|aw (t:=.box 0 2) Z Z Z Z (fun a=>aq Z Z cY Z)<|aw (t:=.sl (s.cols.map Col.tree)) Z Z Z Z (fun a=>ay Z (if_pos a) Z ek Z)<|aw (t:=nI s.cols.length) Z Z Z Z (fun a=>ah (aW Z bh (if_pos a)) (by simp only[Ol]))<|aw (t:=bT (decide (6<s.cols.length))) Z Z Z Z (fun a=>ah (ai Z (if_pos a) Z (fun _=>rfl)) (au (qH s.cols.length 6)))<|ag (t:=bT (((!(ga s.name))||(decide (s.cols.length<1)))||(decide (6<s.cols.length)))) Z Z Z (aL Z Z (fun b=>(au (by rw[b];rfl))) (fun b=>(if_pos b).trans (au (by rw[b];rfl))))<|af<|aH Z (fun m=>?_) (fun m=>?_)
 ·refine ab<|aj 1 Z<|ax<|⟨.inr Z,_,.cons Z .nil,au (by unfold gt kz;rw[m];rfl),Z⟩
 refine ar<|ab<|ab<|ae<|aa 2 Z<|ag (t:=nI s.cols.length) Z Z Z (ah (aW Z bh Z) (by simp only[Ol]))<|aa 1 Z<|af<|aA<|aO (fun w z=>∃(i:Nat),(i<=s.cols.length/\gP s.cert (s.cols.take i) (s.cols.drop i)=gP s.cert [] s.cols)/\w=s.cols.length-i/\z=⟨69,[(1,.box 0 0),(24,.sl (s.cols.map Col.tree)),(25,nI s.cols.length),(26,nI i)],[(26,(fm s))],[]⟩) 1 0 ⟨0,⟨by omega,Z⟩,Z,Z⟩ .rf ?_;rintro w z ⟨i,⟨F,g⟩,rfl,rfl⟩;have E:s.cols.length<=6:=by simp only[OH,decide_eq_false_iff_not]at m;omega
 refine ab<|ae<|ag (t:=bT (decide (i<s.cols.length))) Z Z Z (ah (ai Z Z Z Zy) (au (gK i s.cols.length)))<|af<|ab<|aD Z (fun y=>?_) (fun y=>?_)
 ·obtain⟨c,v⟩:∃c,s.cols[i]? =some c:=⟨_,Og y⟩;rw[pG v]at g;refine ar<|ab<|aA<|ab<|ae<|aa 1 Z<|ag (t:=.ref [sT c.name,iT c.ty,bT c.key]) Z Z Z (aK (Col.tree c) Z bh Z Z Z (aX (f:=Col.tree) v) (ei _) Z)<|aa 4 Z<|af<|ab<|ab<|ae<|aa 2 Z<|ag Z Z Z (ak Z (pz _) Z Z)<|ag (t:=bT (!(ga c.name))) Z Z Z (dw Z Z Zy)<|aa 1 Z<|aw (t:=.box 1 1) Z Z Z Z (fun a=>aq Z Z ft Z)<|aw (t:=iT c.ty) Z Z Z Z (fun a=>ay Z (if_pos a) Z eQ Z)<|aw (t:=bT (c.ty !=1)) Z Z Z Z (fun a=>ai Z (if_pos a) Z (fun _=>rfl))<|aw (t:=bT (c.ty !=1)) Z Z Z Z (fun a=>av Z (if_pos a))<|ce (t:=.box 1 1) Z Z Z Z (fun a=>aq Z Z ft Z)<|ce (t:=iT c.ty) Z Z Z Z (fun a=>ay Z (if_pos a) Z eQ Z)<|ce (t:=bT (c.ty !=2)) Z Z Z Z (fun a=>ai Z (if_pos a) Z (fun _=>rfl))<|aw (t:=bT ((c.ty !=1)&&(c.ty !=2))) Z Z Z Z (fun a=>aL Z (if_pos a) (fun b=>(if_pos ⟨a,b⟩).trans (au (by rw[b];rfl))) (fun b=>(au (by rw[b];rfl))))<|ag (t:=bT ((!(ga c.name))||((c.ty !=1)&&(c.ty !=2)))) Z Z Z (aL Z Z (fun b=>(au (by rw[b];rfl))) (fun b=>(if_pos b).trans (au (by rw[b];rfl))))<|aa 1 Z<|aw (t:=.box 0 1) Z Z Z Z (fun a=>aq Z Z fq Z)<|aw (t:=bT s.cert) Z Z Z Z (fun a=>ay Z (if_pos a) Z ej Z)<|aw (t:=bT s.cert) Z Z Z Z (fun a=>av Z (if_pos a))<|ce (t:=.box 1 2) Z Z Z Z (fun a=>aq Z Z iz Z)<|ce (t:=bT c.key) Z Z Z Z (fun a=>ay Z (if_pos a) Z ej Z)<|aw (t:=bT (s.cert&&c.key)) Z Z Z Z (fun a=>aL Z (if_pos a) (fun b=>(if_pos ⟨a,b⟩).trans (au (by rw[b];rfl))) (fun b=>(au (by rw[b];rfl))))<|ag (t:=bT (((!(ga c.name))||((c.ty !=1)&&(c.ty !=2)))||(s.cert&&c.key))) Z Z Z (aL Z Z (fun b=>(au (by rw[b];rfl))) (fun b=>(if_pos b).trans (au (by rw[b];rfl))))<|af<|aH Z (fun r=>?_) (fun r=>?_)
  ·refine ab<|aj 1 Z<|ax<|⟨.inr Z,_,.cons Z .nil,au (by unfold gt;rw[<-g];unfold me;rw[r];simp),Z⟩
  refine ar<|ab<|ae<|aa 3 Z<|ag (t:=.sl ((s.cols.take i).map Col.tree)) Z Z Z (ah (gh (l:=0) (h:=i) Z bh Z Z ⟨_,Z⟩ (by first|omega|(simp only[Ol];omega)) (by first|omega|(simp only[Ol];omega)) (ei _)) (by simp only[Q4,PQ]))<|ag (t:=nI ((s.cols.take i).length)) Z Z Z (ah (aW Z bh Z) (by simp only[Ol]))<|aa 1 Z<|af<|aA<|aO (fun w z=>∃(j:Nat),(j<=(s.cols.take i).length/\∀k (u:k<(s.cols.take i).length),k<j->((s.cols.take i)[k].name.toList==c.name.toList)=false)/\w=(s.cols.take i).length-j/\z=⟨69,[(1,.box 0 0),(3,nI i),(4,.box 1 0),(24,.sl (s.cols.map Col.tree)),(25,nI s.cols.length),(26,nI i),(56,.sl ((s.cols.take i).map Col.tree)),(57,nI ((s.cols.take i).length)),(58,nI j)],[(26,(fm s)),(58,[sT c.name,iT c.ty,bT c.key])],[]⟩) 2 0 ⟨0,⟨by omega,fun k u h=>by omega⟩,Z,Z⟩ .rf ?_;rintro w z ⟨j,⟨G,o⟩,rfl,rfl⟩;have C:(s.cols.take i).length<=6:=by rw[Ox];omega
  refine ab<|ae<|ag (t:=bT (decide (j<(s.cols.take i).length))) Z Z Z (ah (ai Z Z Z Zy) (au (gK j ((s.cols.take i).length))))<|af<|ab<|aD Z (fun A=>?_) (fun A=>?_)
  ·obtain⟨d,q⟩:∃d,(s.cols.take i)[j]? =some d:=⟨_,Og A⟩;refine ar<|ab<|aA<|ab<|ae<|ag (t:=.ref [sT d.name,iT d.ty,bT d.key]) Z Z Z (aK (Col.tree d) Z bh Z Z Z (aX (f:=Col.tree) q) (ei _) Z)<|aa 3 Z<|af<|ab<|ae<|aa 4 Z<|ag (t:=bT (d.name.toList==c.name.toList)) Z Z Z (ai Z Z Z Zy)<|af<|aH Z (fun p=>?_) (fun p=>?_)
   ·refine ab<|aj 1 Z<|ax<|⟨.inr Z,_,.cons Z .nil,au (by unfold gt;rw[<-g,show(s.cols.take i).any (fun d=>d.name.toList==c.name.toList)=true from Q1.2 ⟨d,Om q,p⟩];simp),Z⟩
   refine ar<|ae<|ag (t:=nI (j+1)) Z Z Z (ah (ai Z Z Z Zy) (bp (by omega)))<|aa 1 Z<|af<|⟨_,_,?_,⟨j+1,?_,Z,Z⟩,.rf⟩
   ·omega
   refine⟨by omega,fun k u h=>?_⟩;rcases OS k j with B|B
   ·exact o k u B
   obtain rfl:k=j:=by omega
   obtain⟨_,e⟩:=Ok.1 q;rw[e];exact p
  refine aQ<|ae<|ag (t:=nI (i+1)) Z Z Z (ah (ai Z Z Z Zy) (bp (by omega)))<|aa 1 Z<|af<|⟨_,_,?_,⟨i+1,?_,Z,Z⟩,.rf⟩
  ·omega
  refine⟨by omega,?_⟩;rw[<-g,show me s.cert c=false from r,Qj.2 fun x D=>?_]
  ·simp
  obtain⟨k,u,rfl⟩:=Pv D;exact by simpa using o k u (by omega)
 refine aQ<|ab<|aj 1 Z<|ax<|⟨.inr Z,_,.cons Z .nil,au (by unfold gt;rw[show kz s=false from m,<-g,Ov (by omega)];rfl),Z⟩
theorem zw(ng:Bool)(N D:Nat):eh (!ng) N D= -eh ng N D:=by
 unfold eh;rw[Rat.neg_mkRat];cases ng<;>simp
theorem Kg(p q:Rat)(b:Fit 262144 p)(a:Fit 262144 q):Ct 132 [dA p,iH (!decide (q.num<0)) q.num.natAbs q.den] (dA (p-q)):=by
 have:=Hn (decide (p.num<0)) (!decide (q.num<0)) p.num.natAbs p.den q.num.natAbs q.den b.num b.den a.num a.den;rw[zw,fU,fU,<-Rat.sub_eq_add_neg]at this;exact this
def cF(q:Rat):Int:=q.num.sign
theorem EO(q:Rat):qW (decide (q.num<0)) q.num.natAbs q.den=cF q:=by
 unfold qW cF;have:=q.den_nz;rcases Rz q.num 0 with h|h|h
 ·rw[if_neg (by omega),if_neg this,decide_eq_true h,Qa h];rfl
 ·rw[h];rfl
 rw[if_neg (by omega),if_neg this,decide_eq_false (by omega),Qi h];rfl
theorem lk(q:Rat)(h:Fit 262144 q):Ct 66 [dA q] (iT (cF q)):=by
 have:=xS (decide (q.num<0)) q.num.natAbs q.den h.num h.den;rw[EO]at this;exact this
theorem pH(q:Rat)(h:Fit 262144 q):Ct 107 [dA q] (dA q):=by
 have:=sk (decide (q.num<0)) q.num.natAbs q.den h.num h.den;rw[fU]at this;exact this
theorem sm:Fit 262144 1:=⟨by decide,by decide⟩
theorem j3(q:Rat):cF q<0↔q<0:=by
 unfold cF;rw[Int.sign_neg_iff,<-Rat.not_le,<-Rat.num_nonneg];omega
theorem vT(q:Rat):cF q=0↔q=0:=by
 unfold cF;rw[R6,Rat.num_eq_zero]
def iA(cert:Bool)(q:Rat):Bool:= !((decide (cF q<0)||decide (cF (1-q)<0))||(cert&&(cF (1-q) !=0)))&&decide (bP q.den<=65536)
theorem pI:LC Tryz.prog 65 2=some 2:=by kernel_rfl
theorem qX:Tryz.prog.underlying 2=some (.int .i64):=by kernel_rfl
theorem cj:Tryz.prog.underlying 89=some (.int .u64):=by kernel_rfl
theorem Kh(p q:Rat)(b:Fit 262144 p)(a:Fit 262144 q):Ct 130 [dA p,dA q] (dA (p-q)):=by
 refine Ct.of (n:=9) Tryz.func130 Z Z Z Z Z fun w0 G0=>?_
 refine ab<|aj 3 Z<|ab<|dS (ops:=[_,_,_,_]) (fu:=5) (bs':=[(65,(aZ p)),(65,(aZ q)),(65,[bT (decide ((p-q).num<0)),aG ((p-q).num.natAbs),aG ((p-q).den)])]) [some 5,some 6,some 7,some 8] [.agg (aZ p),.agg (aZ q),.agg [bT (!decide (q.num<0)),aG q.num.natAbs,aG q.den],.agg [bT (decide ((p-q).num<0)),aG ((p-q).num.natAbs),aG ((p-q).den)]] (by kernel_rfl) Z Z Z Z Z (by kernel_rfl) (by kernel_rfl) Z Z Z Z Z Z Z Z fB Z Z Z ?_ ?_
 ·refine Chain.op Z (aR Z Z Z aI Z Z)<|Chain.op Z (aR Z Z Z aI Z Z)<|Chain.op Z (ak Z (L8 _ _ _) Z Z)<|Chain.op Z (ak Z (Kg p q b a) Z Z)<|Chain.nil
 refine ax<|⟨.inr Z,_,.cons ⟨_,_,_,_,Z,Z,.inl ⟨_,aI,Z,Z⟩⟩ .nil,Z,Z⟩
theorem tJ(q:Rat)(a:Fit 262144 q):Ct 67 [dA q] (dA (1-q)):=by
 refine Ct.of (n:=6) Tryz.func67 Z Z Z Z Z fun w0 G0=>?_
 refine ab<|aj 2 Z<|ab<|dS (ops:=[_,_,_]) (fu:=4) (bs':=[(65,(aZ q)),(65,[bT (decide ((1-q).num<0)),aG ((1-q).num.natAbs),aG ((1-q).den)])]) [some 3,some 4,some 5] [.agg [bT (decide ((1:Rat).num<0)),aG ((1:Rat).num.natAbs),aG ((1:Rat).den)],.agg (aZ q),.agg [bT (decide ((1-q).num<0)),aG ((1-q).num.natAbs),aG ((1-q).den)]] (by kernel_rfl) Z Z Z Z Z (by kernel_rfl) (by kernel_rfl) Z Z Z Z Z Z Z Z fB Z Z Z ?_ ?_
 ·refine Chain.op Z (ak Z L7 Z Z)<|Chain.op Z (aR Z Z Z aI Z Z)<|Chain.op Z (ak Z (Kh 1 q sm a) Z Z)<|Chain.nil
 refine ax<|⟨.inr Z,_,.cons ⟨_,_,_,_,Z,Z,.inl ⟨_,aI,Z,Z⟩⟩ .nil,Z,Z⟩
theorem pJ(n:Int)(c: -9223372036854775808<=n)(b:n<=9223372036854775807):Ct 146 [iT n] (aG n.natAbs):=by
 refine Ct.of (n:=14) Tryz.func146 Z Z Z Z Z fun w0 G0=>?_
 refine ab<|ae<|ag (t:=.sl []) Z Z Z (bI (.inr Z) bQ)<|af<|ab<|ab<|ae<|aa 1 Z<|ag (t:=bT (decide (n<0))) Z Z Z (ai Z Z Z Zy)<|af<|aD Z (fun a=>?_) (fun a=>?_)
 ·refine ab<|ae<|aa 1 Z<|ag (t:=iT (n+1)) Z Z Z (ah (ai Z Z Z Zy) (ez (by rw[Pj];omega)))<|ag (t:=iT (-(n+1))) Z Z Z (ah (dw Z Z Zy) (ez (by rw[Pj];omega)))<|ag (t:=.sc (.int .u64 (-(n+1)))) Z Z Z (ah (bM Z qX cj Z) (ez (by rw[IntKind.wrap_u64];omega)))<|ag (t:=.sc (.int .u64 ((n.natAbs:Nat):Int))) Z Z Z (ah (ai Z Z Z Zy) (ez (by rw[IntKind.wrap_u64];omega)))<|ag Z Z Z (ak Z (iy n.natAbs (by omega)) Z Z)<|aa 1 Z<|af<|ax<|⟨.inr Z,_,.cons Z .nil,Z,Z⟩
 refine ar<|ab<|ae<|aa 1 Z<|ag (t:=.sc (.int .u64 ((n.natAbs:Nat):Int))) Z Z Z (ah (bM Z qX cj Z) (ez (by rw[IntKind.wrap_u64];omega)))<|ag Z Z Z (ak Z (iy n.natAbs (by omega)) Z Z)<|aa 1 Z<|af<|ax<|⟨.inr Z,_,.cons Z .nil,Z,Z⟩
theorem xU(s:Sch)(q:Rat)(e:Fit 262144 q)(d:Fit 262144 (1-q)):Ct 122 [s.tree,dA q] (bT (iA s.cert q)):=by
 refine Ct.of (n:=30) Tryz.func122 Z Z Z Z Z fun w0 G0=>?_
 refine ab<|aj 3 Z<|ab<|ae<|aa 1 Z<|ag Z Z Z (ak Z (tJ q e) Z Z)<|aa 2 Z<|af<|ab<|ab<|ae<|aa 1 Z<|ag Z Z Z (ak Z (lk q e) Z Z)<|ag (t:=bT (decide ((cF q)<0))) Z Z Z (ai Z Z Z Zy)<|aa 1 Z<|aw (t:=.agg [bT (decide ((1-q).num<0)),aG ((1-q).num.natAbs),aG ((1-q).den)]) Z Z Z Z (fun a=>aR Z Z Z aI Z Z)<|aw (t:=iT (cF (1-q))) Z Z Z Z (fun a=>ak Z (lk (1-q) d) (eo (if_pos a) Z) Z)<|aw (t:=bT (decide ((cF (1-q))<0))) Z Z Z Z (fun a=>ai Z (if_pos a) Z (fun _=>rfl))<|ag (t:=bT ((decide ((cF q)<0))||(decide ((cF (1-q))<0)))) Z Z Z (aL Z Z (fun b=>(au (by rw[b];rfl))) (fun b=>(if_pos b).trans (au (by rw[b];rfl))))<|aa 1 Z<|aw (t:=.box 0 1) Z Z Z Z (fun a=>aq Z Z fq Z)<|aw (t:=bT s.cert) Z Z Z Z (fun a=>ay Z (if_pos a) Z ej Z)<|aw (t:=bT s.cert) Z Z Z Z (fun a=>av Z (if_pos a))<|ce (t:=.agg [bT (decide ((1-q).num<0)),aG ((1-q).num.natAbs),aG ((1-q).den)]) Z Z Z Z (fun a=>aR Z Z Z aI Z Z)<|ce (t:=iT (cF (1-q))) Z Z Z Z (fun a=>ak Z (lk (1-q) d) (eo (if_pos a) Z) Z)<|ce (t:=bT ((cF (1-q)) !=0)) Z Z Z Z (fun a=>ai Z (if_pos a) Z (fun _=>rfl))<|aw (t:=bT (s.cert&&((cF (1-q)) !=0))) Z Z Z Z (fun a=>aL Z (if_pos a) (fun b=>(if_pos ⟨a,b⟩).trans (au (by rw[b];rfl))) (fun b=>(au (by rw[b];rfl))))<|ag (t:=bT (((decide ((cF q)<0))||(decide ((cF (1-q))<0)))||(s.cert&&((cF (1-q)) !=0)))) Z Z Z (aL Z Z (fun b=>(au (by rw[b];rfl))) (fun b=>(if_pos b).trans (au (by rw[b];rfl))))<|af<|aH Z (fun c=>?_) (fun c=>?_)
 ·refine ab<|aj 1 Z<|ax<|⟨.inr Z,_,.cons Z .nil,au (by unfold iA;rw[c];rfl),Z⟩
 refine ar<|ab<|ae<|aa 1 Z<|ag Z Z Z (ak Z (pH q e) Z Z)<|ag (t:=aG q.den) Z Z Z (De Z Z pI Z)<|ag Z Z Z (ak Z (jG q.den e.den) Z Z)<|ag (t:=bT (decide (bP q.den<=65536))) Z Z Z (ah (ai Z Z Z Zy) (au (F0 (bP q.den) 65536)))<|aa 1 Z<|af<|ax<|⟨.inr Z,_,.cons Z .nil,au (by unfold iA;rw[c];rfl),Z⟩
theorem rA{cs:List Col}{vs:List V}{i:Nat}{c:Col}{v:V}(d:cs[i]? =some c)(e:vs[i]? =some v):eu (cs.drop i) (vs.drop i)=if c.key then v::eu (cs.drop (i+1)) (vs.drop (i+1))else eu (cs.drop (i+1)) (vs.drop (i+1)):=by
 obtain⟨b,rfl⟩:=Ok.1 d;obtain⟨a,rfl⟩:=Ok.1 e;rw[Ow b,Ow a,eu]
theorem NL{l m:List V}(h:l=m):(Tree.sl (l.map V.tree))=.sl (m.map V.tree):=by rw[h]
theorem tK{vs:List V}{ts:List Tp}{i:Nat}{t:Tp}(h:ts[i]? =some t):mN vs (ts.drop i) i=if bg t.vals vs=0 then some i else mN vs (ts.drop (i+1)) (i+1):=by
 obtain⟨a,rfl⟩:=Ok.1 h;rw[Ow a,mN]
def vU(o:Option Nat):Tree:=.tup [.sc (.int .i64 ((o.getD 0:Nat):Int)),.sc (.bool o.isSome)]
def fF:List Col->List V->Bool
 |c::cs,v::vs=>((v.t !=c.ty)|| !v.ok)||fF cs vs
 |_,_=>false
theorem pK{cs:List Col}{vs:List V}{i:Nat}{c:Col}{v:V}(d:cs[i]? =some c)(e:vs[i]? =some v):fF (cs.drop i) (vs.drop i)=(((v.t !=c.ty)|| !v.ok)||fF (cs.drop (i+1)) (vs.drop (i+1))):=by
 obtain⟨b,rfl⟩:=Ok.1 d;obtain⟨a,rfl⟩:=Ok.1 e;rw[Ow b,Ow a,fF]
def bV(s:Sch)(t:Tp):Int:=if gt s=false then 1 else if t.vals.length≠s.cols.length then 13 else if fF s.cols t.vals then 13 else if iA s.cert t.prob then 0 else 19
structure FitT (t:Tp):Prop where
 p:Fit 262144 t.prob
 q:Fit 262144 (1-t.prob)
theorem ll{s:Sch}(h:gt s=true):1<=s.cols.length/\s.cols.length<=6:=by
 unfold gt kz at h;simp only[Pu,OH,decide_eq_false_iff_not]at h;omega
theorem gA:rT Tryz.prog 26=some 3:=by kernel_rfl
theorem eT:rT Tryz.prog 67=some 4:=by kernel_rfl
theorem mj:rT Tryz.prog 77=some 3:=by kernel_rfl
theorem iP:jP Tryz.prog 61=some (77,3,32):=by kernel_rfl
theorem aM:gS Tryz.prog 28=some (67,4):=by kernel_rfl
theorem bw:gS Tryz.prog 61=some (77,3):=by kernel_rfl
theorem a6:jm Tryz.prog 30 1=some 3:=by kernel_rfl
theorem bW:jm Tryz.prog 67 0=some 0:=by kernel_rfl
theorem d5:jm Tryz.prog 67 1=some 1:=by kernel_rfl
theorem pL:jm Tryz.prog 77 0=some 0:=by kernel_rfl
theorem bz:ja Tryz.prog 28=true:=by kernel_rfl
theorem cJ:ja Tryz.prog 61=true:=by kernel_rfl
theorem tL:(Tryz.prog.info? 67).map (·.size)=some 4:=by kernel_rfl
theorem Ma:(Tryz.prog.info? 77).map (·.size)=some 3:=by kernel_rfl
theorem gB:gJ Tryz.prog 67=some [.slice none 0 0,.bool false,.slice none 0 0,.slice none 0 0]:=by kernel_rfl
theorem gC:gJ Tryz.prog 77=some [.int .i64 0,.int .i64 0,.string (⟨#[]⟩)]:=by kernel_rfl
theorem B4(s:Sch)(vs:List V)(w:s.cols.length<=65536):Ct 125 [s.tree,.sl (vs.map V.tree)] (.sl ((aJ s vs).map V.tree)):=by
 refine Ct.of (n:=33) Tryz.func125 Z Z Z Z Z fun w0 G0=>?_
 refine ab<|ae<|aa 1 Z<|ag (t:=.sl []) Z Z Z (bI (.inr Z) bQ)<|af<|ab<|ab<|ae<|aa 1 Z<|ag (t:=nI vs.length) Z Z Z (ah (aW Z bw Z) (by simp only[Ol]))<|aa 2 Z<|ag (t:=nI s.cols.length) Z Z Z (ah (aW Z bh Z) (by simp only[Ol]))<|ag (t:=bT (decide (vs.length≠s.cols.length))) Z Z Z (ah (ai Z Z Z Zy) (au (qC vs.length s.cols.length)))<|af<|aD Z (fun d=>?_) (fun d=>?_)
 ·refine ab<|ae<|ag (t:=.sl []) Z Z Z (bI (.inr Z) bQ)<|af<|ax<|⟨.inr Z,_,.cons Z .nil,NL (by unfold aJ;rw[if_neg d]) (l:=[]),Z⟩
 have j:vs.length=s.cols.length:=PV.1 d;refine ar<|ab<|ae<|fY (k:=0) (e:=77) (sz:=3) (rs':=[some ⟨77,3,[],false⟩]) (.inr Z) Z Z Z Z Z<|af<|ab<|ab<|ae<|aa 2 Z<|ag (t:=nI s.cols.length) Z Z Z (ah (aW Z bh Z) (by simp only[Ol]))<|aa 1 Z<|af<|aA<|aO (fun p r=>∃(i:Nat) (b:List V),(i<=s.cols.length/\b.length<=i/\b++eu (s.cols.drop i) (vs.drop i)=eu s.cols vs)/\p=s.cols.length-i/\r=⟨33,[(1,.sl (vs.map V.tree)),(2,.box 0 0),(5,.own 0),(15,.sl (s.cols.map Col.tree)),(16,nI s.cols.length),(17,nI i)],[(26,(fm s))],[some ⟨77,3,b.map V.tree,false⟩]⟩) 1 1 ⟨0,[],⟨by omega,by simp,Z⟩,Z,Z⟩ .rf ?_;rintro p r ⟨i,b,⟨x,u,a⟩,rfl,rfl⟩;refine ab<|ae<|ag (t:=bT (decide (i<s.cols.length))) Z Z Z (ah (ai Z Z Z Zy) (au (gK i s.cols.length)))<|af<|ab<|aD Z (fun m=>?_) (fun m=>?_)
 ·obtain⟨c,o⟩:∃c,s.cols[i]? =some c:=⟨_,Og m⟩;obtain⟨v,h⟩:∃v,vs[i]? =some v:=⟨_,Og (by omega)⟩;rw[rA o h]at a;refine ar<|ab<|aA<|ab<|ae<|aa 1 Z<|ag (t:=.ref [sT c.name,iT c.ty,bT c.key]) Z Z Z (aK (Col.tree c) Z bh Z Z Z (aX (f:=Col.tree) o) (ei _) Z)<|aa 4 Z<|af<|ab<|aj 2 Z<|aH Z (fun g=>?_) (fun g=>?_)
  ·rw[if_pos g]at a;refine ae<|aa 3 rfl<|ag (t:=.ref [iT v.t,iT v.n,sT v.s]) rfl rfl rfl (aK (V.tree v) rfl bw rfl rfl rfl (aX (f:=V.tree) h) (gc _) rfl)<|aa 1 rfl<|ag (t:=.sl [.agg [iT v.t,iT v.n,sT v.s]]) rfl rfl rfl (aN rfl bw gC rfl (by decide) (by decide) rfl rfl rfl rfl rfl)<|a8 (bs':=[(26,(fm s)),(58,[sT c.name,iT c.ty,bT c.key])]) (rs':=[some ⟨77,3,(b++[v]).map V.tree,false⟩]) rfl rfl rfl rfl iP rfl rfl rfl rfl (by intro e q;simp only[OC,O8,or_false]at q;subst q;rfl) (AllC.lit rfl) (AllC.lit rfl) (by simp only[Ol,Oi,Ou];omega) rfl rfl rfl (by rw[PE];rfl)<|aa 1 rfl<|af<|ae<|ag (t:=nI (i+1)) rfl rfl rfl (ah (ai rfl rfl rfl Zy) (bp (by omega)))<|aa 1 rfl<|af<|⟨_,_,?_,⟨i+1,(b++[v]),?_,rfl,rfl⟩,.rf⟩
   ·omega
   exact⟨by omega,by first|omega|(simp only[Oj,Oi,Ou];omega),by first|exact a|(rw[<-a];simp)⟩
  rw[if_neg (by rw[g];exact Pd)]at a;refine ar<|ae<|ag (t:=nI (i+1)) Z Z Z (ah (ai Z Z Z Zy) (bp (by omega)))<|aa 1 Z<|af<|⟨_,_,?_,⟨i+1,b,?_,Z,Z⟩,.rf⟩
  ·omega
  exact⟨by omega,by first|omega|(simp only[Oj,Oi,Ou];omega),by first|exact a|(rw[<-a];simp)⟩
 refine dI 0 (bs':=[(26,(fm s))]) (rs':=[none]) Z Z Z Z<|aQ<|ab<|aj 2 Z<|ax<|⟨.inr Z,_,.cons Z .nil,NL (by unfold aJ;rw[if_pos j,<-a,Ov (by omega)];simp[eu]),Z⟩
theorem Ki(r:Rel)(vs:List V)(k:vs.length<=65536)(m:r.tups.length<=65536)(g:∀t∈r.tups,t.vals.length<=65536):Ct 80 [r.tree,.sl (vs.map V.tree)] (vU (mN vs r.tups 0)):=by
 refine Ct.of (n:=23) Tryz.func80 Z Z Z Z Z fun w0 G0=>?_
 refine ab<|aj 3 Z<|ab<|ab<|ae<|aa 2 Z<|ag (t:=nI r.tups.length) Z Z Z (ah (aW Z aM Z) (by simp only[Ol]))<|aa 1 Z<|af<|aA<|aO (fun h j=>∃(i:Nat),(i<=r.tups.length/\mN vs (r.tups.drop i) i=mN vs r.tups 0)/\h=r.tups.length-i/\j=⟨23,[(1,.sl (vs.map V.tree)),(9,.sl (r.tups.map Tp.tree)),(10,nI r.tups.length),(11,nI i)],[(30,(a7 r))],[]⟩) 1 0 ⟨0,⟨by omega,Z⟩,Z,Z⟩ .rf ?_;rintro h j ⟨i,⟨l,a⟩,rfl,rfl⟩;refine ab<|ae<|ag (t:=bT (decide (i<r.tups.length))) Z Z Z (ah (ai Z Z Z Zy) (au (gK i r.tups.length)))<|af<|ab<|aD Z (fun d=>?_) (fun d=>?_)
 ·obtain⟨t,b⟩:∃t,r.tups[i]? =some t:=⟨_,Og d⟩;have e:=g t (Om b);rw[tK b]at a;refine ar<|ab<|aA<|ab<|ae<|aa 1 Z<|ag (t:=.ref (bY t)) Z Z Z (aK (Tp.tree t) Z aM Z Z Z (aX (f:=Tp.tree) b) (bS _) Z)<|aa 4 Z<|af<|ab<|ae<|aa 3 Z<|ag Z Z Z (ak Z (jF _ _ e k) Z Z)<|ag (t:=bT ((bg t.vals vs)==0)) Z Z Z (ai Z Z Z Zy)<|af<|aH Z (fun c=>?_) (fun c=>?_)
  ·refine ab<|aj 3 Z<|ax<|⟨.inr Z,_,.cons Z (.cons Z .nil),by unfold vU;rw[<-a,if_pos (by simpa using c)];rfl,Z⟩
  refine ar<|ae<|ag (t:=nI (i+1)) Z Z Z (ah (ai Z Z Z Zy) (bp (by omega)))<|aa 1 Z<|af<|⟨_,_,?_,⟨i+1,?_,Z,Z⟩,.rf⟩
  ·omega
  exact⟨by omega,by rw[<-a,if_neg (by simpa using c)]⟩
 refine aQ<|ab<|aj 2 Z<|ax<|⟨.inr Z,_,.cons Z (.cons Z .nil),by unfold vU;rw[<-a,Ov (by omega)];rfl,Z⟩
theorem zx(s:Sch)(t:Tp)(x:FitT t):Ct 63 [s.tree,t.tree] (iT (bV s t)):=by
 refine Ct.of (n:=45) Tryz.func63 Z Z Z Z Z fun w0 G0=>?_
 refine ab<|aj 3 Z<|ab<|ab<|ae<|aa 1 Z<|ag Z Z Z (ak Z (j2 s) Z Z)<|ag (t:=bT (!(gt s))) Z Z Z (dw Z Z Zy)<|af<|aH Z (fun g=>?_) (fun g=>?_)
 ·refine ab<|aj 1 Z<|ax<|⟨.inr Z,_,.cons Z .nil,ez (by unfold bV;rw[if_pos (by simpa using g)]),Z⟩
 have d:gt s=true:=by simpa using g
 have y:=ll d;refine ar<|ab<|ab<|ae<|aa 2 Z<|ag (t:=nI t.vals.length) Z Z Z (ah (aW Z bw Z) (by simp only[Ol]))<|aa 2 Z<|ag (t:=nI s.cols.length) Z Z Z (ah (aW Z bh Z) (by simp only[Ol]))<|ag (t:=bT (decide (t.vals.length≠s.cols.length))) Z Z Z (ah (ai Z Z Z Zy) (au (qC t.vals.length s.cols.length)))<|af<|aD Z (fun b=>?_) (fun b=>?_)
 ·refine ab<|aj 1 Z<|ax<|⟨.inr Z,_,.cons Z .nil,ez (by unfold bV;rw[if_neg (by rw[d];simp),if_pos b]),Z⟩
 have w:t.vals.length=s.cols.length:=PV.1 b;refine ar<|ab<|ab<|ae<|aa 2 Z<|ag (t:=nI t.vals.length) Z Z Z (ah (aW Z bw Z) (by simp only[Ol]))<|aa 1 Z<|af<|aA<|aO (fun r u=>∃(i:Nat),(i<=t.vals.length/\fF (s.cols.drop i) (t.vals.drop i)=fF s.cols t.vals)/\r=t.vals.length-i/\u=⟨45,[(2,.box 0 0),(3,.box 1 0),(18,.sl (t.vals.map V.tree)),(19,nI t.vals.length),(20,nI i)],[(26,(fm s)),(67,(bY t))],[]⟩) 2 0 ⟨0,⟨by omega,Z⟩,Z,Z⟩ .rf ?_;rintro r u ⟨i,⟨z,a⟩,rfl,rfl⟩;refine ab<|ae<|ag (t:=bT (decide (i<t.vals.length))) Z Z Z (ah (ai Z Z Z Zy) (au (gK i t.vals.length)))<|af<|ab<|aD Z (fun k=>?_) (fun k=>?_)
 ·obtain⟨v,j⟩:∃v,t.vals[i]? =some v:=⟨_,Og k⟩;obtain⟨c,l⟩:∃c,s.cols[i]? =some c:=⟨_,Og (by omega)⟩;rw[pK l j]at a;refine ar<|ab<|aA<|ab<|ae<|aa 1 Z<|ag (t:=.ref [iT v.t,iT v.n,sT v.s]) Z Z Z (aK (V.tree v) Z bw Z Z Z (aX (f:=V.tree) j) (gc _) Z)<|aa 4 Z<|af<|ab<|ck (fu:=14) [some 25,some 26,some 27,some 28,some 29,some 30,some 31,some 32,some 33,some 34,some 35,some 36,some 37,some 38] [.box 2 0,iT v.t,.box 0 2,.sl (s.cols.map Col.tree),nI i,.ref [sT c.name,iT c.ty,bT c.key],.ref [iT c.ty,bT c.key],iT c.ty,bT (v.t !=c.ty),bT (v.t !=c.ty),if(v.t !=c.ty)=false then(.agg [iT v.t,iT v.n,sT v.s]:Tree)else .sc undef,if(v.t !=c.ty)=false then(bT v.ok:Tree)else .sc undef,if(v.t !=c.ty)=false then(bT (!v.ok):Tree)else .sc undef,bT ((v.t !=c.ty)||(!v.ok))] (by kernel_rfl) Z Z (by kernel_rfl) Z ?_ ?_
  ·refine Chain.op Z (aq Z Z pL Z)<|Chain.op Z (ay Z Z Z eQ Z)<|Chain.op Z (aq Z Z cY Z)<|Chain.op Z (ay Z Z Z ek Z)<|Chain.op Z (av Z Z)<|Chain.op Z (aK (Col.tree c) Z bh Z Z Z (aX (f:=Col.tree) l) (ei _) Z)<|Chain.op Z (bu Z Z ft Z)<|Chain.op Z (be Z Z eQ Z)<|Chain.op Z (ai Z Z Z Zy)<|Chain.op Z (av Z Z)<|aU Z Z Z (fun m=>aR Z Z Z mj Z Z)<|aU Z Z Z (fun m=>ak Z (Hi v) (eo (if_pos m) Z) Z)<|aU Z Z Z (fun m=>dw Z (if_pos m) (fun _=>rfl))<|Chain.op Z (aL Z Z (fun o=>(au (by rw[o];rfl))) (fun o=>(if_pos o).trans (au (by rw[o];rfl))))<|Chain.nil
  refine aH Z (fun h=>?_) (fun h=>?_)
  ·refine ab<|aj 1 Z<|ax<|⟨.inr Z,_,.cons Z .nil,ez (by unfold bV;rw[if_neg (by rw[d];simp),if_neg b,if_pos (by rw[<-a,h];rfl)]),Z⟩
  refine ar<|ae<|ag (t:=nI (i+1)) Z Z Z (ah (ai Z Z Z Zy) (bp (by omega)))<|aa 1 Z<|af<|⟨_,_,?_,⟨i+1,?_,Z,Z⟩,.rf⟩
  ·omega
  exact⟨by omega,by rw[<-a,h];rfl⟩
 refine aQ<|ab<|ab<|ae<|aa 3 Z<|ag Z Z Z (ak Z (xU s t.prob x.p x.q) Z Z)<|ag (t:=bT (!(iA s.cert t.prob))) Z Z Z (dw Z Z Zy)<|af<|aH Z (fun e=>?_) (fun e=>?_)
 ·refine ab<|aj 1 Z<|ax<|⟨.inr Z,_,.cons Z .nil,ez (by unfold bV;rw[if_neg (by rw[d];simp),if_neg b,if_neg (by rw[<-a,Ov (by omega:t.vals.length<=i)];cases s.cols.drop i<;>simp[fF]),if_neg (by simpa using e)]),Z⟩
 refine ar<|ab<|aj 1 Z<|ax<|⟨.inr Z,_,.cons Z .nil,ez (by unfold bV;rw[if_neg (by rw[d];simp),if_neg b,if_neg (by rw[<-a,Ov (by omega:t.vals.length<=i)];cases s.cols.drop i<;>simp[fF]),if_pos (by simpa using e)]),Z⟩
theorem zy{s:Sch}{key:List V}{ts:List Tp}{i:Nat}{t:Tp}(h:ts[i]? =some t):b8 s key (ts.drop i) i=if bg (aJ s t.vals) key=0 then i::b8 s key (ts.drop (i+1)) (i+1)else b8 s key (ts.drop (i+1)) (i+1):=by
 obtain⟨a,rfl⟩:=Ok.1 h;rw[Ow a,b8]
theorem tM:∀(cs:List Col) (vs:List V),(eu cs vs).length<=cs.length
 |[],vs=>by cases vs<;>simp[eu]
 |c::cs,[]=>by simp[eu]
 |c::cs,v::vs=>by
  have:=tM cs vs;simp only[eu];split<;>simp<;>omega
theorem iQ(s:Sch)(vs:List V):(aJ s vs).length<=s.cols.length:=by
 unfold aJ;split
 ·exact tM _ _
 simp
theorem Oe{l m:List Nat}(h:l=m):(Tree.sl (l.map fV))=.sl (m.map fV):=by rw[h]
theorem Kj(ng:Bool)(N D:Nat)(q:Rat)(c:(az N).length<=262144)(b:(az D).length<=262144)(a:Fit 262144 q):Ct 132 [iH ng N D,dA q] (dA (eh ng N D+q)):=by
 have:=Hn ng (decide (q.num<0)) N D q.num.natAbs q.den c b a.num a.den;rw[fU]at this;exact this
theorem B5:jP Tryz.prog 23=some (3,1,8):=by kernel_rfl
theorem cL:gS Tryz.prog 23=some (3,1):=by kernel_rfl
theorem dl:jm Tryz.prog 30 0=some 0:=by kernel_rfl
theorem iR:gJ Tryz.prog 3=some [.int .i64 0]:=by kernel_rfl
theorem Ho(r:Rel)(a:List Nat)(m:∀i∈a,i<r.tups.length)(v:a.length<=65536)(o:∀t∈r.tups,Fit 262144 t.prob)(g:∀j,j<=a.length->Fit 262144 (eJ r.tups (a.take j))):Ct 68 [r.tree,.sl (a.map fV)] (dA (eJ r.tups a)):=by
 refine Ct.of (n:=25) Tryz.func68 Z Z Z Z Z fun w0 G0=>?_
 refine ab<|aj 2 Z<|ab<|aj 1 Z<|ab<|ab<|ae<|aa 1 Z<|ag (t:=nI a.length) Z Z Z (ah (aW Z cL Z) (by simp only[Ol]))<|aa 1 Z<|af<|aA<|aO (fun p q=>∃(j:Nat) (ng:Bool) (N:Nat) (D:Nat),(j<=a.length/\eh ng N D=eJ r.tups (a.take j)/\(az N).length<=262144/\(az D).length<=262144)/\p=a.length-j/\q=⟨25,[(2,.box 0 0),(4,.box 1 0),(5,.box 2 0),(8,.sl (a.map fV)),(9,nI a.length),(10,nI j)],[(30,(a7 r)),(65,[bT false,.sl [],.sl []]),(65,[bT ng,aG N,aG D])],[]⟩) 3 0 ⟨0,false,0,0,⟨by omega,by rw[nh];rfl,by decide,by decide⟩,Z,Z⟩ .rf ?_;rintro p q ⟨j,ng,N,D,⟨w,b,u,s⟩,rfl,rfl⟩;refine ab<|ae<|ag (t:=bT (decide (j<a.length))) Z Z Z (ah (ai Z Z Z Zy) (au (gK j a.length)))<|af<|ab<|aD Z (fun k=>?_) (fun k=>?_)
 ·obtain⟨i,c⟩:∃i,a[j]? =some i:=⟨_,Og k⟩;obtain⟨t,d⟩:∃t,r.tups[i]? =some t:=⟨_,Og (m i (Om c))⟩;have l:=o t (Om d);have e:=vQ c d;have h:=g (j+1) (by omega);refine ar<|ab<|aA<|ab<|ae<|ag (t:=.ref [nI i]) Z Z Z (aK (fV i) Z cL Z Z Z (aX (f:=fV) c) (rz _) Z)<|aa 2 Z<|af<|dS (ops:=[_,_,_,_,_,_,_,_]) (fu:=9) (bs':=[(30,(a7 r)),(65,[bT false,.sl [],.sl []]),(65,[bT (decide ((eh ng N D+t.prob).num<0)),aG ((eh ng N D+t.prob).num.natAbs),aG ((eh ng N D+t.prob).den)])]) [some 14,some 15,some 16,some 17,some 18,some 19,some 20,some 21] [.agg [bT ng,aG N,aG D],.box 0 3,.sl (r.tups.map Tp.tree),nI i,.ref (bY t),.ref (aZ t.prob),.agg (aZ t.prob),.agg [bT (decide ((eh ng N D+t.prob).num<0)),aG ((eh ng N D+t.prob).num.natAbs),aG ((eh ng N D+t.prob).den)]] (by kernel_rfl) Z Z Z Z Z (by kernel_rfl) (by kernel_rfl) Z Z Z Z Z Z Z Z fB Z Z Z ?_ ?_
  ·refine Chain.op Z (aR Z Z Z aI Z Z)<|Chain.op Z (aq Z Z a6 Z)<|Chain.op Z (ay Z Z Z bz Z)<|Chain.op Z (av Z Z)<|Chain.op Z (aK (Tp.tree t) Z aM Z Z Z (aX (f:=Tp.tree) d) (bS _) Z)<|Chain.op Z (bu Z Z d5 Z)<|Chain.op Z (cT Z Z aI Z Z)<|Chain.op Z (ak Z (Kj ng N D t.prob u s l) Z Z)<|Chain.nil
  refine ae<|ag (t:=nI (j+1)) Z Z Z (ah (ai Z Z Z Zy) (bp (by omega)))<|aa 1 Z<|af<|⟨_,_,?_,⟨j+1,_,_,_,?_,Z,Z⟩,.rf⟩
  ·omega
  refine⟨by omega,?_,?_,?_⟩
  ·rw[fU,e,b]
  ·rw[b,<-e];exact h.num
  rw[b,<-e];exact h.den
 refine aQ<|ab<|ae<|aa 1 Z<|ag Z Z Z (ak Z (sk ng N D u s) Z Z)<|aa 1 Z<|af<|ax<|⟨.inr Z,_,.cons ⟨_,_,_,_,Z,Z,.inl ⟨_,aI,Z,Z⟩⟩ .nil,pC (by rw[b,Oy (by omega)]),Z⟩
theorem B6(r:Rel)(vs:List V)(c:r.sch.cols.length<=65536)(u:r.tups.length<=65536):Ct 81 [r.tree,.sl (vs.map V.tree)] (.sl ((gw r vs).map fV)):=by
 refine Ct.of (n:=38) Tryz.func81 Z Z Z Z Z fun w0 G0=>?_
 refine ab<|ae<|aa 1 Z<|ag (t:=.sl []) Z Z Z (bI (.inr Z) bQ)<|af<|ab<|ae<|aa 3 Z<|ag Z Z Z (ak Z (B4 r.sch vs c) Z Z)<|aa 1 Z<|af<|ab<|ab<|ae<|aa 1 Z<|ag (t:=nI ((aJ r.sch vs).length)) Z Z Z (ah (aW Z bw Z) (by simp only[Ol]))<|ag (t:=bT (decide ((aJ r.sch vs).length=0))) Z Z Z (ah (ai Z Z Z Zy) (au (iF ((aJ r.sch vs).length) 0)))<|af<|aD Z (fun d=>?_) (fun d=>?_)
 ·refine ab<|ae<|ag (t:=.sl []) Z Z Z (bI (.inr Z) bQ)<|af<|ax<|⟨.inr Z,_,.cons Z .nil,Oe (by unfold gw;rw[if_pos (OB d)]) (l:=[]),Z⟩
 refine ar<|ab<|ae<|fY (k:=0) (e:=3) (sz:=1) (rs':=[some ⟨3,1,[],false⟩]) (.inr Z) Z Z Z Z Z<|af<|ab<|ab<|ae<|aa 2 Z<|ag (t:=nI r.tups.length) Z Z Z (ah (aW Z aM Z) (by simp only[Ol]))<|aa 1 Z<|af<|aA<|aO (fun m p=>∃(i:Nat) (b:List Nat),(i<=r.tups.length/\b.length<=i/\b++b8 r.sch (aJ r.sch vs) (r.tups.drop i) i=b8 r.sch (aJ r.sch vs) r.tups 0)/\m=r.tups.length-i/\p=⟨38,[(1,.sl (vs.map V.tree)),(2,.box 0 0),(5,.sl ((aJ r.sch vs).map V.tree)),(6,.own 0),(17,.sl (r.tups.map Tp.tree)),(18,nI r.tups.length),(19,nI i)],[(30,(a7 r))],[some ⟨3,1,b.map fV,false⟩]⟩) 1 1 ⟨0,[],⟨by omega,by simp,Z⟩,Z,Z⟩ .rf ?_;rintro m p ⟨i,b,⟨s,q,a⟩,rfl,rfl⟩;refine ab<|ae<|ag (t:=bT (decide (i<r.tups.length))) Z Z Z (ah (ai Z Z Z Zy) (au (gK i r.tups.length)))<|af<|ab<|aD Z (fun j=>?_) (fun j=>?_)
 ·obtain⟨t,h⟩:∃t,r.tups[i]? =some t:=⟨_,Og j⟩;rw[zy h]at a;refine ar<|ab<|aA<|ab<|ae<|aa 1 Z<|ag (t:=.ref (bY t)) Z Z Z (aK (Tp.tree t) Z aM Z Z Z (aX (f:=Tp.tree) h) (bS _) Z)<|aa 4 Z<|af<|ab<|ae<|aa 4 Z<|ag Z Z Z (ak Z (B4 r.sch t.vals c) Z Z)<|aa 1 Z<|ag Z Z Z (ak Z (jF _ _ (Oq (iQ _ _) c) (Oq (iQ _ _) c)) Z Z)<|ag (t:=bT ((bg (aJ r.sch t.vals) (aJ r.sch vs))==0)) Z Z Z (ai Z Z Z Zy)<|af<|aH Z (fun g=>?_) (fun g=>?_)
  ·rw[if_pos (eq_of_beq g)]at a;refine ae<|aa 2 rfl<|ag (t:=.sl [nI i]) rfl rfl rfl (aN rfl cL iR rfl (by decide) (by decide) rfl rfl rfl rfl rfl)<|a8 (bs':=[(30,(a7 r)),(67,(bY t))]) (rs':=[some ⟨3,1,(b++[i]).map fV,false⟩]) rfl rfl rfl rfl B5 rfl rfl rfl rfl (by intro e o;simp only[OC,O8,or_false]at o;subst o;rfl) (AllC.lit rfl) (AllC.lit rfl) (by simp only[Ol,Oi,Ou];omega) rfl rfl rfl (by rw[PE];rfl)<|aa 1 rfl<|af<|ae<|ag (t:=nI (i+1)) rfl rfl rfl (ah (ai rfl rfl rfl Zy) (bp (by omega)))<|aa 1 rfl<|af<|⟨_,_,?_,⟨i+1,(b++[i]),?_,rfl,rfl⟩,.rf⟩
   ·omega
   exact⟨by omega,by first|omega|(simp only[Oj,Oi,Ou];omega),by first|exact a|(rw[<-a];simp)⟩
  rw[if_neg (by simpa using g)]at a;refine ar<|ae<|ag (t:=nI (i+1)) Z Z Z (ah (ai Z Z Z Zy) (bp (by omega)))<|aa 1 Z<|af<|⟨_,_,?_,⟨i+1,b,?_,Z,Z⟩,.rf⟩
  ·omega
  exact⟨by omega,by first|omega|(simp only[Oj,Oi,Ou];omega),by first|exact a|(rw[<-a];simp)⟩
 refine dI 0 (bs':=[(30,(a7 r))]) (rs':=[none]) Z Z Z Z<|aQ<|ab<|aj 2 Z<|ax<|⟨.inr Z,_,.cons Z .nil,Oe (by unfold gw;rw[if_neg (fun e=>d (by rw[e];rfl)),<-a,Ov (by omega)];simp[b8]),Z⟩
def qY(p q:Rat):Int:=if p<q then-1 else if q<p then 1 else 0
theorem zz(a b:Nat):fz (a:Int) (b:Int)=if a<b then-1 else if b<a then 1 else 0:=by
 unfold fz;by_cases h:a<b
 ·rw[if_pos h,if_pos (by omega)]
 by_cases c:b<a
 ·rw[if_neg h,if_pos c,if_neg (by omega),if_pos (by omega)]
 rw[if_neg h,if_neg c,if_neg (by omega),if_neg (by omega)]
theorem DQ{p q:Rat}(h:cF p<cF q):p<q:=by
 unfold cF at h;rw[Rat.lt_iff];have c:=p.den_pos;have e:=q.den_pos;rcases Rz p.num 0 with a|a|a<;>rcases Rz q.num 0 with b|b|b<;>
  first
   |(rw[Qa a,Qa b]at h;omega)
   |(rw[Qi a,Qi b]at h;omega)
   |(rw[a,b]at h;simp at h)
   |(rw[Qi a,Qa b]at h;omega)
   |(rw[a,Qa b]at h;simp at h)
   |(rw[Qi a,b]at h;simp at h)
   |skip
 ·rw[b];simp only[Int.zero_mul];exact R7 a (by omega)
 ·have f:p.num*q.den<0:=R7 a (by omega);have d:0<q.num*p.den:=Int.mul_pos b (by omega);omega
 rw[a];simp only[Int.zero_mul];exact Int.mul_pos b (by omega)
theorem zA{p q:Rat}(h:cF p=cF q):cF p*fz ((p.num.natAbs*q.den:Nat):Int) ((q.num.natAbs*p.den:Nat):Int)=qY p q:=by
 have e:p<q↔p.num*q.den<q.num*p.den:=Rat.lt_iff p q;have d:q<p↔q.num*p.den<p.num*q.den:=Rat.lt_iff q p;unfold qY;simp only[e,d];rw[zz];unfold cF at h⊢;rcases Rz p.num 0 with a|a|a
 ·rw[Qa a]at h⊢;have b:q.num<0:=Int.sign_neg_iff.1 (by omega);have c:((p.num.natAbs*q.den:Nat):Int)= -(p.num*q.den):=by push_cast;rw[R0 (by omega)];simp[SV]
  have f:((q.num.natAbs*p.den:Nat):Int)= -(q.num*p.den):=by push_cast;rw[R0 (by omega)];simp[SV]
  generalize p.num.natAbs*q.den=A at*;generalize q.num.natAbs*p.den=B at*;generalize p.num*(q.den:Int)=X at*;generalize q.num*(p.den:Int)=Y at*;split<;>split<;>first|omega|(split<;>omega)|skip
  all_goals (split<;>first|omega|(split<;>omega))
 ·rw[a]at h⊢;have b:q.num=0:=R6.1 (by rw[<-h];rfl);rw[b];simp
 rw[Qi a]at h⊢;have b:0<q.num:=Int.sign_pos_iff.1 (by omega);have c:((p.num.natAbs*q.den:Nat):Int)=p.num*q.den:=by push_cast;rw[SA (by omega)]
 have f:((q.num.natAbs*p.den:Nat):Int)=q.num*p.den:=by push_cast;rw[SA (by omega)]
 generalize p.num.natAbs*q.den=A at*;generalize q.num.natAbs*p.den=B at*;generalize p.num*(q.den:Int)=X at*;generalize q.num*(p.den:Int)=Y at*;split<;>split<;>first|omega|(split<;>omega)|skip
 all_goals (split<;>first|omega|(split<;>omega))
theorem B7(p q:Rat): -1<=qY p q/\qY p q<=1:=by
 unfold qY;split
 ·omega
 split<;>omega
theorem zB{a b:Nat}(f:(az a).length<=262144)(g:(az b).length<=262144):(az (a*b)).length<=1073741823:=by
 have c:=cf (az a) (cE a);have d:=cf (az b) (cE b);rw[aS]at c d;have e:a*b<4294967296^((az a).length+(az b).length):=by
  rw[PN];exact Sd c d
 exact Oq (bk e) (by omega)
theorem j4{n:Nat}(h:n<18446744073709551616):(az n).length<=262144:=Oq (bk (k:=2) (Oz h (by decide))) (by decide)
theorem Kk(p q:Rat)(b:Fit 262144 p)(d:Fit 262144 q):Ct 82 [dA p,dA q] (iT (qY p q)):=by
 refine Ct.of (n:=32) Tryz.func82 Z Z Z Z Z fun w0 G0=>?_
 refine ab<|aj 3 Z<|ab<|ck (fu:=6) [some 7,some 8,some 9,some 10,some 5,some 6] [.agg (aZ p),iT (cF p),.agg (aZ q),iT (cF q),iT (cF p),iT (cF q)] (by kernel_rfl) Z Z (by kernel_rfl) Z ?_ ?_
 ·refine Chain.op Z (aR Z Z Z aI Z Z)<|Chain.op Z (ak Z (lk p b) Z Z)<|Chain.op Z (aR Z Z Z aI Z Z)<|Chain.op Z (ak Z (lk q d) Z Z)<|Chain.op Z (bE Z Z)<|Chain.op Z (bE Z Z)<|Chain.nil
 refine ab<|ab<|ae<|aa 2 Z<|ag (t:=bT ((cF p) !=(cF q))) Z Z Z (ai Z Z Z Zy)<|af<|aH Z (fun a=>?_) (fun a=>?_)
 ·refine ab<|ab<|ae<|aa 2 Z<|ag (t:=bT (decide ((cF p)<(cF q)))) Z Z Z (ai Z Z Z Zy)<|af<|aD Z (fun e=>?_) (fun e=>?_)
  ·refine ab<|aj 1 Z<|ax<|⟨.inr Z,_,.cons Z .nil,ez (by unfold qY;rw[if_pos (DQ e)]),Z⟩
  refine ar<|ab<|aj 1 Z<|ax<|⟨.inr Z,_,.cons Z .nil,ez (by unfold qY;have h:cF p≠cF q:=(by simpa using a);have c:=DQ (p:=q) (q:=p) (by omega);rw[if_neg (by rw[Rat.not_lt];exact Rat.le_of_lt c),if_pos c]),Z⟩
 have g:cF p=cF q:=by simpa using a
 refine ar<|ab<|ab<|ae<|aa 1 Z<|ag (t:=bT ((cF p)==0)) Z Z Z (ai Z Z Z Zy)<|af<|aH Z (fun f=>?_) (fun f=>?_)
 ·refine ab<|aj 1 Z<|ax<|⟨.inr Z,_,.cons Z .nil,ez (by rw[<-zA g,show cF p=0 from by simpa using f];simp),Z⟩
 refine ar<|ab<|ck (fu:=14) [some 19,some 20,some 21,some 22,some 23,some 24,some 25,some 26,some 27,some 28,some 29,some 30,some 31,some 4] [iT (cF p),.box 0 1,aG p.num.natAbs,.box 1 2,aG q.den,aG (p.num.natAbs*q.den),.box 1 1,aG q.num.natAbs,.box 0 2,aG p.den,aG (q.num.natAbs*p.den),iT (fz ((p.num.natAbs*q.den:Nat):Int) ((q.num.natAbs*p.den:Nat):Int)),iT (qY p q),iT (qY p q)] (by kernel_rfl) Z Z (by kernel_rfl) Z ?_ ?_
 ·refine Chain.op Z (av Z Z)<|Chain.op Z (aq Z Z dk Z)<|Chain.op Z (ay Z Z Z bK Z)<|Chain.op Z (aq Z Z cg Z)<|Chain.op Z (ay Z Z Z bK Z)<|Chain.op Z (ak Z (kE _ _ (Oq b.num (by decide)) (Oq d.den (by decide))) Z Z)<|Chain.op Z (aq Z Z dk Z)<|Chain.op Z (ay Z Z Z bK Z)<|Chain.op Z (aq Z Z cg Z)<|Chain.op Z (ay Z Z Z bK Z)<|Chain.op Z (ak Z (kE _ _ (Oq d.num (by decide)) (Oq b.den (by decide))) Z Z)<|Chain.op Z (ak Z (DM _ _ (zB b.num d.den) (zB d.num b.den)) Z Z)<|Chain.op Z (ah (ai Z Z Z Zy) (ez (by rw[zA g,Pj];have:=B7 p q;omega)))<|Chain.op Z (bE Z Z)<|Chain.nil
 refine ax<|⟨.inr Z,_,.cons Z .nil,Z,Z⟩
theorem Kl(a b:Int)(d: -9223372036854775808<=a)(e:a<=9223372036854775807)(f: -9223372036854775808<=b)(g:b<=9223372036854775807)(h:b≠0):Ct 78 [iT a,iT b] (.tup [dA (eh ((decide (a<0)) !=(decide (b<0))) a.natAbs b.natAbs),iT 0]):=by
 refine Ct.of (n:=21) Tryz.func78 Z Z Z Z Z fun w0 G0=>?_
 refine ab<|aj 2 Z<|ab<|ab<|ae<|aa 1 Z<|ag (t:=bT (b==0)) Z Z Z (ai Z Z Z Zy)<|af<|aH Z (fun c=>?_) (fun c=>?_)
 ·exact absurd (by simpa using c) h
 refine ar<|ab<|ae<|aa 1 Z<|ag (t:=bT (decide (a<0))) Z Z Z (ai Z Z Z Zy)<|aa 1 Z<|ag (t:=bT (decide (b<0))) Z Z Z (ai Z Z Z Zy)<|ag (t:=bT ((decide (a<0)) !=(decide (b<0)))) Z Z Z (ai Z Z Z Zy)<|aa 1 Z<|af<|ab<|ae<|aa 2 Z<|ag Z Z Z (ak Z (pJ a d e) Z Z)<|aa 1 Z<|ag Z Z Z (ak Z (pJ b f g) Z Z)<|ag Z Z Z (ak Z (lj _ _ _ (j4 (by omega)) (j4 (by omega))) Z Z)<|aa 2 Z<|af<|ax<|⟨.inr Z,_,.cons ⟨_,_,_,_,Z,Z,.inl ⟨_,aI,Z,Z⟩⟩ (.cons Z .nil),Z,Z⟩
end Go.Proofs.YtfoejfohbkmmeaaGreatDoor
