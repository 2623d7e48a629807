import Derived.Test.YtfoejfohbkmmeaaGreatDoorU21
import Derived.Test.YtfoejfohbkmmeaaGreatDoorU24
import Derived.Test.YtfoejfohbkmmeaaGreatDoorU08
import Derived.Test.YtfoejfohbkmmeaaGreatDoorU00
import Derived.Laws.BitsLemmas
set_option maxRecDepth 100000
set_option maxHeartbeats 4000000
namespace Go.Proofs.YtfoejfohbkmmeaaGreatDoor
open Go.RowKit
theorem oJ{cert:Bool}{l:List Col}{i:Nat}{c:Col}(h:l[i]? =some c):gN cert (l.take i) (l.drop i)=(nw cert c||(l.take i).any (fun d=>d.name.toList==c.name.toList)||gN cert (l.take (i+1)) (l.drop (i+1))):=by
 obtain⟨a,rfl⟩:=L7.1 h;rw[Md a,gN,Mq a]
theorem sr:qF Tryz.prog 58=some 3:=by kernel_rfl
theorem bi:gE Tryz.prog 24=some (58,3):=by kernel_rfl
theorem Hh:j4 Tryz.prog 26 0=some 0:=by kernel_rfl
theorem fU:j4 Tryz.prog 26 1=some 1:=by kernel_rfl
theorem dt:j4 Tryz.prog 26 2=some 2:=by kernel_rfl
theorem oK:j4 Tryz.prog 58 0=some 0:=by kernel_rfl
theorem fV:j4 Tryz.prog 58 1=some 1:=by kernel_rfl
theorem oL:j4 Tryz.prog 58 2=some 2:=by kernel_rfl
theorem ew:iU Tryz.prog 24=true:=by kernel_rfl
theorem fe:iU Tryz.prog 3=true:=by kernel_rfl
theorem fW:iU Tryz.prog 4=true:=by kernel_rfl
theorem uo:iU Tryz.prog 9=true:=by kernel_rfl
theorem Jh:(Tryz.prog.info? 58).map (·.size)=some 3:=by kernel_rfl
theorem jy:gc Tryz.prog 58=some [.string (⟨#[]⟩),.int .i64 0,.bool false]:=by kernel_rfl
theorem jz(s:Sch):Ct 26 [s.tree] (bT (fF s)):=by
 refine Ct.of (n:=69) Tryz.func26 Z Z Z Z Z fun w0 G0=>?_
 refine ab<|aj 2 Z<|ab<|ab<|ae<|aa 2 Z<|af Z Z Z (ar Z (oG _) Z Z)<|af (t:=bT (!(bU s.name))) Z Z Z (ef Z Z Zy)<|aa 1 Z<|aA (t:=.box 0 2) ((!(bU s.name))=false) Z Z Z au Z Z (fun a=>az Z Z dt Z)<|aA (t:=.sl (s.cols.map Col.tree)) ((!(bU s.name))=false) Z Z Z au Z Z (fun a=>aD Z (if_pos a) Z ew Z)<|aA (t:=nI s.cols.length) ((!(bU s.name))=false) Z Z Z au Z Z (fun a=>ah (bd Z bi (if_pos a)) (by simp only[L8]))<|aA (t:=bT (decide (s.cols.length<1))) ((!(bU s.name))=false) Z Z Z au Z Z (fun a=>ah (ai Z (if_pos a) Z (fun _=>rfl)) (av (iu s.cols.length 1)))<|af (t:=bT ((!(bU s.name))||(decide (s.cols.length<1)))) Z Z Z (aL Z Z (fun b=>(av (by rw[b];rfl))) (fun b=>(if_pos b).trans (av (by rw[b];rfl))))<|aa 1 Z<|aA (t:=.box 0 2) (((!(bU s.name))||(decide (s.cols.length<1)))=false) Z Z Z au Z Z (fun a=>az Z Z dt Z)<|aA (t:=.sl (s.cols.map Col.tree)) (((!(bU s.name))||(decide (s.cols.length<1)))=false) Z Z Z au Z Z (fun a=>aD Z (if_pos a) Z ew Z)<|aA (t:=nI s.cols.length) (((!(bU s.name))||(decide (s.cols.length<1)))=false) Z Z Z au Z Z (fun a=>ah (bd Z bi (if_pos a)) (by simp only[L8]))<|aA (t:=bT (decide (6<s.cols.length))) (((!(bU s.name))||(decide (s.cols.length<1)))=false) Z Z Z au Z Z (fun a=>ah (ai Z (if_pos a) Z (fun _=>rfl)) (av (tE s.cols.length 6)))<|af (t:=bT (((!(bU s.name))||(decide (s.cols.length<1)))||(decide (6<s.cols.length)))) Z Z Z (aL Z Z (fun b=>(av (by rw[b];rfl))) (fun b=>(if_pos b).trans (av (by rw[b];rfl))))<|ag<|aH Z (fun m=>?_) (fun m=>?_)
 ·refine ab<|aj 1 Z<|aC<|⟨.inr Z,_,.cons Z .nil,av (by unfold fF mK;rw[m];rfl),Z⟩
 refine ax<|ab<|ab<|ae<|aa 2 Z<|af (t:=nI s.cols.length) Z Z Z (ah (bd Z bi Z) (by simp only[L8]))<|aa 1 Z<|ag<|aE<|aW (fun u A=>∃(i:Nat),(i<=s.cols.length/\gN s.cert (s.cols.take i) (s.cols.drop i)=gN s.cert [] s.cols)/\u=s.cols.length-i/\A=⟨69,[(1,.box 0 0),(24,.sl (s.cols.map Col.tree)),(25,nI s.cols.length),(26,nI i)],[(26,(dq s))],[]⟩) 1 0 ⟨0,⟨by omega,Z⟩,Z,Z⟩ ⟨Z,Z,Z,.cons Z Z (.cons Z Z (.cons Z Z (.cons Z Z .nil))),Z⟩ ?_;rintro u A ⟨i,⟨G,g⟩,rfl,rfl⟩;have E:s.cols.length<=6:=by simp only[Mz,decide_eq_false_iff_not]at m;omega
 refine ab<|ae<|af (t:=bT (decide (i<s.cols.length))) Z Z Z (ah (ai Z Z Z Zy) (av (iu i s.cols.length)))<|ag<|ab<|aF Z (fun v=>?_) (fun v=>?_)
 ·obtain⟨c,z⟩:∃c,s.cols[i]? =some c:=⟨_,L4 v⟩;rw[oJ z]at g;refine ax<|ab<|aE<|ab<|ae<|aa 1 Z<|af (t:=.ref [sT c.name,iT c.ty,bT c.key]) Z Z Z (aQ (Col.tree c) Z bi Z Z Z (bf (f:=Col.tree) z) (ej _) Z)<|aa 4 Z<|ag<|ab<|ab<|ae<|aa 2 Z<|af Z Z Z (ar Z (oG _) Z Z)<|af (t:=bT (!(bU c.name))) Z Z Z (ef Z Z Zy)<|aa 1 Z<|aA (t:=.box 1 1) ((!(bU c.name))=false) Z Z Z au Z Z (fun a=>az Z Z fV Z)<|aA (t:=iT c.ty) ((!(bU c.name))=false) Z Z Z au Z Z (fun a=>aD Z (if_pos a) Z fe Z)<|aA (t:=bT (c.ty !=1)) ((!(bU c.name))=false) Z Z Z au Z Z (fun a=>ai Z (if_pos a) Z (fun _=>rfl))<|aA (t:=bT (c.ty !=1)) ((!(bU c.name))=false) Z Z Z au Z Z (fun a=>aw Z (if_pos a))<|aA (t:=.box 1 1) (((!(bU c.name))=false)/\((c.ty !=1)=true)) Z Z Z ee Z Z (fun a=>az Z Z fV Z)<|aA (t:=iT c.ty) (((!(bU c.name))=false)/\((c.ty !=1)=true)) Z Z Z ee Z Z (fun a=>aD Z (if_pos a) Z fe Z)<|aA (t:=bT (c.ty !=2)) (((!(bU c.name))=false)/\((c.ty !=1)=true)) Z Z Z ee Z Z (fun a=>ai Z (if_pos a) Z (fun _=>rfl))<|aA (t:=bT ((c.ty !=1)&&(c.ty !=2))) ((!(bU c.name))=false) Z Z Z au Z Z (fun a=>aL Z (if_pos a) (fun b=>(if_pos ⟨a,b⟩).trans (av (by rw[b];rfl))) (fun b=>(av (by rw[b];rfl))))<|af (t:=bT ((!(bU c.name))||((c.ty !=1)&&(c.ty !=2)))) Z Z Z (aL Z Z (fun b=>(av (by rw[b];rfl))) (fun b=>(if_pos b).trans (av (by rw[b];rfl))))<|aa 1 Z<|aA (t:=.box 0 1) (((!(bU c.name))||((c.ty !=1)&&(c.ty !=2)))=false) Z Z Z au Z Z (fun a=>az Z Z fU Z)<|aA (t:=bT s.cert) (((!(bU c.name))||((c.ty !=1)&&(c.ty !=2)))=false) Z Z Z au Z Z (fun a=>aD Z (if_pos a) Z fW Z)<|aA (t:=bT s.cert) (((!(bU c.name))||((c.ty !=1)&&(c.ty !=2)))=false) Z Z Z au Z Z (fun a=>aw Z (if_pos a))<|aA (t:=.box 1 2) ((((!(bU c.name))||((c.ty !=1)&&(c.ty !=2)))=false)/\(s.cert=true)) Z Z Z ee Z Z (fun a=>az Z Z oL Z)<|aA (t:=bT c.key) ((((!(bU c.name))||((c.ty !=1)&&(c.ty !=2)))=false)/\(s.cert=true)) Z Z Z ee Z Z (fun a=>aD Z (if_pos a) Z fW Z)<|aA (t:=bT (s.cert&&c.key)) (((!(bU c.name))||((c.ty !=1)&&(c.ty !=2)))=false) Z Z Z au Z Z (fun a=>aL Z (if_pos a) (fun b=>(if_pos ⟨a,b⟩).trans (av (by rw[b];rfl))) (fun b=>(av (by rw[b];rfl))))<|af (t:=bT (((!(bU c.name))||((c.ty !=1)&&(c.ty !=2)))||(s.cert&&c.key))) Z Z Z (aL Z Z (fun b=>(av (by rw[b];rfl))) (fun b=>(if_pos b).trans (av (by rw[b];rfl))))<|ag<|aH Z (fun q=>?_) (fun q=>?_)
  ·refine ab<|aj 1 Z<|aC<|⟨.inr Z,_,.cons Z .nil,av (by unfold fF;rw[<-g];unfold nw;rw[q];simp),Z⟩
  refine ax<|ab<|ae<|aa 3 Z<|af (t:=.sl ((s.cols.take i).map Col.tree)) Z Z Z (ah (iG (l:=0) (h:=i) Z bi Z Z ⟨_,Z⟩ (by first|omega|(simp only[L8];omega)) (by first|omega|(simp only[L8];omega)) (ej _)) (by simp only[OB,Nx]))<|af (t:=nI ((s.cols.take i).length)) Z Z Z (ah (bd Z bi Z) (by simp only[L8]))<|aa 1 Z<|ag<|aE<|aW (fun u A=>∃(j:Nat),(j<=(s.cols.take i).length/\∀k (w:k<(s.cols.take i).length),k<j->((s.cols.take i)[k].name.toList==c.name.toList)=false)/\u=(s.cols.take i).length-j/\A=⟨69,[(1,.box 0 0),(3,nI i),(4,.box 1 0),(24,.sl (s.cols.map Col.tree)),(25,nI s.cols.length),(26,nI i),(56,.sl ((s.cols.take i).map Col.tree)),(57,nI ((s.cols.take i).length)),(58,nI j)],[(26,(dq s)),(58,[sT c.name,iT c.ty,bT c.key])],[]⟩) 2 0 ⟨0,⟨by omega,fun k w h=>by omega⟩,Z,Z⟩ ⟨Z,Z,Z,.cons Z Z (.cons Z Z (.cons Z Z (.cons Z Z (.cons Z Z (.cons Z Z (.cons Z Z (.cons Z Z (.cons Z Z .nil)))))))),Z⟩ ?_;rintro u A ⟨j,⟨F,o⟩,rfl,rfl⟩;have D:(s.cols.take i).length<=6:=by rw[Mf];omega
  refine ab<|ae<|af (t:=bT (decide (j<(s.cols.take i).length))) Z Z Z (ah (ai Z Z Z Zy) (av (iu j ((s.cols.take i).length))))<|ag<|ab<|aF Z (fun y=>?_) (fun y=>?_)
  ·obtain⟨d,r⟩:∃d,(s.cols.take i)[j]? =some d:=⟨_,L4 y⟩;refine ax<|ab<|aE<|ab<|ae<|af (t:=.ref [sT d.name,iT d.ty,bT d.key]) Z Z Z (aQ (Col.tree d) Z bi Z Z Z (bf (f:=Col.tree) r) (ej _) Z)<|aa 3 Z<|ag<|ab<|ae<|aa 4 Z<|af (t:=bT (d.name.toList==c.name.toList)) Z Z Z (ai Z Z Z Zy)<|ag<|aH Z (fun p=>?_) (fun p=>?_)
   ·refine ab<|aj 1 Z<|aC<|⟨.inr Z,_,.cons Z .nil,av (by unfold fF;rw[<-g,show(s.cols.take i).any (fun d=>d.name.toList==c.name.toList)=true from OI.2 ⟨d,L9 r,p⟩];simp),Z⟩
   refine ax<|ae<|af (t:=nI (j+1)) Z Z Z (ah (ai Z Z Z Zy) (bu (by omega)))<|aa 1 Z<|ag<|⟨_,_,?_,⟨j+1,?_,Z,Z⟩,⟨Z,Z,Z,.cons Z Z (.cons Z Z (.cons Z Z (.cons Z Z (.cons Z Z (.cons Z Z (.cons Z Z (.cons Z Z (.cons Z Z .nil)))))))),Z⟩⟩
   ·omega
   refine⟨by omega,fun k w h=>?_⟩;rcases MI k j with B|B
   ·exact o k w B
   obtain rfl:k=j:=by omega
   obtain⟨_,e⟩:=L7.1 r;rw[e];exact p
  refine aZ<|ae<|af (t:=nI (i+1)) Z Z Z (ah (ai Z Z Z Zy) (bu (by omega)))<|aa 1 Z<|ag<|⟨_,_,?_,⟨i+1,?_,Z,Z⟩,⟨Z,Z,Z,.cons Z Z (.cons Z Z (.cons Z Z (.cons Z Z .nil))),Z⟩⟩
  ·omega
  refine⟨by omega,?_⟩;rw[<-g,show nw s.cert c=false from q,N4.2 fun x C=>?_]
  ·simp
  obtain⟨k,w,rfl⟩:=Nb C;exact by simpa using o k w (by omega)
 refine aZ<|ab<|aj 1 Z<|aC<|⟨.inr Z,_,.cons Z .nil,av (by unfold fF;rw[show mK s=false from m,<-g,Mg (by omega)];rfl),Z⟩
theorem xH(a:Bool)(N D:Nat):cF (!a) N D= -cF a N D:=by
 unfold cF;rw[Rat.neg_mkRat];cases a<;>simp
theorem Hi(p q:Rat)(a:Fit 262144 p)(b:Fit 262144 q):Ct 132 [dp p,jX (!decide (q.num<0)) q.num.natAbs q.den] (dp (p-q)):=by
 have:=E8 (decide (p.num<0)) (!decide (q.num<0)) p.num.natAbs p.den q.num.natAbs q.den a.num a.den b.num b.den;rw[xH,fd,fd,<-Rat.sub_eq_add_neg]at this;exact this
def bP(q:Rat):Int:=q.num.sign
theorem C3(q:Rat):oH (decide (q.num<0)) q.num.natAbs q.den=bP q:=by
 unfold oH bP;have:=q.den_nz;rcases Ph q.num 0 with h|h|h
 ·rw[if_neg (by omega),if_neg this,decide_eq_true h,NR h];rfl
 ·rw[h];rfl
 rw[if_neg (by omega),if_neg this,decide_eq_false (by omega),N3 h];rfl
theorem kE(q:Rat)(h:Fit 262144 q):Ct 66 [dp q] (iT (bP q)):=by
 have:=Hf (decide (q.num<0)) q.num.natAbs q.den h.num h.den;rw[C3]at this;exact this
theorem su(q:Rat)(h:Fit 262144 q):Ct 107 [dp q] (dp q):=by
 have:=BS (decide (q.num<0)) q.num.natAbs q.den h.num h.den;rw[fd]at this;exact this
theorem qY:Fit 262144 1:=⟨by decide,by decide⟩
theorem kF(q:Rat):bP q<0↔q<0:=by
 unfold bP;rw[Int.sign_neg_iff,<-Rat.not_le,<-Rat.num_nonneg];omega
theorem pM(q:Rat):bP q=0↔q=0:=by
 unfold bP;rw[PR,Rat.num_eq_zero]
def gP(cert:Bool)(q:Rat):Bool:= !((decide (bP q<0)||decide (bP (1-q)<0))||(cert&&(bP (1-q) !=0)))&&decide (c8 q.den<=65536)
theorem aN:qF Tryz.prog 65=some 3:=by kernel_rfl
theorem oM:II Tryz.prog 65 2=some 2:=by kernel_rfl
theorem fm:(Tryz.prog.info? 65).map (·.size)=some 3:=by kernel_rfl
theorem uq:Tryz.prog.underlying 2=some (.int .i64):=by kernel_rfl
theorem nB:Tryz.prog.underlying 89=some (.int .u64):=by kernel_rfl
theorem lk:gc Tryz.prog 65=some [.bool false,.slice none 0 0,.slice none 0 0]:=by kernel_rfl
theorem Hj(p q:Rat)(a:Fit 262144 p)(b:Fit 262144 q):Ct 130 [dp p,dp q] (dp (p-q)):=by
 refine Ct.of (n:=9) Tryz.func130 Z Z Z Z Z fun w0 G0=>?_
 refine ab<|aj 3 Z<|ab<|dH (ops:=[_,_,_,_]) (fu:=5) (bs':=[(65,(aU p)),(65,(aU q)),(65,[bT (decide ((p-q).num<0)),aM ((p-q).num.natAbs),aM ((p-q).den)])]) [some 5,some 6,some 7,some 8] [.agg (aU p),.agg (aU q),.agg [bT (!decide (q.num<0)),aM q.num.natAbs,aM q.den],.agg [bT (decide ((p-q).num<0)),aM ((p-q).num.natAbs),aM ((p-q).den)]] (by kernel_rfl) Z Z Z Z Z (by kernel_rfl) (by kernel_rfl) Z Z Z Z Z Z Z Z fm Z Z Z ?_ ?_
 ·refine Chain.op Z (aJ Z Z Z aN Z Z)<|Chain.op Z (aJ Z Z Z aN Z Z)<|Chain.op Z (ar Z (Jf _ _ _) Z Z)<|Chain.op Z (ar Z (Hi p q a b) Z Z)<|Chain.nil
 refine aC<|⟨.inr Z,_,.cons ⟨_,_,_,_,Z,Z,.inl ⟨_,aN,Z,Z⟩⟩ .nil,Z,Z⟩
theorem sv(q:Rat)(a:Fit 262144 q):Ct 67 [dp q] (dp (1-q)):=by
 refine Ct.of (n:=6) Tryz.func67 Z Z Z Z Z fun w0 G0=>?_
 refine ab<|aj 2 Z<|ab<|dH (ops:=[_,_,_]) (fu:=4) (bs':=[(65,(aU q)),(65,[bT (decide ((1-q).num<0)),aM ((1-q).num.natAbs),aM ((1-q).den)])]) [some 3,some 4,some 5] [.agg [bT (decide ((1:Rat).num<0)),aM ((1:Rat).num.natAbs),aM ((1:Rat).den)],.agg (aU q),.agg [bT (decide ((1-q).num<0)),aM ((1-q).num.natAbs),aM ((1-q).den)]] (by kernel_rfl) Z Z Z Z Z (by kernel_rfl) (by kernel_rfl) Z Z Z Z Z Z Z Z fm Z Z Z ?_ ?_
 ·refine Chain.op Z (ar Z Jg Z Z)<|Chain.op Z (aJ Z Z Z aN Z Z)<|Chain.op Z (ar Z (Hj 1 q qY a) Z Z)<|Chain.nil
 refine aC<|⟨.inr Z,_,.cons ⟨_,_,_,_,Z,Z,.inl ⟨_,aN,Z,Z⟩⟩ .nil,Z,Z⟩
theorem oN(n:Int)(c: -9223372036854775808<=n)(b:n<=9223372036854775807):Ct 146 [iT n] (aM n.natAbs):=by
 refine Ct.of (n:=14) Tryz.func146 Z Z Z Z Z fun w0 G0=>?_
 refine ab<|ae<|af (t:=.sl []) Z Z Z (cW (.inr Z) dI)<|ag<|ab<|ab<|ae<|aa 1 Z<|af (t:=bT (decide (n<0))) Z Z Z (ai Z Z Z Zy)<|ag<|aF Z (fun a=>?_) (fun a=>?_)
 ·refine ab<|ae<|aa 1 Z<|af (t:=iT (n+1)) Z Z Z (ah (ai Z Z Z Zy) (ep (by rw[Ns];omega)))<|af (t:=iT (-(n+1))) Z Z Z (ah (ef Z Z Zy) (ep (by rw[Ns];omega)))<|af (t:=.sc (.int .u64 (-(n+1)))) Z Z Z (ah (k7 Z uq nB Z) (ep (by rw[IntKind.wrap_u64];omega)))<|af (t:=.sc (.int .u64 ((n.natAbs:Nat):Int))) Z Z Z (ah (ai Z Z Z Zy) (ep (by rw[IntKind.wrap_u64];omega)))<|af Z Z Z (ar Z (kz n.natAbs (by omega)) Z Z)<|aa 1 Z<|ag<|aC<|⟨.inr Z,_,.cons Z .nil,Z,Z⟩
 refine ax<|ab<|ae<|aa 1 Z<|af (t:=.sc (.int .u64 ((n.natAbs:Nat):Int))) Z Z Z (ah (k7 Z uq nB Z) (ep (by rw[IntKind.wrap_u64];omega)))<|af Z Z Z (ar Z (kz n.natAbs (by omega)) Z Z)<|aa 1 Z<|ag<|aC<|⟨.inr Z,_,.cons Z .nil,Z,Z⟩
theorem vY(s:Sch)(q:Rat)(e:Fit 262144 q)(d:Fit 262144 (1-q)):Ct 122 [s.tree,dp q] (bT (gP s.cert q)):=by
 refine Ct.of (n:=30) Tryz.func122 Z Z Z Z Z fun w0 G0=>?_
 refine ab<|aj 3 Z<|ab<|ae<|aa 1 Z<|af Z Z Z (ar Z (sv q e) Z Z)<|aa 2 Z<|ag<|ab<|ab<|ae<|aa 1 Z<|af Z Z Z (ar Z (kE q e) Z Z)<|af (t:=bT (decide ((bP q)<0))) Z Z Z (ai Z Z Z Zy)<|aa 1 Z<|aA (t:=.agg [bT (decide ((1-q).num<0)),aM ((1-q).num.natAbs),aM ((1-q).den)]) ((decide ((bP q)<0))=false) Z Z Z au Z Z (fun a=>aJ Z Z Z aN Z Z)<|aA (t:=iT (bP (1-q))) ((decide ((bP q)<0))=false) Z Z Z au Z Z (fun a=>ar Z (kE (1-q) d) (eU (if_pos a) Z) Z)<|aA (t:=bT (decide ((bP (1-q))<0))) ((decide ((bP q)<0))=false) Z Z Z au Z Z (fun a=>ai Z (if_pos a) Z (fun _=>rfl))<|af (t:=bT ((decide ((bP q)<0))||(decide ((bP (1-q))<0)))) Z Z Z (aL Z Z (fun b=>(av (by rw[b];rfl))) (fun b=>(if_pos b).trans (av (by rw[b];rfl))))<|aa 1 Z<|aA (t:=.box 0 1) (((decide ((bP q)<0))||(decide ((bP (1-q))<0)))=false) Z Z Z au Z Z (fun a=>az Z Z fU Z)<|aA (t:=bT s.cert) (((decide ((bP q)<0))||(decide ((bP (1-q))<0)))=false) Z Z Z au Z Z (fun a=>aD Z (if_pos a) Z fW Z)<|aA (t:=bT s.cert) (((decide ((bP q)<0))||(decide ((bP (1-q))<0)))=false) Z Z Z au Z Z (fun a=>aw Z (if_pos a))<|aA (t:=.agg [bT (decide ((1-q).num<0)),aM ((1-q).num.natAbs),aM ((1-q).den)]) ((((decide ((bP q)<0))||(decide ((bP (1-q))<0)))=false)/\(s.cert=true)) Z Z Z ee Z Z (fun a=>aJ Z Z Z aN Z Z)<|aA (t:=iT (bP (1-q))) ((((decide ((bP q)<0))||(decide ((bP (1-q))<0)))=false)/\(s.cert=true)) Z Z Z ee Z Z (fun a=>ar Z (kE (1-q) d) (eU (if_pos a) Z) Z)<|aA (t:=bT ((bP (1-q)) !=0)) ((((decide ((bP q)<0))||(decide ((bP (1-q))<0)))=false)/\(s.cert=true)) Z Z Z ee Z Z (fun a=>ai Z (if_pos a) Z (fun _=>rfl))<|aA (t:=bT (s.cert&&((bP (1-q)) !=0))) (((decide ((bP q)<0))||(decide ((bP (1-q))<0)))=false) Z Z Z au Z Z (fun a=>aL Z (if_pos a) (fun b=>(if_pos ⟨a,b⟩).trans (av (by rw[b];rfl))) (fun b=>(av (by rw[b];rfl))))<|af (t:=bT (((decide ((bP q)<0))||(decide ((bP (1-q))<0)))||(s.cert&&((bP (1-q)) !=0)))) Z Z Z (aL Z Z (fun b=>(av (by rw[b];rfl))) (fun b=>(if_pos b).trans (av (by rw[b];rfl))))<|ag<|aH Z (fun c=>?_) (fun c=>?_)
 ·refine ab<|aj 1 Z<|aC<|⟨.inr Z,_,.cons Z .nil,av (by unfold gP;rw[c];rfl),Z⟩
 refine ax<|ab<|ae<|aa 1 Z<|af Z Z Z (ar Z (su q e) Z Z)<|af (t:=aM q.den) Z Z Z (Bi Z Z oM Z)<|af Z Z Z (ar Z (pL q.den e.den) Z Z)<|af (t:=bT (decide (c8 q.den<=65536))) Z Z Z (ah (ai Z Z Z Zy) (av (DT (c8 q.den) 65536)))<|aa 1 Z<|ag<|aC<|⟨.inr Z,_,.cons Z .nil,av (by unfold gP;rw[c];rfl),Z⟩
theorem qi{cs:List Col}{vs:List V}{i:Nat}{c:Col}{v:V}(e:cs[i]? =some c)(b:vs[i]? =some v):dJ (cs.drop i) (vs.drop i)=if c.key then v::dJ (cs.drop (i+1)) (vs.drop (i+1))else dJ (cs.drop (i+1)) (vs.drop (i+1)):=by
 obtain⟨a,rfl⟩:=L7.1 e;obtain⟨d,rfl⟩:=L7.1 b;rw[Md a,Md d,dJ]
theorem Li{l m:List V}(h:l=m):(Tree.sl (l.map V.tree))=.sl (m.map V.tree):=by rw[h]
theorem sx{vs:List V}{ts:List Tp}{i:Nat}{t:Tp}(h:ts[i]? =some t):gU vs (ts.drop i) i=if aO t.vals vs=0 then some i else gU vs (ts.drop (i+1)) (i+1):=by
 obtain⟨a,rfl⟩:=L7.1 h;rw[Md a,gU]
def ur(o:Option Nat):Tree:=.tup [.sc (.int .i64 ((o.getD 0:Nat):Int)),.sc (.bool o.isSome)]
def eW:List Col->List V->Bool
 |c::cs,v::vs=>((v.t !=c.ty)|| !v.ok)||eW cs vs
 |_,_=>false
theorem oO{cs:List Col}{vs:List V}{i:Nat}{c:Col}{v:V}(e:cs[i]? =some c)(b:vs[i]? =some v):eW (cs.drop i) (vs.drop i)=(((v.t !=c.ty)|| !v.ok)||eW (cs.drop (i+1)) (vs.drop (i+1))):=by
 obtain⟨a,rfl⟩:=L7.1 e;obtain⟨d,rfl⟩:=L7.1 b;rw[Md a,Md d,eW]
def bG(s:Sch)(t:Tp):Int:=if fF s=false then 1 else if t.vals.length≠s.cols.length then 13 else if eW s.cols t.vals then 13 else if gP s.cert t.prob then 0 else 19
structure FitT (t:Tp):Prop where
 p:Fit 262144 t.prob
 q:Fit 262144 (1-t.prob)
theorem jk{s:Sch}(h:fF s=true):1<=s.cols.length/\s.cols.length<=6:=by
 unfold fF mK at h;simp only[Nj,Mz,decide_eq_false_iff_not]at h;omega
theorem eR:qF Tryz.prog 26=some 3:=by kernel_rfl
theorem ez:qF Tryz.prog 67=some 4:=by kernel_rfl
theorem ll:qF Tryz.prog 77=some 3:=by kernel_rfl
theorem ib:lM Tryz.prog 61=some (77,3,32):=by kernel_rfl
theorem aK:gE Tryz.prog 28=some (67,4):=by kernel_rfl
theorem bz:gE Tryz.prog 61=some (77,3):=by kernel_rfl
theorem aV:j4 Tryz.prog 30 1=some 3:=by kernel_rfl
theorem b6:j4 Tryz.prog 67 0=some 0:=by kernel_rfl
theorem dY:j4 Tryz.prog 67 1=some 1:=by kernel_rfl
theorem oP:j4 Tryz.prog 77 0=some 0:=by kernel_rfl
theorem bp:iU Tryz.prog 28=true:=by kernel_rfl
theorem cC:iU Tryz.prog 61=true:=by kernel_rfl
theorem sy:(Tryz.prog.info? 67).map (·.size)=some 4:=by kernel_rfl
theorem Ji:(Tryz.prog.info? 77).map (·.size)=some 3:=by kernel_rfl
theorem go:gc Tryz.prog 67=some [.slice none 0 0,.bool false,.slice none 0 0,.slice none 0 0]:=by kernel_rfl
theorem fM:gc Tryz.prog 77=some [.int .i64 0,.int .i64 0,.string (⟨#[]⟩)]:=by kernel_rfl
theorem zX(s:Sch)(vs:List V)(w:s.cols.length<=65536):Ct 125 [s.tree,.sl (vs.map V.tree)] (.sl ((aG s vs).map V.tree)):=by
 refine Ct.of (n:=33) Tryz.func125 Z Z Z Z Z fun w0 G0=>?_
 refine ab<|ae<|aa 1 Z<|af (t:=.sl []) Z Z Z (cW (.inr Z) dI)<|ag<|ab<|ab<|ae<|aa 1 Z<|af (t:=nI vs.length) Z Z Z (ah (bd Z bz Z) (by simp only[L8]))<|aa 2 Z<|af (t:=nI s.cols.length) Z Z Z (ah (bd Z bi Z) (by simp only[L8]))<|af (t:=bT (decide (vs.length≠s.cols.length))) Z Z Z (ah (ai Z Z Z Zy) (av (wD vs.length s.cols.length)))<|ag<|aF Z (fun d=>?_) (fun d=>?_)
 ·refine ab<|ae<|af (t:=.sl []) Z Z Z (cW (.inr Z) dI)<|ag<|aC<|⟨.inr Z,_,.cons Z .nil,Li (by unfold aG;rw[if_neg d]) (l:=[]),Z⟩
 have j:vs.length=s.cols.length:=NE.1 d;refine ax<|ab<|ae<|g7 (k:=0) (e:=77) (sz:=3) (rs':=[some ⟨77,3,[],false⟩]) (.inr Z) Z Z Z Z Z<|ag<|ab<|ab<|ae<|aa 2 Z<|af (t:=nI s.cols.length) Z Z Z (ah (bd Z bi Z) (by simp only[L8]))<|aa 1 Z<|ag<|aE<|aW (fun p u=>∃(i:Nat) (b:List V),(i<=s.cols.length/\b.length<=i/\b++dJ (s.cols.drop i) (vs.drop i)=dJ s.cols vs)/\p=s.cols.length-i/\u=⟨33,[(1,.sl (vs.map V.tree)),(2,.box 0 0),(5,.own 0),(15,.sl (s.cols.map Col.tree)),(16,nI s.cols.length),(17,nI i)],[(26,(dq s))],[some ⟨77,3,b.map V.tree,false⟩]⟩) 1 1 ⟨0,[],⟨by omega,by simp,Z⟩,Z,Z⟩ ⟨Z,Z,Z,.cons Z Z (.cons Z Z (.cons Z Z (.cons Z Z (.cons Z Z (.cons Z Z .nil))))),Z⟩ ?_;rintro p u ⟨i,b,⟨x,r,a⟩,rfl,rfl⟩;refine ab<|ae<|af (t:=bT (decide (i<s.cols.length))) Z Z Z (ah (ai Z Z Z Zy) (av (iu i s.cols.length)))<|ag<|ab<|aF Z (fun h=>?_) (fun h=>?_)
 ·obtain⟨c,o⟩:∃c,s.cols[i]? =some c:=⟨_,L4 h⟩;obtain⟨v,m⟩:∃v,vs[i]? =some v:=⟨_,L4 (by omega)⟩;rw[qi o m]at a;refine ax<|ab<|aE<|ab<|ae<|aa 1 Z<|af (t:=.ref [sT c.name,iT c.ty,bT c.key]) Z Z Z (aQ (Col.tree c) Z bi Z Z Z (bf (f:=Col.tree) o) (ej _) Z)<|aa 4 Z<|ag<|ab<|aj 2 Z<|aH Z (fun g=>?_) (fun g=>?_)
  ·rw[if_pos g]at a;refine ae<|aa 3 rfl<|af (t:=.ref [iT v.t,iT v.n,sT v.s]) rfl rfl rfl (aQ (V.tree v) rfl bz rfl rfl rfl (bf (f:=V.tree) m) (iZ _) rfl)<|aa 1 rfl<|af (t:=.sl [.agg [iT v.t,iT v.n,sT v.s]]) rfl rfl rfl (a6 rfl bz fM rfl (by decide) (by decide) rfl rfl rfl rfl rfl)<|cD (bs':=[(26,(dq s)),(58,[sT c.name,iT c.ty,bT c.key])]) (rs':=[some ⟨77,3,(b++[v]).map V.tree,false⟩]) rfl rfl rfl rfl ib rfl rfl rfl rfl (by intro e q;simp only[Mi,Nr,or_false]at q;subst q;rfl) (AllC.lit rfl) (AllC.lit rfl) (by simp only[L8,Mb,Mo];omega) rfl rfl rfl (by rw[Nk];rfl)<|aa 1 rfl<|ag<|ae<|af (t:=nI (i+1)) rfl rfl rfl (ah (ai rfl rfl rfl Zy) (bu (by omega)))<|aa 1 rfl<|ag<|⟨_,_,?_,⟨i+1,(b++[v]),?_,rfl,rfl⟩,⟨rfl,rfl,rfl,.cons rfl rfl (.cons rfl rfl (.cons rfl rfl (.cons rfl rfl (.cons rfl rfl (.cons rfl rfl .nil))))),rfl⟩⟩
   ·omega
   exact⟨by omega,by first|omega|(simp only[Mc,Mb,Mo];omega),by first|exact a|(rw[<-a];simp)⟩
  rw[if_neg (by rw[g];exact MR)]at a;refine ax<|ae<|af (t:=nI (i+1)) Z Z Z (ah (ai Z Z Z Zy) (bu (by omega)))<|aa 1 Z<|ag<|⟨_,_,?_,⟨i+1,b,?_,Z,Z⟩,⟨Z,Z,Z,.cons Z Z (.cons Z Z (.cons Z Z (.cons Z Z (.cons Z Z (.cons Z Z .nil))))),Z⟩⟩
  ·omega
  exact⟨by omega,by first|omega|(simp only[Mc,Mb,Mo];omega),by first|exact a|(rw[<-a];simp)⟩
 refine fD 0 (bs':=[(26,(dq s))]) (rs':=[none]) Z Z Z Z<|aZ<|ab<|aj 2 Z<|aC<|⟨.inr Z,_,.cons Z .nil,Li (by unfold aG;rw[if_pos j,<-a,Mg (by omega)];simp[dJ]),Z⟩
theorem Hk(r:Rel)(vs:List V)(k:vs.length<=65536)(m:r.tups.length<=65536)(g:∀t∈r.tups,t.vals.length<=65536):Ct 80 [r.tree,.sl (vs.map V.tree)] (ur (gU vs r.tups 0)):=by
 refine Ct.of (n:=23) Tryz.func80 Z Z Z Z Z fun w0 G0=>?_
 refine ab<|aj 3 Z<|ab<|ab<|ae<|aa 2 Z<|af (t:=nI r.tups.length) Z Z Z (ah (bd Z aK Z) (by simp only[L8]))<|aa 1 Z<|ag<|aE<|aW (fun h j=>∃(i:Nat),(i<=r.tups.length/\gU vs (r.tups.drop i) i=gU vs r.tups 0)/\h=r.tups.length-i/\j=⟨23,[(1,.sl (vs.map V.tree)),(9,.sl (r.tups.map Tp.tree)),(10,nI r.tups.length),(11,nI i)],[(30,(aT r))],[]⟩) 1 0 ⟨0,⟨by omega,Z⟩,Z,Z⟩ ⟨Z,Z,Z,.cons Z Z (.cons Z Z (.cons Z Z (.cons Z Z .nil))),Z⟩ ?_;rintro h j ⟨i,⟨l,a⟩,rfl,rfl⟩;refine ab<|ae<|af (t:=bT (decide (i<r.tups.length))) Z Z Z (ah (ai Z Z Z Zy) (av (iu i r.tups.length)))<|ag<|ab<|aF Z (fun d=>?_) (fun d=>?_)
 ·obtain⟨t,c⟩:∃t,r.tups[i]? =some t:=⟨_,L4 d⟩;have e:=g t (L9 c);rw[sx c]at a;refine ax<|ab<|aE<|ab<|ae<|aa 1 Z<|af (t:=.ref (bS t)) Z Z Z (aQ (Tp.tree t) Z aK Z Z Z (bf (f:=Tp.tree) c) (bQ _) Z)<|aa 4 Z<|ag<|ab<|ae<|aa 3 Z<|af Z Z Z (ar Z (jj _ _ e k) Z Z)<|af (t:=bT ((aO t.vals vs)==0)) Z Z Z (ai Z Z Z Zy)<|ag<|aH Z (fun b=>?_) (fun b=>?_)
  ·refine ab<|aj 3 Z<|aC<|⟨.inr Z,_,.cons Z (.cons Z .nil),by unfold ur;rw[<-a,if_pos (by simpa using b)];rfl,Z⟩
  refine ax<|ae<|af (t:=nI (i+1)) Z Z Z (ah (ai Z Z Z Zy) (bu (by omega)))<|aa 1 Z<|ag<|⟨_,_,?_,⟨i+1,?_,Z,Z⟩,⟨Z,Z,Z,.cons Z Z (.cons Z Z (.cons Z Z (.cons Z Z .nil))),Z⟩⟩
  ·omega
  exact⟨by omega,by rw[<-a,if_neg (by simpa using b)]⟩
 refine aZ<|ab<|aj 2 Z<|aC<|⟨.inr Z,_,.cons Z (.cons Z .nil),by unfold ur;rw[<-a,Mg (by omega)];rfl,Z⟩
theorem xI(s:Sch)(t:Tp)(x:FitT t):Ct 63 [s.tree,t.tree] (iT (bG s t)):=by
 refine Ct.of (n:=45) Tryz.func63 Z Z Z Z Z fun w0 G0=>?_
 refine ab<|aj 3 Z<|ab<|ab<|ae<|aa 1 Z<|af Z Z Z (ar Z (jz s) Z Z)<|af (t:=bT (!(fF s))) Z Z Z (ef Z Z Zy)<|ag<|aH Z (fun e=>?_) (fun e=>?_)
 ·refine ab<|aj 1 Z<|aC<|⟨.inr Z,_,.cons Z .nil,ep (by unfold bG;rw[if_pos (by simpa using e)]),Z⟩
 have d:fF s=true:=by simpa using e
 have y:=jk d;refine ax<|ab<|ab<|ae<|aa 2 Z<|af (t:=nI t.vals.length) Z Z Z (ah (bd Z bz Z) (by simp only[L8]))<|aa 2 Z<|af (t:=nI s.cols.length) Z Z Z (ah (bd Z bi Z) (by simp only[L8]))<|af (t:=bT (decide (t.vals.length≠s.cols.length))) Z Z Z (ah (ai Z Z Z Zy) (av (wD t.vals.length s.cols.length)))<|ag<|aF Z (fun b=>?_) (fun b=>?_)
 ·refine ab<|aj 1 Z<|aC<|⟨.inr Z,_,.cons Z .nil,ep (by unfold bG;rw[if_neg (by rw[d];simp),if_pos b]),Z⟩
 have w:t.vals.length=s.cols.length:=NE.1 b;refine ax<|ab<|ab<|ae<|aa 2 Z<|af (t:=nI t.vals.length) Z Z Z (ah (bd Z bz Z) (by simp only[L8]))<|aa 1 Z<|ag<|aE<|aW (fun u r=>∃(i:Nat),(i<=t.vals.length/\eW (s.cols.drop i) (t.vals.drop i)=eW s.cols t.vals)/\u=t.vals.length-i/\r=⟨45,[(2,.box 0 0),(3,.box 1 0),(18,.sl (t.vals.map V.tree)),(19,nI t.vals.length),(20,nI i)],[(26,(dq s)),(67,(bS t))],[]⟩) 2 0 ⟨0,⟨by omega,Z⟩,Z,Z⟩ ⟨Z,Z,Z,.cons Z Z (.cons Z Z (.cons Z Z (.cons Z Z (.cons Z Z .nil)))),Z⟩ ?_;rintro u r ⟨i,⟨z,a⟩,rfl,rfl⟩;refine ab<|ae<|af (t:=bT (decide (i<t.vals.length))) Z Z Z (ah (ai Z Z Z Zy) (av (iu i t.vals.length)))<|ag<|ab<|aF Z (fun j=>?_) (fun j=>?_)
 ·obtain⟨v,k⟩:∃v,t.vals[i]? =some v:=⟨_,L4 j⟩;obtain⟨c,l⟩:∃c,s.cols[i]? =some c:=⟨_,L4 (by omega)⟩;rw[oO l k]at a;refine ax<|ab<|aE<|ab<|ae<|aa 1 Z<|af (t:=.ref [iT v.t,iT v.n,sT v.s]) Z Z Z (aQ (V.tree v) Z bz Z Z Z (bf (f:=V.tree) k) (iZ _) Z)<|aa 4 Z<|ag<|ab<|ci (fu:=14) [some 25,some 26,some 27,some 28,some 29,some 30,some 31,some 32,some 33,some 34,some 35,some 36,some 37,some 38] [.box 2 0,iT v.t,.box 0 2,.sl (s.cols.map Col.tree),nI i,.ref [sT c.name,iT c.ty,bT c.key],.ref [iT c.ty,bT c.key],iT c.ty,bT (v.t !=c.ty),bT (v.t !=c.ty),if(v.t !=c.ty)=false then(.agg [iT v.t,iT v.n,sT v.s]:Tree)else .sc undef,if(v.t !=c.ty)=false then(bT v.ok:Tree)else .sc undef,if(v.t !=c.ty)=false then(bT (!v.ok):Tree)else .sc undef,bT ((v.t !=c.ty)||(!v.ok))] (by kernel_rfl) Z Z (by kernel_rfl) Z ?_ ?_
  ·refine Chain.op Z (az Z Z oP Z)<|Chain.op Z (aD Z Z Z fe Z)<|Chain.op Z (az Z Z dt Z)<|Chain.op Z (aD Z Z Z ew Z)<|Chain.op Z (aw Z Z)<|Chain.op Z (aQ (Col.tree c) Z bi Z Z Z (bf (f:=Col.tree) l) (ej _) Z)<|Chain.op Z (bw Z Z fV Z)<|Chain.op Z (bE Z Z fe Z)<|Chain.op Z (ai Z Z Z Zy)<|Chain.op Z (aw Z Z)<|Chain.cnd (t:=.agg [iT v.t,iT v.n,sT v.s]) 9 false 34 ((v.t !=c.ty)=false) Z (by kernel_rfl) au (fun m=>aJ Z Z Z ll Z Z)<|Chain.cnd (t:=bT v.ok) 9 false 34 ((v.t !=c.ty)=false) Z (by kernel_rfl) au (fun m=>ar Z (E7 v) (eU (if_pos m) Z) Z)<|Chain.cnd (t:=bT (!v.ok)) 9 false 34 ((v.t !=c.ty)=false) Z (by kernel_rfl) au (fun m=>ef Z (if_pos m) (fun _=>rfl))<|Chain.op Z (aL Z Z (fun o=>(av (by rw[o];rfl))) (fun o=>(if_pos o).trans (av (by rw[o];rfl))))<|Chain.nil
  refine aH Z (fun h=>?_) (fun h=>?_)
  ·refine ab<|aj 1 Z<|aC<|⟨.inr Z,_,.cons Z .nil,ep (by unfold bG;rw[if_neg (by rw[d];simp),if_neg b,if_pos (by rw[<-a,h];rfl)]),Z⟩
  refine ax<|ae<|af (t:=nI (i+1)) Z Z Z (ah (ai Z Z Z Zy) (bu (by omega)))<|aa 1 Z<|ag<|⟨_,_,?_,⟨i+1,?_,Z,Z⟩,⟨Z,Z,Z,.cons Z Z (.cons Z Z (.cons Z Z (.cons Z Z (.cons Z Z .nil)))),Z⟩⟩
  ·omega
  exact⟨by omega,by rw[<-a,h];rfl⟩
 refine aZ<|ab<|ab<|ae<|aa 3 Z<|af Z Z Z (ar Z (vY s t.prob x.p x.q) Z Z)<|af (t:=bT (!(gP s.cert t.prob))) Z Z Z (ef Z Z Zy)<|ag<|aH Z (fun g=>?_) (fun g=>?_)
 ·refine ab<|aj 1 Z<|aC<|⟨.inr Z,_,.cons Z .nil,ep (by unfold bG;rw[if_neg (by rw[d];simp),if_neg b,if_neg (by rw[<-a,Mg (by omega:t.vals.length<=i)];cases s.cols.drop i<;>simp[eW]),if_neg (by simpa using g)]),Z⟩
 refine ax<|ab<|aj 1 Z<|aC<|⟨.inr Z,_,.cons Z .nil,ep (by unfold bG;rw[if_neg (by rw[d];simp),if_neg b,if_neg (by rw[<-a,Mg (by omega:t.vals.length<=i)];cases s.cols.drop i<;>simp[eW]),if_pos (by simpa using g)]),Z⟩
theorem xJ{s:Sch}{key:List V}{ts:List Tp}{i:Nat}{t:Tp}(h:ts[i]? =some t):bX s key (ts.drop i) i=if aO (aG s t.vals) key=0 then i::bX s key (ts.drop (i+1)) (i+1)else bX s key (ts.drop (i+1)) (i+1):=by
 obtain⟨a,rfl⟩:=L7.1 h;rw[Md a,bX]
theorem sA:∀(cs:List Col) (vs:List V),(dJ cs vs).length<=cs.length
 |[],vs=>by cases vs<;>simp[dJ]
 |c::cs,[]=>by simp[dJ]
 |c::cs,v::vs=>by
  have:=sA cs vs;simp only[dJ];split<;>simp<;>omega
theorem ie(s:Sch)(vs:List V):(aG s vs).length<=s.cols.length:=by
 unfold aG;split
 ·exact sA _ _
 simp
theorem LT{l m:List Nat}(h:l=m):(Tree.sl (l.map fw))=.sl (m.map fw):=by rw[h]
theorem xK{p q:Rat}(h:p=q):dp p=dp q:=by rw[h]
theorem Hl(a:Bool)(N D:Nat)(q:Rat)(d:(ay N).length<=262144)(c:(ay D).length<=262144)(b:Fit 262144 q):Ct 132 [jX a N D,dp q] (dp (cF a N D+q)):=by
 have:=E8 a (decide (q.num<0)) N D q.num.natAbs q.den d c b.num b.den;rw[fd]at this;exact this
theorem zY:lM Tryz.prog 23=some (3,1,8):=by kernel_rfl
theorem cz:gE Tryz.prog 23=some (3,1):=by kernel_rfl
theorem dZ:j4 Tryz.prog 30 0=some 0:=by kernel_rfl
theorem ig:gc Tryz.prog 3=some [.int .i64 0]:=by kernel_rfl
theorem Fa(r:Rel)(a:List Nat)(p:∀i∈a,i<r.tups.length)(w:a.length<=65536)(o:∀t∈r.tups,Fit 262144 t.prob)(k:∀j,j<=a.length->Fit 262144 (dR r.tups (a.take j))):Ct 68 [r.tree,.sl (a.map fw)] (dp (dR r.tups a)):=by
 refine Ct.of (n:=25) Tryz.func68 Z Z Z Z Z fun w0 G0=>?_
 refine ab<|aj 2 Z<|ab<|aj 1 Z<|ab<|ab<|ae<|aa 1 Z<|af (t:=nI a.length) Z Z Z (ah (bd Z cz Z) (by simp only[L8]))<|aa 1 Z<|ag<|aE<|aW (fun s v=>∃(j:Nat) (c:Bool) (N:Nat) (D:Nat),(j<=a.length/\cF c N D=dR r.tups (a.take j)/\(ay N).length<=262144/\(ay D).length<=262144)/\s=a.length-j/\v=⟨25,[(2,.box 0 0),(4,.box 1 0),(5,.box 2 0),(8,.sl (a.map fw)),(9,nI a.length),(10,nI j)],[(30,(aT r)),(65,[bT false,.sl [],.sl []]),(65,[bT c,aM N,aM D])],[]⟩) 3 0 ⟨0,false,0,0,⟨by omega,by rw[ky];rfl,by decide,by decide⟩,Z,Z⟩ ⟨Z,Z,Z,.cons Z Z (.cons Z Z (.cons Z Z (.cons Z Z (.cons Z Z (.cons Z Z .nil))))),Z⟩ ?_;rintro s v ⟨j,c,N,D,⟨x,b,u,q⟩,rfl,rfl⟩;refine ab<|ae<|af (t:=bT (decide (j<a.length))) Z Z Z (ah (ai Z Z Z Zy) (av (iu j a.length)))<|ag<|ab<|aF Z (fun h=>?_) (fun h=>?_)
 ·obtain⟨i,d⟩:∃i,a[j]? =some i:=⟨_,L4 h⟩;obtain⟨t,e⟩:∃t,r.tups[i]? =some t:=⟨_,L4 (p i (L9 d))⟩;have m:=o t (L9 e);have g:=um d e;have l:=k (j+1) (by omega);refine ax<|ab<|aE<|ab<|ae<|af (t:=.ref [nI i]) Z Z Z (aQ (fw i) Z cz Z Z Z (bf (f:=fw) d) (qg _) Z)<|aa 2 Z<|ag<|dH (ops:=[_,_,_,_,_,_,_,_]) (fu:=9) (bs':=[(30,(aT r)),(65,[bT false,.sl [],.sl []]),(65,[bT (decide ((cF c N D+t.prob).num<0)),aM ((cF c N D+t.prob).num.natAbs),aM ((cF c N D+t.prob).den)])]) [some 14,some 15,some 16,some 17,some 18,some 19,some 20,some 21] [.agg [bT c,aM N,aM D],.box 0 3,.sl (r.tups.map Tp.tree),nI i,.ref (bS t),.ref (aU t.prob),.agg (aU t.prob),.agg [bT (decide ((cF c N D+t.prob).num<0)),aM ((cF c N D+t.prob).num.natAbs),aM ((cF c N D+t.prob).den)]] (by kernel_rfl) Z Z Z Z Z (by kernel_rfl) (by kernel_rfl) Z Z Z Z Z Z Z Z fm Z Z Z ?_ ?_
  ·refine Chain.op Z (aJ Z Z Z aN Z Z)<|Chain.op Z (az Z Z aV Z)<|Chain.op Z (aD Z Z Z bp Z)<|Chain.op Z (aw Z Z)<|Chain.op Z (aQ (Tp.tree t) Z aK Z Z Z (bf (f:=Tp.tree) e) (bQ _) Z)<|Chain.op Z (bw Z Z dY Z)<|Chain.op Z (cU Z Z aN Z Z)<|Chain.op Z (ar Z (Hl c N D t.prob u q m) Z Z)<|Chain.nil
  refine ae<|af (t:=nI (j+1)) Z Z Z (ah (ai Z Z Z Zy) (bu (by omega)))<|aa 1 Z<|ag<|⟨_,_,?_,⟨j+1,_,_,_,?_,Z,Z⟩,⟨Z,Z,Z,.cons Z Z (.cons Z Z (.cons Z Z (.cons Z Z (.cons Z Z (.cons Z Z .nil))))),Z⟩⟩
  ·omega
  refine⟨by omega,?_,?_,?_⟩
  ·rw[fd,g,b]
  ·rw[b,<-g];exact l.num
  rw[b,<-g];exact l.den
 refine aZ<|ab<|ae<|aa 1 Z<|af Z Z Z (ar Z (BS c N D u q) Z Z)<|aa 1 Z<|ag<|aC<|⟨.inr Z,_,.cons ⟨_,_,_,_,Z,Z,.inl ⟨_,aN,Z,Z⟩⟩ .nil,xK (by rw[b,Me (by omega)]),Z⟩
theorem zZ(r:Rel)(vs:List V)(c:r.sch.cols.length<=65536)(u:r.tups.length<=65536):Ct 81 [r.tree,.sl (vs.map V.tree)] (.sl ((eV r vs).map fw)):=by
 refine Ct.of (n:=38) Tryz.func81 Z Z Z Z Z fun w0 G0=>?_
 refine ab<|ae<|aa 1 Z<|af (t:=.sl []) Z Z Z (cW (.inr Z) dI)<|ag<|ab<|ae<|aa 3 Z<|af Z Z Z (ar Z (zX r.sch vs c) Z Z)<|aa 1 Z<|ag<|ab<|ab<|ae<|aa 1 Z<|af (t:=nI ((aG r.sch vs).length)) Z Z Z (ah (bd Z bz Z) (by simp only[L8]))<|af (t:=bT (decide ((aG r.sch vs).length=0))) Z Z Z (ah (ai Z Z Z Zy) (av (lY ((aG r.sch vs).length) 0)))<|ag<|aF Z (fun d=>?_) (fun d=>?_)
 ·refine ab<|ae<|af (t:=.sl []) Z Z Z (cW (.inr Z) dI)<|ag<|aC<|⟨.inr Z,_,.cons Z .nil,LT (by unfold eV;rw[if_pos (Mk d)]) (l:=[]),Z⟩
 refine ax<|ab<|ae<|g7 (k:=0) (e:=3) (sz:=1) (rs':=[some ⟨3,1,[],false⟩]) (.inr Z) Z Z Z Z Z<|ag<|ab<|ab<|ae<|aa 2 Z<|af (t:=nI r.tups.length) Z Z Z (ah (bd Z aK Z) (by simp only[L8]))<|aa 1 Z<|ag<|aE<|aW (fun m q=>∃(i:Nat) (b:List Nat),(i<=r.tups.length/\b.length<=i/\b++bX r.sch (aG r.sch vs) (r.tups.drop i) i=bX r.sch (aG r.sch vs) r.tups 0)/\m=r.tups.length-i/\q=⟨38,[(1,.sl (vs.map V.tree)),(2,.box 0 0),(5,.sl ((aG r.sch vs).map V.tree)),(6,.own 0),(17,.sl (r.tups.map Tp.tree)),(18,nI r.tups.length),(19,nI i)],[(30,(aT r))],[some ⟨3,1,b.map fw,false⟩]⟩) 1 1 ⟨0,[],⟨by omega,by simp,Z⟩,Z,Z⟩ ⟨Z,Z,Z,.cons Z Z (.cons Z Z (.cons Z Z (.cons Z Z (.cons Z Z (.cons Z Z (.cons Z Z .nil)))))),Z⟩ ?_;rintro m q ⟨i,b,⟨s,o,a⟩,rfl,rfl⟩;refine ab<|ae<|af (t:=bT (decide (i<r.tups.length))) Z Z Z (ah (ai Z Z Z Zy) (av (iu i r.tups.length)))<|ag<|ab<|aF Z (fun h=>?_) (fun h=>?_)
 ·obtain⟨t,j⟩:∃t,r.tups[i]? =some t:=⟨_,L4 h⟩;rw[xJ j]at a;refine ax<|ab<|aE<|ab<|ae<|aa 1 Z<|af (t:=.ref (bS t)) Z Z Z (aQ (Tp.tree t) Z aK Z Z Z (bf (f:=Tp.tree) j) (bQ _) Z)<|aa 4 Z<|ag<|ab<|ae<|aa 4 Z<|af Z Z Z (ar Z (zX r.sch t.vals c) Z Z)<|aa 1 Z<|af Z Z Z (ar Z (jj _ _ (L6 (ie _ _) c) (L6 (ie _ _) c)) Z Z)<|af (t:=bT ((aO (aG r.sch t.vals) (aG r.sch vs))==0)) Z Z Z (ai Z Z Z Zy)<|ag<|aH Z (fun g=>?_) (fun g=>?_)
  ·rw[if_pos (eq_of_beq g)]at a;refine ae<|aa 2 rfl<|af (t:=.sl [nI i]) rfl rfl rfl (a6 rfl cz ig rfl (by decide) (by decide) rfl rfl rfl rfl rfl)<|cD (bs':=[(30,(aT r)),(67,(bS t))]) (rs':=[some ⟨3,1,(b++[i]).map fw,false⟩]) rfl rfl rfl rfl zY rfl rfl rfl rfl (by intro e p;simp only[Mi,Nr,or_false]at p;subst p;rfl) (AllC.lit rfl) (AllC.lit rfl) (by simp only[L8,Mb,Mo];omega) rfl rfl rfl (by rw[Nk];rfl)<|aa 1 rfl<|ag<|ae<|af (t:=nI (i+1)) rfl rfl rfl (ah (ai rfl rfl rfl Zy) (bu (by omega)))<|aa 1 rfl<|ag<|⟨_,_,?_,⟨i+1,(b++[i]),?_,rfl,rfl⟩,⟨rfl,rfl,rfl,.cons rfl rfl (.cons rfl rfl (.cons rfl rfl (.cons rfl rfl (.cons rfl rfl (.cons rfl rfl (.cons rfl rfl .nil)))))),rfl⟩⟩
   ·omega
   exact⟨by omega,by first|omega|(simp only[Mc,Mb,Mo];omega),by first|exact a|(rw[<-a];simp)⟩
  rw[if_neg (by simpa using g)]at a;refine ax<|ae<|af (t:=nI (i+1)) Z Z Z (ah (ai Z Z Z Zy) (bu (by omega)))<|aa 1 Z<|ag<|⟨_,_,?_,⟨i+1,b,?_,Z,Z⟩,⟨Z,Z,Z,.cons Z Z (.cons Z Z (.cons Z Z (.cons Z Z (.cons Z Z (.cons Z Z (.cons Z Z .nil)))))),Z⟩⟩
  ·omega
  exact⟨by omega,by first|omega|(simp only[Mc,Mb,Mo];omega),by first|exact a|(rw[<-a];simp)⟩
 refine fD 0 (bs':=[(30,(aT r))]) (rs':=[none]) Z Z Z Z<|aZ<|ab<|aj 2 Z<|aC<|⟨.inr Z,_,.cons Z .nil,LT (by unfold eV;rw[if_neg (fun e=>d (by rw[e];rfl)),<-a,Mg (by omega)];simp[bX]),Z⟩
end Go.Proofs.YtfoejfohbkmmeaaGreatDoor
