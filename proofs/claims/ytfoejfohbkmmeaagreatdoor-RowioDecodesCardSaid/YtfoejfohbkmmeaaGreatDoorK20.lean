import Derived.Test.YtfoejfohbkmmeaaGreatDoorK19
set_option maxRecDepth 100000
set_option maxHeartbeats 4000000
set_option linter.defProp false
open Go.Proofs.Tryz
namespace Go.Proofs.YtfoejfohbkmmeaaGreatDoor
open Go.RowKit
open Lib renaming hid→J
variable{α:Type}
def qZ{cert:Bool}{l:List Col}{i:Nat}{c:Col}(h:l[i]? =some c):ik cert (l.take i) (l.drop i)=(m9 cert c||(l.take i).any (λd=>d.name.toList==c.name.toList)||ik cert (l.take (i+1)) (l.drop (i+1))):=by
 obtain⟨a,rfl⟩:=Q6.1 h;rw[Re a,ik,Rz a]
def vB:sf prog 58=some 3:=U
def bk:gQ prog 24=some (58,3):=U
def Am:jy prog 26 0=some 0:=U
def cP:jy prog 26 2=some 2:=U
def ns:jy prog 58 0=some 0:=U
def fN:jy prog 58 1=some 1:=U
def jk:jy prog 58 2=some 2:=U
def d9:jP prog 24=true:=U
def fq:jP prog 3=true:=U
def kx:jP prog 9=true:=U
def OL:(prog.info? 58).map (·.size)=some 3:=U
def iL:ij prog 58=some [.string (⟨#[]⟩),.int .i64 0,.bool false]:=U
def kX(s:Sch):Ct 26 [s.tree] (bT (im s)):=by
 refine Ct.of (n:=69) func26 Z Z Z Z Z λw0 G0=>?_
 refine X 2 Z<|H<|C<|M 2 Z (D Z (qY _) Z Z)<|M 0 (t:=bT (!(j5 s.name))) Z (dm Z Z Zy)<|ax 1 Z<|N Z Z Z Z (λa=>aq Z Z cP Z)<|N Z Z Z Z (λa=>av Z (if_pos a) Z d9 Z)<|N Z Z Z Z (λa=>aU Z bk (if_pos a))<|N Z Z Z Z (λa=>aj (aC Z (if_pos a) Z (λ_=>rfl)) (B (gF s.cols.length 1)))<|M 0 Z (dD Z Z Z Z)<|ax 1 Z<|N Z Z Z Z (λa=>aq Z Z cP Z)<|N Z Z Z Z (λa=>av Z (if_pos a) Z d9 Z)<|N Z Z Z Z (λa=>aU Z bk (if_pos a))<|N Z Z Z Z (λa=>aj (aC Z (if_pos a) Z (λ_=>rfl)) (B (nZ s.cols.length 6)))<|M 0 Z (dD Z Z Z Z)<|E<|aK Z (λm=>?_) (λm=>?_)
 ·refine X 1 Z<|aM ⟨Z,B (by unfold im nd;rw[m];rfl),Z⟩ Z
 refine ar<|H<|C<|M 2 Z (aU Z bk Z)<|Y 1 Z<|aB<|aT (λA u=>∃(i:Nat),(i<=s.cols.length/\ik s.cert (s.cols.take i) (s.cols.drop i)=ik s.cert [] s.cols)/\A=s.cols.length-i/\u=⟨69,[(1,.box 0 0),(24,.sl (s.cols.map Col.tree)),(25,nI s.cols.length),(26,nI i)],[(26,(gC s))],[]⟩) 1 0 ⟨0,⟨O0,Z⟩,Z,Z⟩ .rf ?_;rintro A u ⟨i,⟨L,b⟩,rfl,rfl⟩;have G:s.cols.length<=6:=by simp only[Rp,decide_eq_false_iff_not]at m;omega
 refine C<|aI 0 Z Z Zy (B (gF i s.cols.length))<|E<|H<|ay Z (λv=>?_) (λv=>?_)
 ·obtain⟨c,y⟩:∃c,s.cols[i]? =some c:=⟨_,Q2 v⟩;rw[qZ y]at b;refine ar<|H<|aB<|C<|M 1 (t:=.ref [sT c.name,iT c.ty,bT c.key]) Z (aO (Col.tree c) Z bk Z Z Z (bd (f:=Col.tree) y) (eP _) Z)<|Y 4 Z<|H<|C<|M 2 Z (D Z (qY _) Z Z)<|M 0 (t:=bT (!(j5 c.name))) Z (dm Z Z Zy)<|ax 1 Z<|N Z Z Z Z (λa=>aq Z Z fN Z)<|N Z Z Z Z (λa=>av Z (if_pos a) Z fq Z)<|N (t:=bT (c.ty !=1)) Z Z Z Z (λa=>aC Z (if_pos a) Z (λ_=>rfl))<|N Z Z Z Z (λa=>K Z (if_pos a))<|cl Z Z Z Z (λa=>aq Z Z fN Z)<|cl Z Z Z Z (λa=>av Z (if_pos a) Z fq Z)<|cl (t:=bT (c.ty !=2)) Z Z Z Z (λa=>aC Z (if_pos a) Z (λ_=>rfl))<|N (t:=bT ((c.ty !=1)&&(c.ty !=2))) Z Z Z Z (λa=>fJ Z (if_pos a) (λg=>(if_pos ⟨a,g⟩).trans (B (by rw[g];rfl))) (λg=>(B (by rw[g];rfl))))<|M 0 Z (dD Z Z Z Z)<|ax 1 Z<|N Z Z Z Z (λa=>aq Z Z fM Z)<|N Z Z Z Z (λa=>av Z (if_pos a) Z eG Z)<|N Z Z Z Z (λa=>K Z (if_pos a))<|cl Z Z Z Z (λa=>aq Z Z jk Z)<|cl Z Z Z Z (λa=>av Z (if_pos a) Z eG Z)<|N (t:=bT (s.cert&&c.key)) Z Z Z Z (λa=>fJ Z (if_pos a) (λg=>(if_pos ⟨a,g⟩).trans (B (by rw[g];rfl))) (λg=>(B (by rw[g];rfl))))<|M 0 Z (dD Z Z Z Z)<|E<|aK Z (λp=>?_) (λp=>?_)
  ·refine X 1 Z<|aM ⟨Z,B (by unfold im;rw[<-b];unfold m9;rw[p];simp),Z⟩ Z
  refine ar<|C<|M 3 (t:=.sl ((s.cols.take i).map Col.tree)) Z (aj (ef (l:=0) (h:=i) Z bk Z Z ⟨_,Z⟩ (by first|omega|(simp only[Rn];omega)) (by first|omega|(simp only[Rn];omega)) (eP _)) (by simp only[Tv,Su]))<|M 0 Z (aU Z bk Z)<|Y 1 Z<|aB<|aT (λA u=>∃(j:Nat),(j<=(s.cols.take i).length/\∀k (z:k<(s.cols.take i).length),k<j->((s.cols.take i)[k].name.toList==c.name.toList)=false)/\A=(s.cols.take i).length-j/\u=⟨69,[(1,.box 0 0),(3,nI i),(4,.box 1 0),(24,.sl (s.cols.map Col.tree)),(25,nI s.cols.length),(26,nI i),(56,.sl ((s.cols.take i).map Col.tree)),(57,nI ((s.cols.take i).length)),(58,nI j)],[(26,(gC s)),(58,[sT c.name,iT c.ty,bT c.key])],[]⟩) 2 0 ⟨0,⟨O0,λk z h=>O0⟩,Z,Z⟩ .rf ?_;rintro A u ⟨j,⟨O,o⟩,rfl,rfl⟩;have I:(s.cols.take i).length<=6:=by rw[Rb];omega
  refine C<|aI 0 Z Z Zy (B (gF j ((s.cols.take i).length)))<|E<|H<|ay Z (λw=>?_) (λw=>?_)
  ·obtain⟨d,r⟩:∃d,(s.cols.take i)[j]? =some d:=⟨_,Q2 w⟩;refine ar<|H<|aB<|C<|M 0 (t:=.ref [sT d.name,iT d.ty,bT d.key]) Z (aO (Col.tree d) Z bk Z Z Z (bd (f:=Col.tree) r) (eP _) Z)<|Y 3 Z<|C<|M 4 (t:=bT (d.name.toList==c.name.toList)) Z (aC Z Z Z Zy)<|E<|aK Z (λq=>?_) (λq=>?_)
   ·refine X 1 Z<|aM ⟨Z,B (by unfold im;rw[<-b,show(s.cols.take i).any (λd=>d.name.toList==c.name.toList)=true from TX.2 ⟨d,Q8 r,q⟩];simp),Z⟩ Z
   refine ar<|am<|a8 0 (j+1) Z Z Zy O0<|Y 1 Z<|⟨_,_,?_,⟨j+1,?_,Z,Z⟩,.rf⟩
   ·omega
   refine⟨O0,λk z h=>?_⟩;rcases RE k j with F|F
   ·exact o k z F
   obtain rfl:k=j:=O0
   obtain⟨_,e⟩:=Q6.1 r;rw[e];exact q
  refine aX<|am<|a8 0 (i+1) Z Z Zy O0<|Y 1 Z<|⟨_,_,?_,⟨i+1,?_,Z,Z⟩,.rf⟩
  ·omega
  refine⟨O0,?_⟩;rw[<-b,show m9 s.cert c=false from p,Tg.2 λx J=>?_]
  ·simp
  obtain⟨k,z,rfl⟩:=Sl J;exact by simpa using o k z O0
 refine aX<|X 1 Z<|aM ⟨Z,B (by unfold im;rw[show nd s=false from m,<-b,Rc O0];rfl),Z⟩ Z
def tj{cs:List Col}{vs:List V}{i:Nat}{c:Col}{v:V}(d:cs[i]? =some c)(e:vs[i]? =some v):eT (cs.drop i) (vs.drop i)=if c.key then v::eT (cs.drop (i+1)) (vs.drop (i+1))else eT (cs.drop (i+1)) (vs.drop (i+1)):=by
 obtain⟨a,rfl⟩:=Q6.1 d;obtain⟨b,rfl⟩:=Q6.1 e;rw[Re a,Re b,eT]
def Qv{l m:List V}(h:l=m):(Tree.sl (l.map V.tree))=.sl (m.map V.tree):=by rw[h]
def vC{vs:List V}{ts:List Tp}{i:Nat}{t:Tp}(h:ts[i]? =some t):nS vs (ts.drop i) i=if bw t.vals vs=0 then some i else nS vs (ts.drop (i+1)) (i+1):=by
 obtain⟨a,rfl⟩:=Q6.1 h;rw[Re a,nS]
def yl(o:Option Nat):Tree:=.tup [.sc (.int .i64 ((o.getD 0:Nat):Int)),.sc (.bool o.isSome)]
def ff:List Col->List V->Bool
 |c::cs,v::vs=>((v.t !=c.ty)|| !v.ok)||ff cs vs
 |_,_=>false
def ra{cs:List Col}{vs:List V}{i:Nat}{c:Col}{v:V}(d:cs[i]? =some c)(e:vs[i]? =some v):ff (cs.drop i) (vs.drop i)=(((v.t !=c.ty)|| !v.ok)||ff (cs.drop (i+1)) (vs.drop (i+1))):=by
 obtain⟨a,rfl⟩:=Q6.1 d;obtain⟨b,rfl⟩:=Q6.1 e;rw[Re a,Re b,ff]
def ch(s:Sch)(t:Tp):Int:=if im s=false then 1 else if t.vals.length≠s.cols.length then 13 else if ff s.cols t.vals then 13 else if iw s.cert t.prob then 0 else 19
structure FitT (t:Tp):Prop where
 p:Fit 262144 t.prob
 q:Fit 262144 (1-t.prob)
def mu{s:Sch}(h:im s=true):1<=s.cols.length/\s.cols.length<=6:=by
 unfold im nd at h;simp only[Sk,Rp,decide_eq_false_iff_not]at h;omega
def g7:sf prog 26=some 3:=U
def fA:sf prog 67=some 4:=U
def fB:sf prog 77=some 3:=U
def iM:kI prog 61=some (77,3,32):=U
def aV:gQ prog 28=some (67,4):=U
def bI:gQ prog 61=some (77,3):=U
def a6:jy prog 30 1=some 3:=U
def cz:jy prog 67 0=some 0:=U
def eD:jy prog 67 1=some 1:=U
def rb:jy prog 77 0=some 0:=U
def bJ:jP prog 28=true:=U
def di:jP prog 61=true:=U
def vD:(prog.info? 67).map (·.size)=some 4:=U
def OM:(prog.info? 77).map (·.size)=some 3:=U
def go:ij prog 67=some [.slice none 0 0,.bool false,.slice none 0 0,.slice none 0 0]:=U
def gp:ij prog 77=some [.int .i64 0,.int .i64 0,.string (⟨#[]⟩)]:=U
def Eb(s:Sch)(vs:List V)(x:s.cols.length<=65536):Ct 125 [s.tree,.sl (vs.map V.tree)] (.sl ((aR s vs).map V.tree)):=by
 refine Ct.of (n:=33) func125 Z Z Z Z Z λw0 G0=>?_
 refine C<|M 1 (t:=.sl []) Z (bz (.inr Z) bS)<|E<|H<|C<|M 1 Z (aU Z bI Z)<|M 2 Z (aU Z bk Z)<|aI 0 Z Z Zy (B (od vs.length s.cols.length))<|E<|ay Z (λd=>?_) (λd=>?_)
 ·refine C<|M 0 (t:=.sl []) Z (bz (.inr Z) bS)<|E<|aM ⟨Z,Qv (by unfold aR;rw[if_neg d]) (l:=[]),Z⟩ Z
 have m:vs.length=s.cols.length:=SL.1 d;refine ar<|C<|gc (k:=0) (e:=77) (sz:=3) (rs':=[some ⟨77,3,[],false⟩]) (.inr Z) Z Z Z Z Z<|E<|H<|C<|M 2 Z (aU Z bk Z)<|Y 1 Z<|aB<|aT (λu p=>∃(i:Nat) (b:List V),(i<=s.cols.length/\b.length<=i/\b++eT (s.cols.drop i) (vs.drop i)=eT s.cols vs)/\u=s.cols.length-i/\p=⟨33,[(1,.sl (vs.map V.tree)),(2,.box 0 0),(5,.own 0),(15,.sl (s.cols.map Col.tree)),(16,nI s.cols.length),(17,nI i)],[(26,(gC s))],[some ⟨77,3,b.map V.tree,false⟩]⟩) 1 1 ⟨0,[],⟨O0,F0,Z⟩,Z,Z⟩ .rf ?_;rintro u p ⟨i,b,⟨w,q,a⟩,rfl,rfl⟩;refine C<|aI 0 Z Z Zy (B (gF i s.cols.length))<|E<|H<|ay Z (λh=>?_) (λh=>?_)
 ·obtain⟨c,j⟩:∃c,s.cols[i]? =some c:=⟨_,Q2 h⟩;obtain⟨v,o⟩:∃v,vs[i]? =some v:=⟨_,Q2 O0⟩;rw[tj j o]at a;refine ar<|H<|aB<|C<|M 1 (t:=.ref [sT c.name,iT c.ty,bT c.key]) Z (aO (Col.tree c) Z bk Z Z Z (bd (f:=Col.tree) j) (eP _) Z)<|Y 4 Z<|X 2 Z<|aK Z (λg=>?_) (λg=>?_)
  ·rw[if_pos g]at a;refine am<|M 3 (t:=.ref [iT v.t,iT v.n,sT v.s]) Z (aO (V.tree v) Z bI Z Z Z (bd (f:=V.tree) o) (gN _) Z)<|M 1 (t:=.sl [.agg [iT v.t,iT v.n,sT v.s]]) Z (aS Z bI gp Z I1 I1 Z Z Z Z Z)<|a7 (bs':=[(26,(gC s)),(58,[sT c.name,iT c.ty,bT c.key])]) (rs':=[some ⟨77,3,(b++[v]).map V.tree,false⟩]) Z Z Z Z iM Z Z Z Z (by intro e r;simp only[Ri,RM,or_false]at r;subst r;rfl) (AllC.lit Z) (AllC.lit Z) (by simp only[Rn,Q5,Ra];omega) Z Z Z (by rw[Sn];rfl)<|Y 1 Z<|am<|a8 0 (i+1) Z Z Zy O0<|Y 1 Z<|⟨_,_,?_,⟨i+1,(b++[v]),?_,Z,Z⟩,.rf⟩
   ·omega
   exact⟨O0,by first|omega|(simp only[Q4,Q5,Ra];omega),by first|exact a|(rw[<-a];simp)⟩
  rw[if_neg (by rw[g];exact R0)]at a;refine ar<|am<|a8 0 (i+1) Z Z Zy O0<|Y 1 Z<|⟨_,_,?_,⟨i+1,b,?_,Z,Z⟩,.rf⟩
  ·omega
  exact⟨O0,by first|omega|(simp only[Q4,Q5,Ra];omega),by first|exact a|(rw[<-a];simp)⟩
 refine dp 0 (bs':=[(26,(gC s))]) (rs':=[none]) Z Z Z Z<|aX<|X 2 Z<|aM ⟨Z,Qv (by unfold aR;rw[if_pos m,<-a,Rc O0];simp[eT]),Z⟩ Z
def MQ(r:Rel)(vs:List V)(k:vs.length<=65536)(m:r.tups.length<=65536)(e:∀t∈r.tups,t.vals.length<=65536):Ct 80 [r.tree,.sl (vs.map V.tree)] (yl (nS vs r.tups 0)):=by
 refine Ct.of (n:=23) func80 Z Z Z Z Z λw0 G0=>?_
 refine X 3 Z<|H<|C<|M 2 Z (aU Z aV Z)<|Y 1 Z<|aB<|aT (λj h=>∃(i:Nat),(i<=r.tups.length/\nS vs (r.tups.drop i) i=nS vs r.tups 0)/\j=r.tups.length-i/\h=⟨23,[(1,.sl (vs.map V.tree)),(9,.sl (r.tups.map Tp.tree)),(10,nI r.tups.length),(11,nI i)],[(30,(bQ r))],[]⟩) 1 0 ⟨0,⟨O0,Z⟩,Z,Z⟩ .rf ?_;rintro j h ⟨i,⟨l,a⟩,rfl,rfl⟩;refine C<|aI 0 Z Z Zy (B (gF i r.tups.length))<|E<|H<|ay Z (λd=>?_) (λd=>?_)
 ·obtain⟨t,c⟩:∃t,r.tups[i]? =some t:=⟨_,Q2 d⟩;have g:=e t (Q8 c);rw[vC c]at a;refine ar<|H<|aB<|C<|M 1 (t:=.ref (eA t)) Z (aO (Tp.tree t) Z aV Z Z Z (bd (f:=Tp.tree) c) (c6 _) Z)<|Y 4 Z<|C<|M 3 Z (D Z (ku _ _ g k) Z Z)<|M 0 (t:=bT ((bw t.vals vs)==0)) Z (aC Z Z Z Zy)<|E<|aK Z (λb=>?_) (λb=>?_)
  ·refine X 3 Z<|aQ<|⟨.inr Z,_,.cons Z (.cons Z .nil),by unfold yl;rw[<-a,if_pos (by simpa using b)];rfl,Z⟩
  refine ar<|am<|a8 0 (i+1) Z Z Zy O0<|Y 1 Z<|⟨_,_,?_,⟨i+1,?_,Z,Z⟩,.rf⟩
  ·omega
  exact⟨O0,by rw[<-a,if_neg (by simpa using b)]⟩
 refine aX<|X 2 Z<|aQ<|⟨.inr Z,_,.cons Z (.cons Z .nil),by unfold yl;rw[<-a,Rc O0];rfl,Z⟩
def BL(s:Sch)(t:Tp)(r:FitT t):Ct 63 [s.tree,t.tree] (iT (ch s t)):=by
 refine Ct.of (n:=45) func63 Z Z Z Z Z λw0 G0=>?_
 refine X 3 Z<|H<|C<|M 1 Z (D Z (kX s) Z Z)<|M 0 (t:=bT (!(im s))) Z (dm Z Z Zy)<|E<|aK Z (λe=>?_) (λe=>?_)
 ·refine X 1 Z<|aM ⟨Z,ej (by unfold ch;rw[if_pos (by simpa using e)]),Z⟩ Z
 have d:im s=true:=by simpa using e
 have x:=mu d;refine ar<|H<|C<|M 2 Z (aU Z bI Z)<|M 2 Z (aU Z bk Z)<|aI 0 Z Z Zy (B (od t.vals.length s.cols.length))<|E<|ay Z (λb=>?_) (λb=>?_)
 ·refine X 1 Z<|aM ⟨Z,ej (by unfold ch;rw[if_neg (by rw[d];simp),if_pos b]),Z⟩ Z
 have u:t.vals.length=s.cols.length:=SL.1 b;refine ar<|H<|C<|M 2 Z (aU Z bI Z)<|Y 1 Z<|aB<|aT (λw o=>∃(i:Nat),(i<=t.vals.length/\ff (s.cols.drop i) (t.vals.drop i)=ff s.cols t.vals)/\w=t.vals.length-i/\o=⟨45,[(2,.box 0 0),(3,.box 1 0),(18,.sl (t.vals.map V.tree)),(19,nI t.vals.length),(20,nI i)],[(26,(gC s)),(67,(eA t))],[]⟩) 2 0 ⟨0,⟨O0,Z⟩,Z,Z⟩ .rf ?_;rintro w o ⟨i,⟨y,a⟩,rfl,rfl⟩;refine C<|aI 0 Z Z Zy (B (gF i t.vals.length))<|E<|H<|ay Z (λj=>?_) (λj=>?_)
 ·obtain⟨v,l⟩:∃v,t.vals[i]? =some v:=⟨_,Q2 j⟩;obtain⟨c,k⟩:∃c,s.cols[i]? =some c:=⟨_,Q2 O0⟩;rw[ra k l]at a;refine ar<|H<|aB<|C<|M 1 (t:=.ref [iT v.t,iT v.n,sT v.s]) Z (aO (V.tree v) Z bI Z Z Z (bd (f:=V.tree) l) (gN _) Z)<|Y 4 Z<|H<|cB (fu:=14) _ [.box 2 0,iT v.t,.box 0 2,.sl (s.cols.map Col.tree),nI i,.ref [sT c.name,iT c.ty,bT c.key],.ref [iT c.ty,bT c.key],iT c.ty,bT (v.t !=c.ty),bT (v.t !=c.ty),if(v.t !=c.ty)=false then(.agg [iT v.t,iT v.n,sT v.s]:Tree)else .sc undef,if(v.t !=c.ty)=false then(bT v.ok:Tree)else .sc undef,if(v.t !=c.ty)=false then(bT (!v.ok):Tree)else .sc undef,bT ((v.t !=c.ty)||(!v.ok))] U0 Z Z U0 Z ?_ ?_
  ·refine Chain.op Z (aq Z Z rb Z)<|Chain.op Z (av Z Z Z fq Z)<|Chain.op Z (aq Z Z cP Z)<|Chain.op Z (av Z Z Z d9 Z)<|Chain.op Z (K Z Z)<|Chain.op Z (aO (Col.tree c) Z bk Z Z Z (bd (f:=Col.tree) k) (eP _) Z)<|Chain.op Z (bL Z Z fN Z)<|Chain.op Z (bi Z Z fq Z)<|Chain.op Z (aC Z Z Z Zy)<|Chain.op Z (K Z Z)<|bG Z Z Z (λm=>aN Z Z Z fB Z Z)<|bG Z Z Z (λm=>D Z (BB v) (dN (if_pos m) Z) Z)<|bG Z Z Z (λm=>dm Z (if_pos m) (λ_=>rfl))<|Chain.op Z (dD Z Z Z Z)<|Chain.nil
  refine aK Z (λg=>?_) (λg=>?_)
  ·refine X 1 Z<|aM ⟨Z,ej (by unfold ch;rw[if_neg (by rw[d];simp),if_neg b,if_pos (by rw[<-a,g];rfl)]),Z⟩ Z
  refine ar<|am<|a8 0 (i+1) Z Z Zy O0<|Y 1 Z<|⟨_,_,?_,⟨i+1,?_,Z,Z⟩,.rf⟩
  ·omega
  exact⟨O0,by rw[<-a,g];rfl⟩
 refine aX<|H<|C<|M 3 Z (D Z (Aj s t.prob r.p r.q) Z Z)<|M 0 (t:=bT (!(iw s.cert t.prob))) Z (dm Z Z Zy)<|E<|aK Z (λh=>?_) (λh=>?_)
 ·refine X 1 Z<|aM ⟨Z,ej (by unfold ch;rw[if_neg (by rw[d];simp),if_neg b,if_neg (by rw[<-a,Rc (by omega:t.vals.length<=i)];cases s.cols.drop i<;>simp[ff]),if_neg (by simpa using h)]),Z⟩ Z
 refine ar<|X 1 Z<|aM ⟨Z,ej (by unfold ch;rw[if_neg (by rw[d];simp),if_neg b,if_neg (by rw[<-a,Rc (by omega:t.vals.length<=i)];cases s.cols.drop i<;>simp[ff]),if_pos (by simpa using h)]),Z⟩ Z
def BM{s:Sch}{key:List V}{ts:List Tp}{i:Nat}{t:Tp}(h:ts[i]? =some t):cE s key (ts.drop i) i=if bw (aR s t.vals) key=0 then i::cE s key (ts.drop (i+1)) (i+1)else cE s key (ts.drop (i+1)) (i+1):=by
 obtain⟨a,rfl⟩:=Q6.1 h;rw[Re a,cE]
def vE:∀(cs:List Col) (vs:List V),(eT cs vs).length<=cs.length
 |[],vs=>by cases vs<;>simp[eT]
 |c::cs,[]=>by simp[eT]
 |c::cs,v::vs=>by
  have:=vE cs vs;simp only[eT];split<;>simp<;>omega
def jC(s:Sch)(vs:List V):(aR s vs).length<=s.cols.length:=by
 unfold aR;split
 ·exact vE _ _
 simp
def Q1{l m:List Nat}(h:l=m):(Tree.sl (l.map gO))=.sl (m.map gO):=by rw[h]
def MR(ng:Bool)(N D:Nat)(q:Rat)(c:(aD N).length<=262144)(b:(aD D).length<=262144)(a:Fit 262144 q):Ct 132 [iC ng N D,dw q] (dw (eK ng N D+q)):=by
 have:=J6 ng (decide (q.num<0)) N D q.num.natAbs q.den c b a.num a.den;rw[gB]at this;exact this
def Ec:kI prog 23=some (3,1,8):=U
def dj:gQ prog 23=some (3,1):=U
def cV:jy prog 30 0=some 0:=U
def jD:ij prog 3=some [.int .i64 0]:=U
def Ka(r:Rel)(b:List Nat)(l:∀i∈b,i<r.tups.length)(v:b.length<=65536)(m:∀t∈r.tups,Fit 262144 t.prob)(h:∀j,j<=b.length->Fit 262144 (gR r.tups (b.take j))):Ct 68 [r.tree,.sl (b.map gO)] (dw (gR r.tups b)):=by
 refine Ct.of (n:=25) func68 Z Z Z Z Z λw0 G0=>?_
 refine X 2 Z<|X 1 Z<|H<|C<|M 1 Z (aU Z dj Z)<|Y 1 Z<|aB<|aT (λu p=>∃(j:Nat) (ng:Bool) (N:Nat) (D:Nat),(j<=b.length/\eK ng N D=gR r.tups (b.take j)/\(aD N).length<=262144/\(aD D).length<=262144)/\u=b.length-j/\p=⟨25,[(2,.box 0 0),(4,.box 1 0),(5,.box 2 0),(8,.sl (b.map gO)),(9,nI b.length),(10,nI j)],[(30,(bQ r)),(65,ml),(65,[bT ng,aY N,aY D])],[]⟩) 3 0 ⟨0,false,0,0,⟨O0,by rw[kP];rfl,I1,I1⟩,Z,Z⟩ .rf ?_;rintro u p ⟨j,ng,N,D,⟨w,a,s,q⟩,rfl,rfl⟩;refine C<|aI 0 Z Z Zy (B (gF j b.length))<|E<|H<|ay Z (λg=>?_) (λg=>?_)
 ·obtain⟨i,c⟩:∃i,b[j]? =some i:=⟨_,Q2 g⟩;obtain⟨t,e⟩:∃t,r.tups[i]? =some t:=⟨_,Q2 (l i (Q8 c))⟩;have o:=m t (Q8 e);have d:=yb c e;have k:=h (j+1) O0;refine ar<|H<|aB<|C<|M 0 (t:=.ref [nI i]) Z (aO (gO i) Z dj Z Z Z (bd (f:=gO) c) (tg _) Z)<|Y 2 Z<|dq (ops:=[_,_,_,_,_,_,_,_]) (fu:=9) (bs':=[(30,(bQ r)),(65,ml),(65,(bj (eK ng N D+t.prob)))]) [some 14,some 15,some 16,some 17,some 18,some 19,some 20,some 21] [.agg [bT ng,aY N,aY D],.box 0 3,.sl (r.tups.map Tp.tree),nI i,.ref (eA t),.ref (bj t.prob),.agg (bj t.prob),.agg (bj (eK ng N D+t.prob))] U0 Z Z Z Z Z U0 U0 Z Z Z Z Z Z Z Z d8 Z Z Z ?_ ?_
  ·refine Chain.op Z (aN Z Z Z aH Z Z)<|Chain.op Z (aq Z Z a6 Z)<|Chain.op Z (av Z Z Z bJ Z)<|Chain.op Z (K Z Z)<|Chain.op Z (aO (Tp.tree t) Z aV Z Z Z (bd (f:=Tp.tree) e) (c6 _) Z)<|Chain.op Z (bL Z Z eD Z)<|Chain.op Z (dt Z Z aH Z Z)<|Chain.op Z (ah Z (MR ng N D t.prob s q o) Z Z)<|Chain.nil
  refine am<|a8 0 (j+1) Z Z Zy O0<|Y 1 Z<|⟨_,_,?_,⟨j+1,_,_,_,?_,Z,Z⟩,.rf⟩
  ·omega
  refine⟨O0,?_,?_,?_⟩
  ·rw[gB,d,a]
  ·rw[a,<-d];exact k.num
  rw[a,<-d];exact k.den
 refine aX<|C<|M 1 Z (ah Z (ud ng N D s q) Z Z)<|Y 1 Z<|aM ⟨(co Z Z aH Z),nh (by rw[a,Rf O0]),Z⟩ Z
def Ed(r:Rel)(vs:List V)(c:r.sch.cols.length<=65536)(u:r.tups.length<=65536):Ct 81 [r.tree,.sl (vs.map V.tree)] (.sl ((kT r vs).map gO)):=by
 refine Ct.of (n:=38) func81 Z Z Z Z Z λw0 G0=>?_
 refine C<|M 1 (t:=.sl []) Z (bz (.inr Z) bS)<|E<|C<|M 3 Z (D Z (Eb r.sch vs c) Z Z)<|Y 1 Z<|H<|C<|M 1 Z (aU Z bI Z)<|aI 0 Z Z Zy (B (gL ((aR r.sch vs).length) 0))<|E<|ay Z (λd=>?_) (λd=>?_)
 ·refine C<|M 0 (t:=.sl []) Z (bz (.inr Z) bS)<|E<|aM ⟨Z,Q1 (by unfold kT;rw[if_pos (Rj d)]) (l:=[]),Z⟩ Z
 refine ar<|C<|gc (k:=0) (e:=3) (sz:=1) (rs':=[some ⟨3,1,[],false⟩]) (.inr Z) Z Z Z Z Z<|E<|H<|C<|M 2 Z (aU Z aV Z)<|Y 1 Z<|aB<|aT (λq m=>∃(i:Nat) (b:List Nat),(i<=r.tups.length/\b.length<=i/\b++cE r.sch (aR r.sch vs) (r.tups.drop i) i=cE r.sch (aR r.sch vs) r.tups 0)/\q=r.tups.length-i/\m=⟨38,[(1,.sl (vs.map V.tree)),(2,.box 0 0),(5,.sl ((aR r.sch vs).map V.tree)),(6,.own 0),(17,.sl (r.tups.map Tp.tree)),(18,nI r.tups.length),(19,nI i)],[(30,(bQ r))],[some ⟨3,1,b.map gO,false⟩]⟩) 1 1 ⟨0,[],⟨O0,F0,Z⟩,Z,Z⟩ .rf ?_;rintro q m ⟨i,b,⟨s,o,a⟩,rfl,rfl⟩;refine C<|aI 0 Z Z Zy (B (gF i r.tups.length))<|E<|H<|ay Z (λh=>?_) (λh=>?_)
 ·obtain⟨t,j⟩:∃t,r.tups[i]? =some t:=⟨_,Q2 h⟩;rw[BM j]at a;refine ar<|H<|aB<|C<|M 1 (t:=.ref (eA t)) Z (aO (Tp.tree t) Z aV Z Z Z (bd (f:=Tp.tree) j) (c6 _) Z)<|Y 4 Z<|C<|M 4 Z (D Z (Eb r.sch t.vals c) Z Z)<|M 1 Z (D Z (ku _ _ (Q7 (jC _ _) c) (Q7 (jC _ _) c)) Z Z)<|M 0 (t:=bT ((bw (aR r.sch t.vals) (aR r.sch vs))==0)) Z (aC Z Z Z Zy)<|E<|aK Z (λg=>?_) (λg=>?_)
  ·rw[if_pos (eq_of_beq g)]at a;refine am<|M 2 (t:=.sl [nI i]) Z (aS Z dj jD Z I1 I1 Z Z Z Z Z)<|a7 (bs':=[(30,(bQ r)),(67,(eA t))]) (rs':=[some ⟨3,1,(b++[i]).map gO,false⟩]) Z Z Z Z Ec Z Z Z Z (by intro e p;simp only[Ri,RM,or_false]at p;subst p;rfl) (AllC.lit Z) (AllC.lit Z) (by simp only[Rn,Q5,Ra];omega) Z Z Z (by rw[Sn];rfl)<|Y 1 Z<|am<|a8 0 (i+1) Z Z Zy O0<|Y 1 Z<|⟨_,_,?_,⟨i+1,(b++[i]),?_,Z,Z⟩,.rf⟩
   ·omega
   exact⟨O0,by first|omega|(simp only[Q4,Q5,Ra];omega),by first|exact a|(rw[<-a];simp)⟩
  rw[if_neg (by simpa using g)]at a;refine ar<|am<|a8 0 (i+1) Z Z Zy O0<|Y 1 Z<|⟨_,_,?_,⟨i+1,b,?_,Z,Z⟩,.rf⟩
  ·omega
  exact⟨O0,by first|omega|(simp only[Q4,Q5,Ra];omega),by first|exact a|(rw[<-a];simp)⟩
 refine dp 0 (bs':=[(30,(bQ r))]) (rs':=[none]) Z Z Z Z<|aX<|X 2 Z<|aM ⟨Z,Q1 (by unfold kT;rw[if_neg (λe=>d (by rw[e];rfl)),<-a,Rc O0];simp[cE]),Z⟩ Z
def sF(p q:Rat):Int:=if p<q then-1 else if q<p then 1 else 0
def BN(a b:Nat):fE (a:Int) (b:Int)=if a<b then-1 else if b<a then 1 else 0:=by
 unfold fE;by_cases h:a<b
 ·rw[if_pos h,if_pos O]
 by_cases c:b<a
 ·rw[if_neg h,if_pos c,if_neg O,if_pos O]
 rw[if_neg h,if_neg c,if_neg O,if_neg O]
def FY{p q:Rat}(h:dk p<dk q):p<q:=by
 unfold dk at h;rw[Rat.lt_iff];have e:=p.den_pos;have f:=q.den_pos;rcases Uw p.num 0 with a|a|a<;>rcases Uw q.num 0 with b|b|b<;>
  first
   |(rw[SP a,SP b]at h;omega)
   |(rw[S6 a,S6 b]at h;omega)
   |(rw[a,b]at h;simp at h)
   |(rw[S6 a,SP b]at h;omega)
   |(rw[a,SP b]at h;simp at h)
   |(rw[S6 a,b]at h;simp at h)
   |skip
 ·rw[b];simp only[Int.zero_mul];exact UZ a O
 ·have c:p.num*q.den<0:=UZ a O;have d:0<q.num*p.den:=Int.mul_pos b O;omega
 rw[a];simp only[Int.zero_mul];exact Int.mul_pos b O
def BO{p q:Rat}(h:dk p=dk q):dk p*fE ((p.num.natAbs*q.den:Nat):Int) ((q.num.natAbs*p.den:Nat):Int)=sF p q:=by
 have c:p<q↔p.num*q.den<q.num*p.den:=Rat.lt_iff p q;have d:q<p↔q.num*p.den<p.num*q.den:=Rat.lt_iff q p;unfold sF;simp only[c,d];rw[BN];unfold dk at h⊢;rcases Uw p.num 0 with a|a|a
 ·rw[SP a]at h⊢;have b:q.num<0:=Int.sign_neg_iff.1 O;have e:((p.num.natAbs*q.den:Nat):Int)= -(p.num*q.den):=by push_cast;rw[UT O];simp[VK]
  have f:((q.num.natAbs*p.den:Nat):Int)= -(q.num*p.den):=by push_cast;rw[UT O];simp[VK]
  generalize p.num.natAbs*q.den=A at*;generalize q.num.natAbs*p.den=B at*;generalize p.num*(q.den:Int)=X at*;generalize q.num*(p.den:Int)=Y at*;split<;>split<;>first|omega|(split<;>omega)|skip
  all_goals (split<;>first|omega|(split<;>omega))
 ·rw[a]at h⊢;have b:q.num=0:=UY.1 (by rw[<-h];rfl);rw[b];simp
 rw[S6 a]at h⊢;have b:0<q.num:=Int.sign_pos_iff.1 O;have e:((p.num.natAbs*q.den:Nat):Int)=p.num*q.den:=by push_cast;rw[Vq O]
 have f:((q.num.natAbs*p.den:Nat):Int)=q.num*p.den:=by push_cast;rw[Vq O]
 generalize p.num.natAbs*q.den=A at*;generalize q.num.natAbs*p.den=B at*;generalize p.num*(q.den:Int)=X at*;generalize q.num*(p.den:Int)=Y at*;split<;>split<;>first|omega|(split<;>omega)|skip
 all_goals (split<;>first|omega|(split<;>omega))
def Ee(p q:Rat): -1<=sF p q/\sF p q<=1:=by
 unfold sF;split
 ·omega
 split<;>omega
def BP{a b:Nat}(f:(aD a).length<=262144)(g:(aD b).length<=262144):(aD (a*b)).length<=1073741823:=by
 have c:=cC (aD a) (ck a);have d:=cC (aD b) (ck b);rw[aW]at c d;have e:a*b<4294967296^((aD a).length+(aD b).length):=by
  rw[SF];exact U5 c d
 exact Q7 (bq e) O
def kY{n:Nat}(h:n<18446744073709551616):(aD n).length<=262144:=Q7 (bq (k:=2) (Rh h I)) I
def MS(p q:Rat)(e:Fit 262144 p)(f:Fit 262144 q):Ct 82 [dw p,dw q] (iT (sF p q)):=by
 refine Ct.of (n:=32) func82 Z Z Z Z Z λw0 G0=>?_
 refine X 3 Z<|H<|cB (fu:=6) _ [.agg (bj p),iT (dk p),.agg (bj q),iT (dk q),iT (dk p),iT (dk q)] U0 Z Z U0 Z ?_ ?_
 ·refine Chain.op Z (aN Z Z Z aH Z Z)<|Chain.op Z (D Z (mn p e) Z Z)<|Chain.op Z (aN Z Z Z aH Z Z)<|Chain.op Z (D Z (mn q f) Z Z)<|Chain.op Z (bN Z Z)<|Chain.op Z (bN Z Z)<|Chain.nil
 refine H<|C<|M 2 (t:=bT ((dk p) !=(dk q))) Z (aC Z Z Z Zy)<|E<|aK Z (λa=>?_) (λa=>?_)
 ·refine H<|C<|M 2 (t:=bT (decide ((dk p)<(dk q)))) Z (aC Z Z Z Zy)<|E<|ay Z (λb=>?_) (λb=>?_)
  ·refine X 1 Z<|aM ⟨Z,ej (by unfold sF;rw[if_pos (FY b)]),Z⟩ Z
  refine ar<|X 1 Z<|aM ⟨Z,ej (by unfold sF;have h:dk p≠dk q:=(by simpa using a);have d:=FY (p:=q) (q:=p) O0;rw[if_neg (by rw[Rat.not_lt];exact Rat.le_of_lt d),if_pos d]),Z⟩ Z
 have g:dk p=dk q:=by simpa using a
 refine ar<|H<|C<|M 1 (t:=bT ((dk p)==0)) Z (aC Z Z Z Zy)<|E<|aK Z (λc=>?_) (λc=>?_)
 ·refine X 1 Z<|aM ⟨Z,ej (by rw[<-BO g,show dk p=0 from by simpa using c];simp),Z⟩ Z
 refine ar<|H<|cB (fu:=14) _ [iT (dk p),.box 0 1,aY p.num.natAbs,.box 1 2,aY q.den,aY (p.num.natAbs*q.den),.box 1 1,aY q.num.natAbs,.box 0 2,aY p.den,aY (q.num.natAbs*p.den),iT (fE ((p.num.natAbs*q.den:Nat):Int) ((q.num.natAbs*p.den:Nat):Int)),iT (sF p q),iT (sF p q)] U0 Z Z U0 Z ?_ ?_
 ·refine Chain.op Z (K Z Z)<|Chain.op Z (aq Z Z cL Z)<|Chain.op Z (av Z Z Z bE Z)<|Chain.op Z (aq Z Z b8 Z)<|Chain.op Z (av Z Z Z bE Z)<|Chain.op Z (D Z (lF _ _ (Q7 e.num I1) (Q7 f.den I1)) Z Z)<|Chain.op Z (aq Z Z cL Z)<|Chain.op Z (av Z Z Z bE Z)<|Chain.op Z (aq Z Z b8 Z)<|Chain.op Z (av Z Z Z bE Z)<|Chain.op Z (D Z (lF _ _ (Q7 f.num I1) (Q7 e.den I1)) Z Z)<|Chain.op Z (D Z (FP _ _ (BP e.num f.den) (BP f.num e.den)) Z Z)<|Chain.op Z (aj (aC Z Z Z Zy) (ej (by rw[BO g,RZ];have:=Ee p q;omega)))<|Chain.op Z (bN Z Z)<|Chain.nil
 exact aM ⟨Z,Z,Z⟩ Z
def MT(a b:Int)(d: -9223372036854775808<=a)(e:a<=9223372036854775807)(f: -9223372036854775808<=b)(g:b<=9223372036854775807)(h:b≠0):Ct 78 [iT a,iT b] (.tup [dw (eK ((decide (a<0)) !=(decide (b<0))) a.natAbs b.natAbs),iT 0]):=by
 refine Ct.of (n:=21) func78 Z Z Z Z Z λw0 G0=>?_
 refine X 2 Z<|H<|C<|M 1 (t:=bT (b==0)) Z (aC Z Z Z Zy)<|E<|aK Z (λc=>?_) (λc=>?_)
 ·exact absurd (by simpa using c) h
 refine ar<|C<|M 1 (t:=bT (decide (a<0))) Z (aC Z Z Z Zy)<|M 1 (t:=bT (decide (b<0))) Z (aC Z Z Z Zy)<|M 0 (t:=bT ((decide (a<0)) !=(decide (b<0)))) Z (aC Z Z Z Zy)<|Y 1 Z<|C<|M 2 Z (D Z (qV a d e) Z Z)<|M 1 Z (D Z (qV b f g) Z Z)<|M 0 Z (D Z (mm _ _ _ (kY O0) (kY O0)) Z Z)<|Y 2 Z<|aQ<|⟨.inr Z,_,.cons (co Z Z aH Z) (.cons Z .nil),Z,Z⟩
def bU(keys:List (List V))(k:List V):Nat:=(keys.takeWhile λx=>decide (bw x k<0)).length
def jr(s:Sch)(st:List (List V)×List (List Nat))(i:Nat)(t:Tp):List (List V)×List (List Nat):=
 if aR s t.vals=[]then(st.1++[aR s t.vals],st.2++[[i]])
 else if(st.1[bU st.1 (aR s t.vals)]?).any (λx=>bw x (aR s t.vals)==0)then(st.1,st.2.modify (bU st.1 (aR s t.vals)) (· ++[i]))
 else(st.1.insertIdx (bU st.1 (aR s t.vals)) (aR s t.vals),st.2.insertIdx (bU st.1 (aR s t.vals)) [i])
def ei(s:Sch):List (List V)×List (List Nat)->Nat->List Tp->List (List V)×List (List Nat)
 |st,_,[]=>st
 |st,i,t::ts=>ei s (jr s st i t) (i+1) ts
def bF(r:Rel):List (List Nat):=if r.sch.cert then []else(ei r.sch ([],[]) 0 r.tups).2
def j0(b:List Nat):Tree:=.sl (b.map gO)
def nt(l:List (List Nat)):Sized 1 (l.map j0):=Sized.map _ l λ_=>rfl
def ci(s:Sch):Option (List V)->List Tp->Int
 |_,[]=>0
 |none,t::ts=>if ch s t≠0 then ch s t else ci s (some t.vals) ts
 |some p,t::ts=>if ch s t≠0 then ch s t else if bw p t.vals=0 then 8 else if bw p t.vals=1 then 1 else ci s (some t.vals) ts
def tS(l:List (List Nat)):Bool:=l.any λb=>decide (16<b.length)
def pJ(ts:List Tp)(l:List (List Nat)):Bool:=l.any λb=>decide (dk (1-gR ts b)<0)
def bK(r:Rel):Int:=if im r.sch=false then 1 else if 64<r.tups.length then 4 else if ci r.sch none r.tups≠0 then ci r.sch none r.tups else if tS (bF r)then 4 else if pJ r.tups (bF r)then 19 else 0
def iN(ts:List Tp)(i:Nat):Option (List V):=if i=0 then none else(ts[i-1]?).map (·.vals)
def rc{s:Sch}{ts:List Tp}{i:Nat}{t:Tp}(h:ts[i]? =some t)(c:ch s t=0)(b:i=0):ci s (iN ts i) (ts.drop i)=ci s (iN ts (i+1)) (ts.drop (i+1)):=by
 obtain⟨a,rfl⟩:=Q6.1 h;subst b;rw[Re a];simp only[iN,if_true,ci,c];simp[Q2 a]
def tk{s:Sch}{ts:List Tp}{i:Nat}{t:Tp}(h:ts[i]? =some t)(a:ch s t≠0):ci s (iN ts i) (ts.drop i)=ch s t:=by
 obtain⟨b,rfl⟩:=Q6.1 h;rw[Re b];cases iN ts i<;>simp only[ci,if_pos a]
def tm{s:Sch}{ts:List Tp}{i:Nat}{t p:Tp}(h:ts[i]? =some t)(e:ch s t=0)(d:i≠0)(f:ts[i-1]? =some p):ci s (iN ts i) (ts.drop i)=if bw p.vals t.vals=0 then 8 else if bw p.vals t.vals=1 then 1 else ci s (iN ts (i+1)) (ts.drop (i+1)):=by
 obtain⟨a,rfl⟩:=Q6.1 h;rw[Re a];have b:iN ts i=some p.vals:=by simp[iN,d,f]
 have c:iN ts (i+1)=some ts[i].vals:=by simp[iN,Q2 a]
 rw[b,c];simp only[ci,e];simp
def pZ{l:List (List Nat)}(h:∀(j:Nat) (b:List Nat),l[j]? =some b->¬16<b.length):tS l=false:=by
 unfold tS;rw[Tg];intro b a;obtain⟨j,c,rfl⟩:=Sl a;simpa using h j _ (Q2 c)
def ym{l:List (List Nat)}{j:Nat}{b:List Nat}(h:l[j]? =some b)(a:16<b.length):tS l=true:=TX.2 ⟨b,Q8 h,decide_eq_true a⟩
def ou{ts:List Tp}{l:List (List Nat)}(h:∀(j:Nat) (b:List Nat),l[j]? =some b->¬dk (1-gR ts b)<0):pJ ts l=false:=by
 unfold pJ;rw[Tg];intro b a;obtain⟨j,c,rfl⟩:=Sl a;simpa using h j _ (Q2 c)
def vF{ts:List Tp}{l:List (List Nat)}{j:Nat}{b:List Nat}(h:l[j]? =some b)(a:dk (1-gR ts b)<0):pJ ts l=true:=TX.2 ⟨b,Q8 h,decide_eq_true a⟩
structure FitR (r:Rel):Prop where
 cols:r.sch.cols.length<=65536
 tups:r.tups.length<=65536
 tup:∀t∈r.tups,FitT t/\t.vals.length<=65536
def Ao(vs:List V)(ts:List Tp):Nat:=(ts.takeWhile λt=>decide (bw t.vals vs<0)).length
def d5(r:Rel)(t:Tp):Int:=
 if bK r≠0 then bK r else if ch r.sch t≠0 then ch r.sch t else if(nS t.vals r.tups 0).isSome then 8
 else if 64<=r.tups.length\/16<=(kT r t.vals).length then 4 else if 0<sF t.prob (1-gR r.tups (kT r t.vals))then 19 else 0
def g8(r:Rel)(t:Tp):Rel:=⟨r.sch,r.tups.take (Ao t.vals r.tups)++[t]++r.tups.drop (Ao t.vals r.tups)⟩
def ug:Tree:=.agg [.sc (.string ⟨#[]⟩),.sc (.bool false),.sl [],.sl []]
def vG(r:Rel)(t:Tp):Tree:=.tup [if d5 r t=0 then(g8 r t).tree else ug,.sc (.int .i64 (d5 r t))]
def o4{n k:Nat}(h:(aD n).length<=k):n<4294967296^k:=by
 have:=cC (aD n) (ck n);rw[aW]at this;exact Rh this (Rx I h)
def ip{a b j k:Nat}(c:(aD a).length<=j)(d:(aD b).length<=k):(aD (a*b)).length<=j+k:=by
 refine bq ?_;rw[SF];exact U5 (o4 c) (o4 d)
def sG{a b k:Nat}(c:(aD a).length<=k)(d:(aD b).length<=k):(aD (a+b)).length<=k+1:=by
 refine bq ?_;have e:=o4 c;have f:=o4 d;rw[RA];omega
def re(p q:Rat):p=eK (decide (p.num<0)) (p.num.natAbs*q.den) (p.den*q.den):=by
 conv=>lhs;rw[<-gB p]
 exact D4 _ p.den_pos (TJ p.den_pos q.den_pos) (by rw[Ry,Rk q.den])
def sH(p q:Rat):q=eK (decide (q.num<0)) (q.num.natAbs*p.den) (p.den*q.den):=by
 rw[Rk p.den];exact re q p
def vH{p q:Rat}(h:decide (p.num<0)=decide (q.num<0)):eK (decide (p.num<0)) (p.num.natAbs*q.den+q.num.natAbs*p.den) (p.den*q.den)=p+q:=by
 rw[<-qQ _ _ _ (TJ p.den_pos q.den_pos),<-re p q];congr 1;rw[h];exact(sH p q).symm
def Ef{p q:Rat}(h:decide (p.num<0)≠decide (q.num<0))(a:q.num.natAbs*p.den<=p.num.natAbs*q.den):eK (decide (p.num<0)) (p.num.natAbs*q.den-q.num.natAbs*p.den) (p.den*q.den)=p+q:=by
 rw[<-vh h (TJ p.den_pos q.den_pos) a,<-re p q,<-sH p q]
def Eg{p q:Rat}(h:decide (p.num<0)≠decide (q.num<0))(a:p.num.natAbs*q.den<q.num.natAbs*p.den):eK (decide (q.num<0)) (q.num.natAbs*p.den-p.num.natAbs*q.den) (p.den*q.den)=p+q:=by
 rw[<-vk h (TJ p.den_pos q.den_pos) a,<-re p q,<-sH p q]
def ON(ng:Bool)(N:Nat){D:Nat}(a:0<D):(eK ng N D).num.natAbs<=N/\(eK ng N D).den<=D:=by
 rcases RV N with h|h
 ·subst h;rw[kP];exact⟨Q3 _,a⟩
 obtain⟨_,b,c⟩:=oW ng h a;rw[b,c];exact⟨Ti _ _,Ti _ _⟩
def nu{ng:Bool}{N D L:Nat}(d:0<D)(e:(aD N).length<=L)(a:(aD D).length<=L):Fit L (eK ng N D):=by
 obtain⟨b,c⟩:=ON ng N d;exact⟨Q7 (bh b) e,Q7 (bh c) a⟩
def FZ{a b:Nat}{p q:Rat}(f:Fit a p)(g:Fit b q):Fit (a+b+1) (p+q):=by
 have d:=TJ p.den_pos q.den_pos;have e:(aD (p.den*q.den)).length<=a+b+1:=UV (ip f.den g.den);have i:(aD (p.num.natAbs*q.den)).length<=a+b:=ip f.num g.den;have j:(aD (q.num.natAbs*p.den)).length<=a+b:=by rw[SN];exact ip g.num f.den
 by_cases h:decide (p.num<0)=decide (q.num<0)
 ·rw[<-vH h];exact nu d (sG i j) e
 rcases RE (p.num.natAbs*q.den) (q.num.natAbs*p.den)with c|c
 ·rw[<-Eg h c];exact nu d (UV (Q7 (bh (Ui _ _)) j)) e
 rw[<-Ef h c];exact nu d (UV (Q7 (bh (Ui _ _)) i)) e
def Ap{a:Nat}{p:Rat}(b:Fit a p):Fit a (-p):=⟨by rw[Rat.neg_num,Int.natAbs_neg];exact b.num,by rw[Rat.neg_den];exact b.den⟩
def lI{a b:Nat}{p q:Rat}(c:Fit a p)(d:Fit b q):Fit (a+b+1) (p-q):=by
 rw[Rat.sub_eq_add_neg];exact FZ c (Ap d)
def Fit.mono{a b:Nat}{p:Rat}(h:Fit a p)(c:a<=b):Fit b p:=⟨Q7 h.num c,Q7 h.den c⟩
def vI{f:α->α}:∀{l:List α} {i:Nat} {x:α},x∈l.modify i f->x∈l\/∃y∈l,x=f y
 |[],_,x,h=>by simp at h
 |a::l,0,x,h=>by
  simp only[List.modify_zero_cons,Ri]at h;rcases h with rfl|h
  ·exact .inr ⟨a,F,Z⟩
  exact .inl (by simp[h])
 |a::l,i+1,x,h=>by
  simp only[Vn,Ri]at h;rcases h with rfl|h
  ·exact .inl F
  rcases vI h with b|⟨y,b,c⟩
  ·exact .inl (by simp[b])
  exact .inr ⟨y,by simp[b],c⟩
def lR{a:α}:∀{l:List α} {i:Nat} {x:α},x∈l.insertIdx i a->x∈l\/x=a
 |l,0,x,h=>by
  simp only[List.insertIdx_zero,Ri]at h;exact h.symm
 |[],i+1,x,h=>by simp at h
 |b::l,i+1,x,h=>by
  simp only[List.insertIdx_succ_cons,Ri]at h;rcases h with rfl|h
  ·exact .inl F
  rcases lR h with h|rfl
  ·exact .inl (by simp[h])
  exact .inr Z
def xC{a:α}(l:List α)(i:Nat):(l.insertIdx i a).length<=l.length+1:=by
 rw[Vo];split<;>omega
def Kb(i:Nat)(l:List (List Nat)):Prop:=l.length<=i/\∀b∈l,b.length<=i/\∀j∈b,j<i
def Hb{s:Sch}{e:List (List V)×List (List Nat)}{i:Nat}{t:Tp}(h:Kb i e.2):Kb (i+1) (jr s e i t).2:=by
 obtain⟨n,k⟩:=h;have g:∀b∈e.2,b.length<=i+1/\∀j∈b,j<i+1:=λb c=>⟨by have:=(k b c).1;omega,λj d=>by have:=(k b c).2 j d;omega⟩
 have l:([i]:List Nat).length<=i+1/\∀j∈[i],j<i+1:=⟨F,λj d=>by simp at d;omega⟩;unfold jr;split
 ·refine⟨by simp;omega,λb c=>?_⟩;rcases RI.1 c with c|c
  ·exact g b c
  rw[Rs.1 c];exact l
 split
 ·refine⟨by simp;omega,λb c=>?_⟩;rcases vI c with f|⟨y,f,m⟩
  ·exact g b f
  subst m;refine⟨by have:=(k y f).1;simp;omega,λj d=>?_⟩;rcases RI.1 d with d|d
  ·exact(g y f).2 j d
  rw[Rs.1 d];omega
 refine⟨by have:=xC (a:=[i]) e.2 (bU e.1 (aR s t.vals));show(e.2.insertIdx _ _).length<=_;omega,λb c=>?_⟩;rcases lR c with c|rfl
 ·exact g b c
 exact l
def nv{s:Sch}:∀(ts:List Tp) (a:List (List V)×List (List Nat)) (i:Nat),Kb i a.2->Kb (i+ts.length) (ei s a i ts).2
 |[],a,i,h=>h
 |t::ts,a,i,h=>by
  have:=nv (s:=s) ts _ (i+1) (Hb (s:=s) (t:=t) h);rw[Q5,show i+(ts.length+1)=i+1+ts.length by omega];exact this
def tq(r:Rel):Kb r.tups.length (bF r):=by
 unfold bF;split
 ·exact⟨Rg _,λb a=>by cases a⟩
 have:=nv (s:=r.sch) r.tups ([],[]) 0 ⟨Q3 _,λb a=>by cases a⟩;rwa[R4]at this
def vJ(r:Rel):(bF r).length<=r.tups.length:=(tq r).1
def yn(r:Rel):∀b∈bF r,b.length<=r.tups.length/\∀i∈b,i<r.tups.length:=(tq r).2
def yo{s:Sch}{key:List V}:∀(ts:List Tp) (i:Nat),(cE s key ts i).length<=ts.length/\∀j∈cE s key ts i,j<i+ts.length
 |[],i=>⟨Q3 _,λj h=>by cases h⟩
 |t::ts,i=>by
  have h:=yo (s:=s) (key:=key) ts (i+1);unfold cE;split
  ·refine⟨by simp;exact h.1,λj a=>?_⟩;simp only[Ri]at a;rcases a with rfl|a
   ·simp
   have:=h.2 j a;simp;omega
  exact⟨by have:=h.1;simp;omega,λj a=>by have:=h.2 j a;simp;omega⟩
def OO(r:Rel)(vs:List V):(kT r vs).length<=r.tups.length/\∀i∈kT r vs,i<r.tups.length:=by
 unfold kT;split
 ·exact⟨Rg _,λi h=>by cases h⟩
 have:=yo (s:=r.sch) (key:=aR r.sch vs) r.tups 0;rw[R4]at this;exact this
def iV{s:Sch}{t:Tp}(h:ch s t=0):t.vals.length=s.cols.length/\iw s.cert t.prob=true/\im s=true/\ff s.cols t.vals=false:=by
 unfold ch at h;split at h
 ·cases h
 next h1=>
 split at h
 ·cases h
 next h2=>
 split at h
 ·cases h
 next h3=>
 split at h
 ·next h4=>exact⟨SL.1 h2,h4,by simpa using h1,by simpa using h3⟩
 cases h
def g9{s:Sch}:∀{l:List Tp} {p:Option (List V)},ci s p l=0->∀t∈l,ch s t=0
 |[],_,_,t,a=>by cases a
 |x::l,p,h,t,a=>by
  have b:ch s x=0/\ci s (some x.vals) l=0:=by
   cases p with
   |none=>
    rw[ci]at h;split at h
    ·next h1=>exact absurd h h1
    next h1=>exact⟨SL.1 h1,h⟩
   |some q=>
    rw[ci]at h;split at h
    ·next h1=>exact absurd h h1
    next h1=>
    split at h
    ·cases h
    split at h
    ·cases h
    exact⟨SL.1 h1,h⟩
  rcases Ri.1 a with rfl|a
  ·exact b.1
  exact g9 b.2 t a
def BQ{r:Rel}(h:ci r.sch none r.tups=0):∀t∈r.tups,t.vals.length=r.sch.cols.length:=λt a=>(iV (g9 h t a)).1
def lS{cert:Bool}{q:Rat}(h:iw cert q=true):0<=q/\0<=1-q:=by
 unfold iw at h;simp only[Q9,Sk,Rp,decide_eq_false_iff_not]at h;have a:=h.1.1;rw[kW,kW,Rat.not_lt,Rat.not_lt]at a;exact a
def Kc{cert:Bool}{q:Rat}(h:iw cert q=true):Fit 2049 q:=by
 obtain⟨c,f⟩:=lS h;unfold iw at h;simp only[Q9,decide_eq_true_eq]at h;have a:=h.2;have b:(aD q.den).length<=2049:=by
  unfold cR at a;rw[if_neg q.den_nz]at a;omega
 refine⟨Q7 (bh ?_) b,b⟩;have g:=Rat.num_nonneg.2 c;have d:q<=1:=by grind
 have e:=(Rat.le_iff _ _).1 d;simp at e;omega
def yp{r:Rel}(h:ci r.sch none r.tups=0):∀(b:List Nat) (q:Rat) (k:Nat),(∀i∈b,i<r.tups.length)->Fit k q->Fit (k+2050*b.length) (b.foldl (λq i=>q+je r.tups i) q)
 |[],q,k,_,hq=>hq
 |i::b,q,k,hb,hq=>by
  have a:i<r.tups.length:=hb i F;have d:Fit 2049 (je r.tups i):=by
   unfold je;rw[Q2 a];exact Kc (iV (g9 h _ (R6 a))).2.1
  have:=yp h b (q+je r.tups i) (k+2049+1) (λj c=>hb j (by simp[c])) (FZ hq d);rw[Th,Q5];exact this.mono O
def o5{r:Rel}{b:List Nat}(h:ci r.sch none r.tups=0)(d:∀i∈b,i<r.tups.length)(e:b.length<=16):Fit 262144 (gR r.tups b)/\Fit 262144 (1-gR r.tups b):=by
 have c:Fit 32802 (gR r.tups b):=(yp h b 0 1 d ⟨I,I⟩).mono O;exact⟨c.mono I,(lI (a:=1) ⟨I,I⟩ c).mono I⟩
def NT{es:List Tree}(h:es=[]):(Tree.sl [])=.sl es:=by rw[h]
def nw:kI prog 24=some (58,3,32):=U
def yq(l:List Col)(e:l.length<=65536):Ct 27 [.sl (l.map Col.tree)] (.sl (l.map Col.tree)):=by
 refine Ct.of (n:=8) func27 Z Z Z Z Z λw0 G0=>?_
 refine C<|M 0 (t:=.sl []) Z (bz (.inr Z) bS)<|E<|H<|C<|ax 1 Z<|lG (λd=>∃c:Bool,(c=true->(l.map Col.tree)=[])/\d=bT c) Z Z Z (yh Z bk Z) ?_;rintro _ ⟨nb,b,rfl⟩;refine E<|aK Z (λa=>?_) (λa=>?_)
 ·refine C<|M 0 (t:=.sl []) Z (bz (.inr Z) bS)<|E<|aM ⟨Z,NT (b a),Z⟩ Z
 refine ar<|C<|ji (k:=0) (rs':=[some ⟨58,3,[].map Col.tree,true⟩]) Z Z Z Z nw Z Z<|ax 1 Z<|a7 (bs':=[]) (rs':=[some ⟨58,3,l.map Col.tree,false⟩]) Z Z Z Z nw Z Z Z Z (eP _) (AllC.map _ _ λ_=>rfl) (AllC.map _ _ λ_=>rfl) (by simp only[Rn,Ra];omega) Z Z Z Z<|Y 1 Z<|dp 0 (bs':=[]) (rs':=[none]) Z Z Z Z<|aM ⟨Z,Z,Z⟩ Z
def Hc(l:List V)(e:l.length<=65536):Ct 155 [.sl (l.map V.tree)] (.sl (l.map V.tree)):=by
 refine Ct.of (n:=8) func155 Z Z Z Z Z λw0 G0=>?_
 refine C<|M 0 (t:=.sl []) Z (bz (.inr Z) bS)<|E<|H<|C<|ax 1 Z<|lG (λd=>∃c:Bool,(c=true->(l.map V.tree)=[])/\d=bT c) Z Z Z (yh Z bI Z) ?_;rintro _ ⟨nb,b,rfl⟩;refine E<|aK Z (λa=>?_) (λa=>?_)
 ·refine C<|M 0 (t:=.sl []) Z (bz (.inr Z) bS)<|E<|aM ⟨Z,NT (b a),Z⟩ Z
 refine ar<|C<|ji (k:=0) (rs':=[some ⟨77,3,[].map V.tree,true⟩]) Z Z Z Z iM Z Z<|ax 1 Z<|a7 (bs':=[]) (rs':=[some ⟨77,3,l.map V.tree,false⟩]) Z Z Z Z iM Z Z Z Z (gN _) (AllC.map _ _ λ_=>rfl) (AllC.map _ _ λ_=>rfl) (by simp only[Rn,Ra];omega) Z Z Z Z<|Y 1 Z<|dp 0 (bs':=[]) (rs':=[none]) Z Z Z Z<|aM ⟨Z,Z,Z⟩ Z
