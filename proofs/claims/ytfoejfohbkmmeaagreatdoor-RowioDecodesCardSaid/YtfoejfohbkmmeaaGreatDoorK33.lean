import Derived.Test.YtfoejfohbkmmeaaGreatDoorK32
import Derived.Lib.SplitLaws
set_option maxRecDepth 100000
set_option maxHeartbeats 4000000
set_option linter.defProp false
open Go.Proofs.Tryz
namespace Go.Proofs.YtfoejfohbkmmeaaGreatDoor
open Go.RowKit
open Lib renaming hid→J
def uk{s:ByteArray}(h:Dl s.data.toList=true)(l k:Nat):Dl (s.extract l k).data.toList=true:=by rw[my];exact Kz (KA h _) _
def mA:List UInt8->Nat->Nat
 |[],i=>i
 |[_],i=>i+1
 |c::d::l,i=>if c.toNat≠39 then mA (d::l) (i+1)else if d.toNat≠39 then i+1 else mA l (i+2)
def AE:∀(n:Nat) (l:List UInt8) (i:Nat),l.length<=n->mA l i<=i+l.length
 |_,[],i,_=>by simp[mA]
 |_,[_],i,_=>by simp[mA]
 |0,_::_::_,i,h=>by simp at h
 |n+1,c::d::l,i,h=>by
  simp only[Q5]at h;rw[mA];split
  ·have:=AE n (d::l) (i+1) (by simp only[Q5];omega);simp only[Q5]at this⊢;omega
  split
  ·simp only[Q5];omega
  have:=AE n l (i+2) O;simp only[Q5];omega
def qb(s:ByteArray):Bool:=Lib.hasPrefix s.data.toList [39]
def lc(s:ByteArray):Nat:=if qb s then mA (s.data.toList.drop 1) 1 else if 0<=nU s.data.toList then(nU s.data.toList).toNat else s.size
def wx{s:ByteArray}(h:qb s=true):1<=s.size:=by
 unfold qb at h;rw[cg];cases e:s.data.toList with
 |nil=>rw[e]at h;simp[Lib.hasPrefix]at h
 |cons a l=>simp
def K8{l:List UInt8}(h:0<=nU l):(nU l).toNat<l.length:=by
 unfold nU at h⊢;split at h
 ·next h1=>
  rw[if_pos h1];obtain⟨c,b,d⟩:=TX.1 h1;rw[TG];have f:=(TK (λc:UInt8=> !(c==44||c==58)) (l:=l)).length_le;rcases RE (l.takeWhile λc:UInt8=> !(c==44||c==58)).length l.length with a|a
  ·exact a
  have e:=(TK (λc:UInt8=> !(c==44||c==58)) (l:=l)).eq_of_length O;rw[<-e]at b;have:=AC b;rw[d]at this;cases this
 exact absurd h I
def Nf(s:ByteArray):lc s<=s.size:=by
 unfold lc;split
 ·next h=>
  have a:=wx h;have:=AE _ (s.data.toList.drop 1) 1 (Q3 _);rw[Rm,<-cg]at this;omega
 split
 ·next h=>have:=K8 h;rw[<-cg]at this;omega
 exact Q3 _
structure LR where
 vs:List V
 b:Bool
 N:Nat
 D:Nat
 ok:Bool
def LR.tree(x:LR):Tree:=.tup [.agg [.sl (x.vs.map V.tree),.sc (.bool x.b),aY x.N,aY x.D],.sc (.bool x.ok)]
noncomputable def mB:Nat->ByteArray->List V->Option (List V×ByteArray)
 |0,_,_=>none
 |n+1,s,acc=>match k9 (s.extract 0 (lc s))with
  |none=>none
  |some v=>if Lib.hasPrefix (s.extract (lc s) s.size).data.toList [44]then mB n ((s.extract (lc s) s.size).extract 1 (s.extract (lc s) s.size).size) (acc++[v])else some (acc++[v],s.extract (lc s) s.size)
noncomputable def dP (s:ByteArray) (cert:Bool):LR:=
 match mB (s.size+1) s []with
 |none=>⟨[],false,0,0,false⟩
 |some (vs,r)=>
  if cert then⟨vs,decide ((1:Rat).num<0),(1:Rat).num.natAbs,(1:Rat).den,r.toList==(⟨#[]⟩:ByteArray).toList⟩
  else if(!Lib.hasPrefix r.data.toList [58])=true then⟨[],false,0,0,false⟩
  else if(iO (r.extract 1 r.size)).2=0 then⟨vs,decide ((iO (r.extract 1 r.size)).1.num<0),(iO (r.extract 1 r.size)).1.num.natAbs,(iO (r.extract 1 r.size)).1.den,true⟩
  else⟨vs,false,0,0,false⟩
def Ng{x:Rat×Int}(h:x.2=0):Cw x=.tup [dw x.1,iT 0]:=by unfold Cw;rw[if_pos h,h]
def K9{x:Rat×Int}(h:x.2≠0):Cw x=.tup [iC false 0 0,iT x.2]:=by unfold Cw;rw[if_neg h];rfl
def qc{r:ByteArray}{c:UInt8}(h:Lib.hasPrefix r.data.toList [c]=true):1<=r.size:=by
 rw[cg];cases e:r.data.toList with
 |nil=>rw[e]at h;simp[Lib.hasPrefix]at h
 |cons a l=>simp
def La:Ct 78 [iT 1,iT 1] (.tup [dw 1,iT 0]):=by
 have h:=MT 1 1 I I I I I;have e:eK ((decide ((1:Int)<0)) !=(decide ((1:Int)<0))) (1:Int).natAbs (1:Int).natAbs=1:=F9 1;rw[e]at h;exact h
def AF{s:ByteArray}{i:Nat}(h:i<s.size):mA (s.data.toList.drop i) i=if(gi s i).toNat≠39 then mA (s.data.toList.drop (i+1)) (i+1)else if i+1=s.size then i+1 else if(gi s (i+1)).toNat≠39 then i+1 else mA (s.data.toList.drop (i+2)) (i+2):=by
 have b:i<s.data.toList.length:=by rw[<-cg];exact h
 have e:s.data.toList[i]=gi s i:=by have:=fG h;rw[Q2 b]at this;exact Sw this
 by_cases c:i+1=s.size
 ·rw[Re b,e,Rc (i:=i+1) (by rw[<-cg];omega),mA,mA,if_pos c];split<;>rfl
 have d:i+1<s.size:=O
 have a:i+1<s.data.toList.length:=by rw[<-cg];exact d
 have f:s.data.toList[i+1]=gi s (i+1):=by have:=fG d;rw[Q2 a]at this;exact Sw this
 rw[Re b,e,Re a,f,mA,if_neg c]
def Lb{s:ByteArray}{i:Nat}(h:i=s.size):mA (s.data.toList.drop i) i=s.size:=by
 subst h;rw[Rc (by rw[<-cg];omega)];rfl
def EH:(prog.info? 61).map (·.size)=some 1:=U
def Nh(s:ByteArray)(v:s.size<=1048576)(u:Dl s.data.toList=true):Ct 75 [sT s] (nI (lc s)):=by
 refine Ct.of (n:=43) func75 Z Z Z Z Z λw0 G0=>?_
 refine X 1 Z<|H<|C<|M 1 Z (D Z (nF s ⟨#[39]⟩) Z Z)<|M 0 (t:=bT (!(qb s))) Z (dm Z Z Zy)<|E<|aK Z (λf=>?_) (λf=>?_)
 ·have m:qb s=false:=by simpa using f
  refine H<|C<|M 1 Z (D Z (B7 s v u) Z Z)<|Y 1 Z<|C<|M 1 (t:=bT (decide ((nU s.data.toList)≥0))) Z (aC Z Z Z Zy)<|E<|ay Z (λc=>?_) (λc=>?_)
  ·refine X 2 Z<|aM ⟨Z,ej (by unfold lc;rw[if_neg (by rw[m];exact R0),if_pos c,Int.toNat_of_nonneg c]),Z⟩ Z
  refine ar<|C<|M 1 (t:=nI s.size) Z (fK Z bu Z)<|Y 1 Z<|aM ⟨Z,pM (k:=.i64) (by unfold lc;rw[if_neg (by rw[m];exact R0),if_neg c]),Z⟩ Z
 have m:qb s=true:=by simpa using f
 have p:=wx m;refine ar<|H<|X 1 Z<|aB<|aT (λr q=>∃(i:Nat),(i<=s.size/\mA (s.data.toList.drop i) i=mA (s.data.toList.drop 1) 1)/\r=s.size-i/\q=⟨43,[(0,sT s),(4,nI i)],[],[]⟩) 0 0 ⟨1,⟨p,Z⟩,Z,Z⟩ .rf ?_;rintro r q ⟨i,⟨w,a⟩,rfl,rfl⟩;refine H<|C<|M 2 (t:=nI s.size) Z (fK Z bu Z)<|aI 0 Z Z Zy (B (gF i s.size))<|E<|ay Z (λo=>?_) (λo=>?_)
 ·have e:=o;refine ar<|H<|aB<|H<|C<|M 2 (t:=.sc (.int .u8 (((gi s i).toNat:Nat):Int))) Z (eO Z bu Z Z Z (fG e))<|aI 0 Z Z Zy (B (od ((gi s i).toNat) 39))<|E<|ay Z (λd=>?_) (λd=>?_)
  ·refine aX<|am<|a8 1 (i+1) Z Z Zy O0<|Y 1 Z<|⟨_,_,?_,⟨i+1,?_,Z,Z⟩,.rf⟩
   ·omega
   refine⟨O0,?_⟩;rw[<-a,AF e,if_pos d]
  refine ar<|H<|C<|a8 1 (i+1) Z Z Zy O0<|M 1 (t:=nI s.size) Z (fK Z bu Z)<|aI 0 Z Z Zy (B (gL (i+1) s.size))<|ax 1 Z<|N Z Z Z Z (λb=>K Z Z)<|N Z Z Z Z (λb=>K Z Z)<|N (t:=nI (i+1)) Z Z Z Z (λb=>aj (aC Z (if_pos b) Z (λ_=>rfl)) (kK O0))<|N (t:=.sc (.int .u8 (((gi s (i+1)).toNat:Nat):Int))) Z Z Z Z (λb=>eO Z bu (if_pos b) (if_pos b) Z (fG (by have:=of_decide_eq_false b;omega)))<|N Z Z Z Z (λb=>aj (aC Z (if_pos b) Z (λ_=>rfl)) (B (od ((gi s (i+1)).toNat) 39)))<|M 0 Z (dD Z Z Z Z)<|E<|aK Z (λg=>?_) (λg=>?_)
  ·refine C<|a8 1 (i+1) Z Z Zy O0<|Y 1 Z<|aM ⟨Z,pM (k:=.i64) (by unfold lc;rw[if_pos m,<-a,AF e,if_neg d];rcases TI.1 g with h|h;rw[if_pos (of_decide_eq_true h)];rw[if_pos (of_decide_eq_true h)];split<;>rfl),Z⟩ Z
  obtain⟨j,l⟩:=Rp.1 g;replace j:=of_decide_eq_false j;replace l:=of_decide_eq_false l;refine ar<|am<|a8 1 (i+1) Z Z Zy O0<|Y 1 Z<|am<|a8 1 ((i+1)+1) Z Z Zy O0<|Y 1 Z<|⟨_,_,?_,⟨(i+1)+1,?_,Z,Z⟩,.rf⟩
  ·omega
  refine⟨O0,?_⟩;rw[<-a,AF e,if_neg d,if_neg j,if_neg l]
 refine aX<|C<|M 1 (t:=nI s.size) Z (fK Z bu Z)<|Y 1 Z<|aM ⟨Z,pM (k:=.i64) (by unfold lc;rw[if_pos m,<-a,Lb O0]),Z⟩ Z
def Ni(s:ByteArray)(cert:Bool)(O:s.size<=1048576)(J:Dl s.data.toList=true):Ct 29 [sT s,bT cert] ((dP s cert).tree):=by
 refine Ct.of (n:=62) func29 Z Z Z Z Z λw0 G0=>?_
 refine X 2 Z<|C<|qW (cs:=[.sc (.slice none 0 0),bT false,.sc (.slice none 0 0),.sc (.slice none 0 0)]) (b:=1) (bs':=[(67,[.sl [],bT false,.sl [],.sl []]),(67,[.sc (.slice none 0 0),bT false,.sc (.slice none 0 0),.sc (.slice none 0 0)])]) Z Z Z Z go Z Z Z Z<|E<|H<|aB<|iU 1 0 77 3 (bs':=[(67,[.sl [],bT false,.sl [],.sl []]),(67,[.own 0,bT false,.sc (.slice none 0 0),.sc (.slice none 0 0)])]) (rs':=[some ⟨77,3,[],false⟩]) Z Z Z Z<|aT (λI A=>∃(u:ByteArray) (d:List V) (n:Nat),(Dl u.data.toList=true/\u.size<n/\d.length+u.size<=s.size/\mB n u d=mB (s.size+1) s [])/\I=u.size+1/\A=⟨62,[(0,sT u),(1,bT cert),(4,.box 0 0),(6,.box 1 0)],[(67,[.sl [],bT false,.sl [],.sl []]),(67,[.own 0,bT false,.sc (.slice none 0 0),.sc (.slice none 0 0)])],[some ⟨77,3,d.map V.tree,false⟩]⟩) 2 1 ⟨s,[],s.size+1,⟨J,O0,F0,Z⟩,Z,Z⟩ .rf ?_;rintro I A ⟨u,d,n,⟨o,L,F,a⟩,rfl,rfl⟩;obtain⟨m,rfl⟩:∃m,n=m+1:=⟨n-1,O0⟩;have N:=Nf u;refine aB<|C<|M 1 Z (D Z (Nh u O0 o) Z Z)<|Y 1 Z<|H ?_;rcases i:k9 (u.extract 0 (lc u))with _|v
 ·rw[mB,i]at a;dsimp only at a;refine am<|M 2 (t:=sT (u.extract 0 (lc u))) Z (ga (l:=0) (h:=(lc u)) Z bu Z Z ⟨_,Z⟩ O0 O0)<|M 0 Z (D Z (CD _ (by simp only[RS];omega) i) Z Z)<|Y 6 Z<|H<|C<|aI 1 Z Z Zy (B (od 2 0))<|E<|ay Z (λp=>?_) (λp=>?_)
  ·refine X 3 Z<|aQ<|⟨.inr Z,_,.cons (co Z Z fA Z) (.cons Z .nil),by unfold dP;rw[<-a];rfl,Z⟩
  exact absurd I1 p
 rw[mB,i]at a;dsimp only at a;refine am<|M 2 (t:=sT (u.extract 0 (lc u))) Z (ga (l:=0) (h:=(lc u)) Z bu Z Z ⟨_,Z⟩ O0 O0)<|M 0 Z (D Z (CC _ v (by simp only[RS];omega) i) Z Z)<|Y 6 Z<|H<|C<|aI 1 Z Z Zy (B (od 0 0))<|E<|ay Z (λq=>?_) (λq=>?_)
 ·exact absurd Z q
 refine ar<|C<|M 3 (t:=.sl [.agg [iT v.t,iT v.n,sT v.s]]) Z (aS Z bI gp Z I1 I1 Z Z Z Z Z)<|a7 (bs':=[(67,[.sl [],bT false,.sl [],.sl []]),(67,[.any,bT false,.sc (.slice none 0 0),.sc (.slice none 0 0)]),(77,[iT v.t,iT v.n,sT v.s])]) (rs':=[some ⟨77,3,(d++[v]).map V.tree,false⟩]) Z Z Z Z iM Z Z Z Z (by intro e G;simp only[Ri,RM,or_false]at G;subst G;rfl) (AllC.lit Z) (AllC.lit Z) (by simp only[Rn,Q5,Ra];omega) Z Z Z (by rw[Sn];rfl)<|Y 2 Z<|H ?_;obtain⟨r,x⟩:∃r,u.extract (lc u) u.size=r:=⟨_,Z⟩;have K:r.size=u.size-lc u:=by rw[<-x];simp only[RS];omega
 rw[x]at a;have y:Dl r.data.toList=true:=by rw[<-x];exact uk o _ _
 refine am<|M 2 (t:=sT r) Z (aj (ga (l:=(lc u)) (h:=u.size) Z bu Z ⟨_,Z⟩ Z O0 O0) (rI x))<|Y 1 Z<|H<|C<|M 1 Z (D Z (nF r ⟨#[44]⟩) Z Z)<|M 0 (t:=bT (!(Lib.hasPrefix r.data.toList [44]))) Z (dm Z Z Zy)<|E<|aK Z (λk=>?_) (λk=>?_)
 ·have j:Lib.hasPrefix r.data.toList [44]=false:=by simpa using k
  rw[if_neg (by rw[j];exact R0)]at a;refine aX<|H<|H<|dp 0 (bs':=[(67,[.sl [],bT false,.sl [],.sl []]),(67,[.sl ((d++[v]).map V.tree),bT false,.sc (.slice none 0 0),.sc (.slice none 0 0)]),(77,[iT v.t,iT v.n,sT v.s])]) (rs':=[none]) Z Z Z Z<|eh 1 Z<|aK Z (λf=>?_) (λf=>?_)
  ·refine C<|M 0 Z (D Z La Z Z)<|Y 5 Z<|C<|aI 2 (t:=bT (r.toList==(⟨#[]⟩:ByteArray).toList)) Z Z Zy (B Z)<|Y 2 Z<|aQ<|⟨.inr Z,_,.cons (co Z Z fA Z) (.cons Z .nil),by unfold dP;rw[<-a];dsimp only;rw[if_pos f];rfl,Z⟩
  refine ar<|H<|C<|M 1 Z (D Z (nF r ⟨#[58]⟩) Z Z)<|M 0 (t:=bT (!(Lib.hasPrefix r.data.toList [58]))) Z (dm Z Z Zy)<|E<|aK Z (λg=>?_) (λg=>?_)
  ·refine X 3 Z<|aQ<|⟨.inr Z,_,.cons (co Z Z fA Z) (.cons Z .nil),by unfold dP;rw[<-a];dsimp only;rw[if_neg (by rw[f];exact R0),if_pos g];rfl,Z⟩
  have z:1<=r.size:=qc (c:=58) (by simpa using g);refine ar<|H ?_;by_cases w:(iO (r.extract 1 r.size)).2=0
  ·refine am<|M 1 (t:=sT (r.extract 1 r.size)) Z (ga (l:=1) (h:=r.size) Z bu Z ⟨_,Z⟩ Z O0 O0)<|M 0 (t:=.tup [.agg (bj ((iO (r.extract 1 r.size)).1)),iT 0]) Z (D Z (by have h:=CA (r.extract 1 r.size) (by simp only[RS];omega);rw[Ng w]at h;exact h) Z Z)<|Y 6 Z<|X 3 Z<|C<|aI 2 Z Z Zy (B (gL 0 0))<|Y 2 Z<|aQ<|⟨.inr Z,_,.cons (co Z Z fA Z) (.cons Z .nil),by unfold dP;rw[<-a];dsimp only;rw[if_neg (by rw[f];exact R0),if_neg (by rw[g];exact R0),if_pos w];rfl,Z⟩
  refine am<|M 1 (t:=sT (r.extract 1 r.size)) Z (ga (l:=1) (h:=r.size) Z bu Z ⟨_,Z⟩ Z O0 O0)<|M 0 (t:=.tup [.agg [bT false,aY 0,aY 0],iT ((iO (r.extract 1 r.size)).2)]) Z (D Z (by have h:=CA (r.extract 1 r.size) (by simp only[RS];omega);rw[K9 w]at h;exact h) Z Z)<|Y 6 Z<|X 3 Z<|C<|M 2 (t:=bT (((iO (r.extract 1 r.size)).2)==0)) Z (aC Z Z Z Zy)<|Y 2 Z<|aQ<|⟨.inr Z,_,.cons (co Z Z fA Z) (.cons Z .nil),by unfold dP;rw[<-a];dsimp only;rw[if_neg (by rw[f];exact R0),if_neg (by rw[g];exact R0),if_neg w,beq_eq_false_iff_ne.2 w];rfl,Z⟩
 have j:Lib.hasPrefix r.data.toList [44]=true:=by simpa using k
 have z:=qc j;rw[if_pos j]at a;refine ar<|am<|M 1 (t:=sT (r.extract 1 r.size)) Z (ga (l:=1) (h:=r.size) Z bu Z ⟨_,Z⟩ Z O0 O0)<|Y 1 Z<|⟨_,_,?_,⟨r.extract 1 r.size,d++[v],m,?_,Z,Z⟩,.rf⟩
 ·simp only[RS];omega
 refine⟨uk y _ _,by simp only[RS];omega,by simp only[RS,Q4,Q5,Ra];omega,a⟩
def Rel.zero:Rel:=⟨⟨⟨#[]⟩,false,[]⟩,[]⟩
def lX(x:LR):Tp:=⟨x.vs,eK x.b x.N x.D⟩
noncomputable def fg (cert:Bool):List ByteArray->Nat->Rel->Rel×Nat×Int
 |[],_,r=>(r,0,0)
 |l::ls,i,r=>if(l.toList==(⟨#[]⟩:ByteArray).toList)=true then fg cert ls (i+1) r
  else if(dP l cert).ok=false then(Rel.zero,i,2)
  else if d5 r (lX (dP l cert))=0 then fg cert ls (i+1) (g8 r (lX (dP l cert)))
  else(Rel.zero,i,d5 r (lX (dP l cert)))
noncomputable def jn (s:Sch) (b:List UInt8):Rel×Nat×Int:=if im s=false then(Rel.zero,0,1)else if 16384<b.length then(Rel.zero,0,4)else fg s.cert (fa ⟨b.toArray⟩) 0 ⟨s,[]⟩
def P3(x:Rel×Nat×Int):Tree:=.tup [x.1.tree,.sc (.int .i64 (x.2.1:Nat)),.sc (.int .i64 x.2.2)]
def CE{R:Rel}{i:Nat}{e:Int}{x:Rel×Nat×Int}(h:x=(R,i,e)):(Tree.tup [R.tree,iT (i:Nat),iT e])=P3 x:=by rw[h];rfl
def AG{cert:Bool}{L:List ByteArray}{i:Nat}{l:ByteArray}{r:Rel}(h:L[i]? =some l):fg cert (L.drop i) i r=if(l.toList==(⟨#[]⟩:ByteArray).toList)=true then fg cert (L.drop (i+1)) (i+1) r
  else if(dP l cert).ok=false then(Rel.zero,i,2)
  else if d5 r (lX (dP l cert))=0 then fg cert (L.drop (i+1)) (i+1) (g8 r (lX (dP l cert)))
  else(Rel.zero,i,d5 r (lX (dP l cert))):=by
 obtain⟨a,rfl⟩:=Q6.1 h;rw[Re a,fg]
def rK(sep:ByteArray)(a:Nat):∀(k:Nat) (s x:ByteArray),x∈Lib.splitB sep a k s->x.size<=s.size
 |0,s,x,h=>by
  rw[Lib.splitB,Rs]at h;rw[h];exact Q3 _
 |k+1,s,x,h=>by
  unfold Lib.splitB at h;split at h
  ·rw[Rs]at h;rw[h];exact Q3 _
  rcases Ri.1 h with rfl|h
  ·simp only[RS];omega
  have:=rK sep a k _ x h;simp only[RS]at this;omega
def wy(sep:ByteArray)(a:Nat):∀(k:Nat) (s x:ByteArray),Dl s.data.toList=true->x∈Lib.splitB sep a k s->Dl x.data.toList=true
 |0,s,x,ha,h=>by
  rw[Lib.splitB,Rs]at h;rw[h];exact ha
 |k+1,s,x,ha,h=>by
  unfold Lib.splitB at h;split at h
  ·rw[Rs]at h;rw[h];exact ha
  rcases Ri.1 h with rfl|h
  ·exact uk ha _ _
  exact wy sep a k _ x (uk ha _ _) h
def EI(s:ByteArray):(fa s).length=Lib.countB s ⟨#[10]⟩+1/\Lib.countB s ⟨#[10]⟩<=s.size:=⟨Lib.splitB_all ⟨#[10]⟩ I 0 _ s Z,Lib.countB_le ⟨#[10]⟩ I _ s (Q3 _)⟩
def yJ:∀(n:Nat) (s:ByteArray) (a vs:List V) (r:ByteArray),mB n s a=some (vs,r)->vs.length<=a.length+s.size+1/\r.size<=s.size
 |0,_,_,_,_,h=>by rw[mB]at h;cases h
 |n+1,s,a,vs,r,h=>by
  rw[mB]at h;cases b:k9 (s.extract 0 (lc s))with
  |none=>rw[b]at h;cases h
  |some v=>
   rw[b]at h;dsimp only at h;split at h
   ·next hx=>
    have c:=qc hx;have:=yJ n _ _ _ _ h;simp only[RS,Q4,Ss]at this c;omega
   injection h with h
   injection h with d e
   rw[<-d,<-e];simp only[RS,Q4,Ss];omega
def EJ(s:ByteArray):Fit 4001 (iO s).1:=by
 have e:Fit 4001 (0:Rat):=⟨I,I⟩;unfold iO;split
 ·exact e
 next h4=>
 have l:(fU s).size<=4000:=by unfold fU;split<;>first|omega|(simp only[RS];omega)
 unfold nJ;have f:=KB (fU s).data.toList;rw[<-cg]at f;have b:((fU s).extract 0 (Au (fU s).data.toList)).data.toList.all eU=true:=by rw[my,Su];exact Cv _
 generalize g:Au (fU s).data.toList=n at f b⊢;generalize i:(fU s).extract (n+1) (fU s).size=r;have j:r.size<=(fU s).size-(n+1):=by rw[<-i];simp only[RS];omega
 have k:((fU s).extract 0 n).size<=n:=by simp only[RS];omega
 split
 ·exact e
 next hz=>
 split
 ·next hfl=>exact nu (D:=1) I (iX (uj (by rw[<-cg,g];exact hfl)) (by rw[<-cg];omega)) I
 next hfl=>
 split
 ·exact e
 next a=>
 have a:oB (gi (fU s) n) r=false:=by simpa using a
 have d:r.data.toList.all eU=true:=uj (by have h:=a;unfold oB at h;rw[Rp]at h;rw[<-cg];simpa using h.2);have c:((fU s).extract 0 n++r).data.toList.all eU=true:=by rw[UD,SE,S9,b,d];rfl
 split
 ·exact nu (D:=10^r.size) (Sh I) (iX c (by rw[<-cg,S1];omega)) (ww O)
 split
 ·exact e
 next hz=>exact nu (D:=fT r.data.toList) O (iX b (by rw[<-cg];omega)) (iX d (by rw[<-cg];omega))
def Lc{l:ByteArray}{cert:Bool}(h:(dP l cert).ok=true):(dP l cert).b=decide ((lX (dP l cert)).prob.num<0)/\(dP l cert).N=(lX (dP l cert)).prob.num.natAbs/\(dP l cert).D=(lX (dP l cert)).prob.den/\Fit 4001 (lX (dP l cert)).prob:=by
 unfold lX;unfold dP at h⊢;have key:∀q:Rat,Fit 4001 q->decide (q.num<0)=decide ((eK (decide (q.num<0)) q.num.natAbs q.den).num<0)/\q.num.natAbs=(eK (decide (q.num<0)) q.num.natAbs q.den).num.natAbs/\q.den=(eK (decide (q.num<0)) q.num.natAbs q.den).den/\Fit 4001 (eK (decide (q.num<0)) q.num.natAbs q.den):=λq a=>by
  rw[gB];exact⟨Z,Z,Z,a⟩
 split at h
 ·cases h
 split at h
 ·next h1=>simp only[if_pos h1];exact key 1 ⟨I,I⟩
 next h1=>
 split at h
 ·cases h
 next h2=>
 split at h
 ·next h3=>simp only[if_neg h1,if_neg h2,if_pos h3];exact key _ (EJ _)
 cases h
def Ld{l:ByteArray}{cert:Bool}:(dP l cert).vs.length<=l.size+1:=by
 unfold dP;split
 ·simp
 next vs r h=>
 have a:=(yJ _ _ _ _ _ h).1;simp only[Ra]at a;split
 ·dsimp only;omega
 split
 ·simp
 split<;>(dsimp only;omega)
def Nj{q:Rat}{vs:List V}(h:Fit 4001 q):FitT ⟨vs,q⟩:=⟨h.mono I,(lI (a:=1) ⟨I,I⟩ h).mono I⟩
def Ic{w0:World}{G0:Bse}{c:Code}{Q:Exit->St->Prop}{n:Nat}{sl:List (Nat×Tree)}{bs bs':List (TypeId×List Tree)}{rs:List (Option Row)}(h:bs=bs')(k:AWP w0 G0 c Q ⟨n,sl,bs',rs⟩):AWP w0 G0 c Q ⟨n,sl,bs,rs⟩:=h▸k
def EK{r:Rel}{t:Tp}(h:d5 r t=0):r.tups.length<=64:=by
 refine qa (r:=r) ?_;unfold d5 at h;split at h
 ·exact h
 next h1=>exact SL.1 h1
def nL:gQ prog 59=some (9,1):=U
def yK(s:Sch)(b:List UInt8)(T:Dl b=true):Ct 10 [s.tree,.sl (ak b)] (P3 (jn s b)):=by
 refine Ct.of (n:=65) func10 Z Z Z Z Z λw0 G0=>?_
 refine X 4 Z<|H<|C<|M 1 Z (D Z (kX s) Z Z)<|M 0 (t:=bT (!(im s))) Z (dm Z Z Zy)<|E<|aK Z (λk=>?_) (λk=>?_)
 ·refine X 4 Z<|aQ<|⟨.inr Z,_,.cons (co Z Z bf Z) (.cons Z (.cons Z .nil)),CE (R:=Rel.zero) (i:=0) (e:=1) (x:=jn s b) (by unfold jn;rw[if_pos (by simpa using k)]),Z⟩
 have d:im s=true:=by simpa using k
 have V:=mu d;refine ar<|H<|C<|M 1 Z (aU Z aJ Z)<|aI 0 Z Z Zy (B (nZ b.length 16384))<|E<|ay Z (λm=>?_) (λm=>?_)
 ·refine X 4 Z<|aQ<|⟨.inr Z,_,.cons (co Z Z bf Z) (.cons Z (.cons Z .nil)),CE (R:=Rel.zero) (i:=0) (e:=4) (x:=jn s b) (by unfold jn;rw[if_neg (by rw[d];simp),if_pos m]),Z⟩
 refine ar<|X 4 Z<|C<|M 2 Z (D Z (yq _ O0) Z Z)<|Y 3 Z<|H<|H ?_;obtain⟨c,g⟩:∃c:ByteArray,(⟨b.toArray⟩:ByteArray)=c:=⟨_,Z⟩;have U:c.size=b.length:=by rw[<-g];simp[ByteArray.size]
 have I:=EI c;have u:jn s b=fg s.cert (fa c) 0 ⟨s,[]⟩:=by unfold jn;rw[if_neg (by rw[d];simp),if_neg m,g]
 refine am<|M 1 (t:=sT c) Z (aj (eH Z Z) (rI g))<|M 0 Z (D Z (K7 c O0 I.1 O0) Z Z)<|M 0 Z (aU Z nL Z)<|Y 1 Z<|aB<|aT (λS K=>∃(i:Nat) (r:Rel),(i<=(fa c).length/\FitR r/\fg s.cert ((fa c).drop i) i r=fg s.cert (fa c) 0 ⟨s,[]⟩)/\S=(fa c).length-i/\K=⟨65,[(2,.box 0 0),(4,.box 1 0),(7,.box 2 0),(31,.sl ((fa c).map kp)),(32,nI ((fa c).length)),(33,nI i)],[(26,(gC s)),(30,c7),(30,(bQ r))],[]⟩) 3 0 ⟨0,⟨s,[]⟩,⟨O0,⟨by show s.cols.length<=_;omega,F0,λt J=>by cases J⟩,Z⟩,Z,Z⟩ .rf ?_;rintro S K ⟨i,r,⟨hi,F,a⟩,rfl,rfl⟩;refine C<|aI 0 Z Z Zy (B (gF i ((fa c).length)))<|E<|H<|ay Z (λw=>?_) (λw=>?_)
 ·obtain⟨l,h⟩:∃l,(fa c)[i]? =some l:=⟨_,Q2 w⟩;have W:l.size<=c.size:=rK _ _ _ _ _ (Q8 h);have G:Dl l.data.toList=true:=wy _ _ _ _ _ (by rw[<-g];exact T) (Q8 h);rw[AG h]at a;refine ar<|H<|aB<|C<|M 1 (t:=.ref [sT l]) Z (aO (kp l) Z nL Z Z Z (bd (f:=kp) h) (yI _) Z)<|Y 3 Z<|H<|C<|aI 1 (t:=bT (l.toList==(⟨#[]⟩:ByteArray).toList)) Z Z Zy (B Z)<|E<|aK Z (λo=>?_) (λo=>?_)
  ·rw[if_pos o]at a;refine aX<|am<|a8 0 (i+1) Z Z Zy O0<|Y 1 Z<|⟨_,_,?_,⟨i+1,r,?_,Z,Z⟩,.rf⟩
   ·omega
   exact⟨O0,F,a⟩
  rw[if_neg (by rw[o];exact R0)]at a;refine ar<|C<|M 3 Z (D Z (Ni l s.cert O0 G) Z Z)<|Y 6 Z<|H<|C<|M 1 (t:=bT (!((dP l s.cert).ok))) Z (dm Z Z Zy)<|E<|aK Z (λp=>?_) (λp=>?_)
  ·refine X 5 Z<|aQ<|⟨.inr Z,_,.cons (co Z Z bf Z) (.cons Z (.cons Z .nil)),CE (R:=Rel.zero) (i:=i) (e:=2) (x:=jn s b) (by rw[u,<-a,if_pos (by simpa using p)]),Z⟩
  have A:(dP l s.cert).ok=true:=by simpa using p
  rw[if_neg (by rw[A];simp)]at a;obtain⟨N,O,P,Q⟩:=Lc A;have j:(lX (dP l s.cert)).vals.length<=65536:=by have:=Ld (l:=l) (cert:=s.cert);show(dP l s.cert).vs.length<=_;omega
  have L:(dP l s.cert).vs=(lX (dP l s.cert)).vals:=rfl;obtain⟨t,J⟩:∃t,lX (dP l s.cert)=t:=⟨_,Z⟩;rw[J]at L N O P Q j a;have q:FitT t:=Nj (vs:=t.vals) Q;refine Ic (bs':=[(26,(gC s)),(30,c7),(30,(bQ r)),(67,(eA t))]) (by rw[L,N,O,P]<;>rfl)<|ar<|H ?_;by_cases v:d5 r t=0
  ·rw[if_pos v]at a;refine am<|M 2 Z (D Z (Hi r t F q j v) Z Z)<|Y 6 Z<|H<|C<|aI 1 Z Z Zy (B (od 0 0))<|E<|ay Z (λy=>?_) (λy=>?_)
   ·exact absurd Z y
   refine ar<|eh 2 Z<|am<|a8 0 (i+1) Z Z Zy O0<|Y 1 Z<|⟨_,_,?_,⟨i+1,(g8 r t),?_,Z,Z⟩,.rf⟩
   ·omega
   exact⟨O0,(Cp F q j (EK v)).1,a⟩
  rw[if_neg v]at a;refine am<|M 2 Z (D Z (Eo r t F q j v) Z Z)<|Y 6 Z<|H<|C<|M 1 (t:=bT ((d5 r t) !=0)) Z (aC Z Z Z Zy)<|E<|aK Z (λz=>?_) (λz=>?_)
  ·refine X 6 Z<|aQ<|⟨.inr Z,_,.cons (co Z Z bf Z) (.cons Z (.cons Z .nil)),CE (R:=Rel.zero) (i:=i) (e:=d5 r t) (x:=jn s b) (by rw[u,<-a]),Z⟩
  exact absurd (by simpa using z) v
 refine aX<|X 4 Z<|aQ<|⟨.inr Z,_,.cons (co Z Z bf Z) (.cons Z (.cons Z .nil)),CE (R:=r) (i:=0) (e:=0) (x:=jn s b) (by rw[u,<-a,Rc O0];rfl),Z⟩
def dF:Nat->List V->List UInt8
 |_,[]=>[]
 |i,v::vs=>(if 0<i then [44]else [])++(v.fmt++dF (i+1) vs)
def wz(cert:Bool)(t:Tp):List UInt8:=dF 0 t.vals++((if cert then []else 58::(nK t.prob).data.toList)++[10])
def NW(r:Rel):List UInt8:=r.tups.flatMap (wz r.sch.cert)
def rL(r:Rel):List UInt8:=if bK r=0 then NW r else []
def CF{vs:List V}{j:Nat}{v:V}(h:vs[j]? =some v):dF j (vs.drop j)=(if 0<j then [44]else [])++(v.fmt++dF (j+1) (vs.drop (j+1))):=by
 obtain⟨a,rfl⟩:=Q6.1 h;rw[Re a,dF]
def EL{cert:Bool}{ts:List Tp}{i:Nat}{t:Tp}(h:ts[i]? =some t):(ts.drop i).flatMap (wz cert)=wz cert t++(ts.drop (i+1)).flatMap (wz cert):=by
 obtain⟨a,rfl⟩:=Q6.1 h;rw[Re a,SI]
def bg(a b:List UInt8):ak (a++b)=ak a++ak b:=by simp[ak]
def Lf{a b:List UInt8}(h:a=b):(Tree.sl (ak a))=.sl (ak b):=by rw[h]
def Lg(v:V)(h:v.rng):v.fmt.length<=130:=by
 unfold V.fmt;cases a:bY v.t v.n v.s with
 |true=>exact(Nd a h.1 h.2).2
 |false=>unfold gh;rw[a];simp
structure TxT (t:Tp):Prop where
 rng:∀v∈t.vals,v.rng
 num:(rJ t.prob.num.natAbs).size<=8192
 den:(rJ t.prob.den).size<=8192
def oC{t:Tp}(h:TxT t):(nK t.prob).size<=16400:=by
 have a:=h.num;have b:=h.den;have c:(Cx t.prob).size<=8193:=by
  unfold Cx;split
  ·rw[S1];show 1+_<=_;omega
  omega
 unfold nK;split
 ·omega
 rw[S1,S1];show _+(1+_)<=_;omega
def oD{r:Rel}(h:bK r=0):∀t∈r.tups,t.vals.length<=6:=λt b=>by
 have a:=iV (g9 (oA h) t b);have:=mu a.2.2.1;omega
def rM:(prog.info? 5).bind (·.zero)=some (.int .u8 0):=U
def EM(r:Rel)(O:FitR r)(K:∀t∈r.tups,TxT t):Ct 16 [r.tree] (.sl (ak (rL r))):=by
 refine Ct.of (n:=53) func16 Z Z Z Z Z λw0 G0=>?_
 refine C<|M 1 (t:=.sl []) Z (bz (.inr Z) bS)<|E<|H<|C<|M 1 Z (D Z (lJ r O) Z Z)<|M 0 (t:=bT ((bK r) !=0)) Z (aC Z Z Z Zy)<|E<|aK Z (λo=>?_) (λo=>?_)
 ·have c:¬bK r=0:=by simpa using o
  refine C<|M 0 (t:=.sl []) Z (bz (.inr Z) bS)<|E<|aM ⟨Z,Lf (a:=[]) (by unfold rL;rw[if_neg c]),Z⟩ Z
 have c:bK r=0:=by simpa using o
 have P:=qa c;refine ar<|C<|gc (k:=0) (e:=5) (sz:=1) (rs':=[some ⟨5,1,ak [],false⟩]) (.inr Z) Z Z Z Z Z<|E<|H<|C<|M 2 Z (aU Z aV Z)<|Y 1 Z<|aB<|aT (λJ F=>∃(i:Nat) (g:List UInt8),(i<=r.tups.length/\g.length<=i*20000/\g++(r.tups.drop i).flatMap (wz r.sch.cert)=NW r)/\J=r.tups.length-i/\F=⟨53,[(1,.box 0 0),(3,.own 0),(12,.sl (r.tups.map Tp.tree)),(13,nI r.tups.length),(14,nI i)],[(30,(bQ r))],[some ⟨5,1,ak g,false⟩]⟩) 1 1 ⟨0,[],⟨O0,F0,Z⟩,Z,Z⟩ .rf ?_;rintro J F ⟨i,g,⟨S,N,h⟩,rfl,rfl⟩;refine C<|aI 0 Z Z Zy (B (gF i r.tups.length))<|E<|H<|ay Z (λG=>?_) (λG=>?_)
 ·obtain⟨t,x⟩:∃t,r.tups[i]? =some t:=⟨_,Q2 G⟩;have y:=Q8 x;have m:=K t y;have R:=oD c t y;rw[EL x]at h;refine ar<|H<|aB<|C<|M 0 (t:=.ref (eA t)) Z (aO (Tp.tree t) Z aV Z Z Z (bd (f:=Tp.tree) x) (c6 _) Z)<|Y 3 Z<|H<|C<|M 2 Z (aU Z bI Z)<|Y 1 Z<|aB<|aT (λJ F=>∃(j:Nat) (d:List UInt8),(j<=t.vals.length/\d.length<=g.length+j*131/\d++dF j (t.vals.drop j)=g++dF 0 t.vals)/\J=t.vals.length-j/\F=⟨53,[(1,.box 0 0),(3,.own 0),(5,.box 1 0),(12,.sl (r.tups.map Tp.tree)),(13,nI r.tups.length),(14,nI i),(19,.sl (t.vals.map V.tree)),(20,nI t.vals.length),(21,nI j)],[(30,(bQ r)),(67,(eA t))],[some ⟨5,1,ak d,false⟩]⟩) 2 1 ⟨0,g,⟨O0,F0,Z⟩,Z,Z⟩ .rf ?_;rintro J F ⟨j,d,⟨T,Q,b⟩,rfl,rfl⟩;refine C<|aI 0 Z Z Zy (B (gF j t.vals.length))<|E<|H<|ay Z (λI=>?_) (λI=>?_)
  ·obtain⟨v,z⟩:∃v,t.vals[j]? =some v:=⟨_,Q2 I⟩;have A:=m.rng v (Q8 z);have L:=Lg v A;rw[CF z]at b;refine ar<|H<|aB<|C<|M 1 (t:=.ref [iT v.t,iT v.n,sT v.s]) Z (aO (V.tree v) Z bI Z Z Z (bd (f:=V.tree) z) (gN _) Z)<|Y 4 Z<|H<|C<|aI 1 Z Z Zy (B (nZ j 0))<|E<|ay Z (λq=>?_) (λq=>?_)
   ·rw[if_pos q]at b;refine am<|M 1 (t:=.sl [.sc (.int .u8 44)]) Z (aS Z aJ dd Z I1 I1 Z Z Z Z Z)<|a7 (bs':=[(30,(bQ r)),(67,(eA t)),(77,[iT v.t,iT v.n,sT v.s])]) (rs':=[some ⟨5,1,ak (d++[44]),false⟩]) Z Z Z Z aZ Z Z Z Z (by intro e l;simp only[Ri,RM,or_false]at l;subst l;rfl) (AllC.lit Z) (AllC.lit Z) (by simp only[aA,Q4,Q5,Ra];omega) Z Z Z (by simp only[bg];rfl)<|Y 1 Z<|am<|M 2 Z (D Z (Gg v A) Z Z)<|lQ (bs':=[(30,(bQ r)),(67,(eA t)),(77,[iT v.t,iT v.n,sT v.s])]) (rs':=[some ⟨5,1,ak ((d++[44])++v.fmt),false⟩]) Z Z Z Z aZ rM bu Z Z Z Z (by simp only[aA,Q4,Q5,Ra];first|omega|(show _+v.fmt.length<=_;omega)) Z Z (by simp only[bg];rfl)<|Y 1 Z<|am<|a8 0 (j+1) Z Z Zy O0<|Y 1 Z<|⟨_,_,?_,⟨j+1,((d++[44])++v.fmt),?_,Z,Z⟩,.rf⟩
    ·omega
    refine⟨O0,?_,?_⟩
    ·simp only[Q4,Q5,Ra];omega
    rw[<-b];simp
   rw[if_neg q,Sc]at b;refine ar<|am<|M 2 Z (D Z (Gg v A) Z Z)<|lQ (bs':=[(30,(bQ r)),(67,(eA t)),(77,[iT v.t,iT v.n,sT v.s])]) (rs':=[some ⟨5,1,ak (d++v.fmt),false⟩]) Z Z Z Z aZ rM bu Z Z Z Z (by simp only[aA,Q4,Q5,Ra];first|omega|(show _+v.fmt.length<=_;omega)) Z Z (by simp only[bg];rfl)<|Y 1 Z<|am<|a8 0 (j+1) Z Z Zy O0<|Y 1 Z<|⟨_,_,?_,⟨j+1,(d++v.fmt),?_,Z,Z⟩,.rf⟩
   ·omega
   refine⟨O0,?_,?_⟩
   ·simp only[Q4,Q5,Ra];omega
   rw[<-b];simp
  rw[Rc (by omega:t.vals.length<=j),show dF j []=[]from by cases j<;>rfl,RP]at b;refine aX<|H<|C<|M 3 (t:=bT (!r.sch.cert)) Z (dm Z Z Zy)<|E<|aK Z (λu=>?_) (λu=>?_)
  ·have w:r.sch.cert=false:=by simpa using u
   refine C<|M 1 (t:=.sl [.sc (.int .u8 58)]) Z (aS Z aJ dd Z I1 I1 Z Z Z Z Z)<|a7 (bs':=[(30,(bQ r)),(67,(eA t))]) (rs':=[some ⟨5,1,ak (d++[58]),false⟩]) Z Z Z Z aZ Z Z Z Z (by intro e l;simp only[Ri,RM,or_false]at l;subst l;rfl) (AllC.lit Z) (AllC.lit Z) (by simp only[aA,Q4,Q5,Ra];omega) Z Z Z (by simp only[bg];rfl)<|Y 1 Z<|am<|M 3 Z (D Z (Ib t.prob (O.tup t y).1.p (by have:=m.num;omega) (by have:=m.den;omega)) Z Z)<|lQ (bs':=[(30,(bQ r)),(67,(eA t))]) (rs':=[some ⟨5,1,ak ((d++[58])++(nK t.prob).data.toList),false⟩]) Z Z Z Z aZ rM bu Z Z Z Z (by have:=oC m;have e:(nK t.prob).data.toList.length=(nK t.prob).size:=F0;simp only[aA,Q4,Q5,Ra,e];omega) Z Z (by simp only[bg];rfl)<|Y 1 Z<|am<|M 1 (t:=.sl [.sc (.int .u8 10)]) Z (aS Z aJ dd Z I1 I1 Z Z Z Z Z)<|a7 (bs':=[(30,(bQ r)),(67,(eA t))]) (rs':=[some ⟨5,1,ak (((d++[58])++(nK t.prob).data.toList)++[10]),false⟩]) Z Z Z Z aZ Z Z Z Z (by intro e l;simp only[Ri,RM,or_false]at l;subst l;rfl) (AllC.lit Z) (AllC.lit Z) (by have:=oC m;have e:(nK t.prob).data.toList.length=(nK t.prob).size:=F0;simp only[aA,Q4,Q5,Ra,e];omega) Z Z Z (by simp only[bg];rfl)<|Y 1 Z<|am<|a8 0 (i+1) Z Z Zy O0<|Y 1 Z<|⟨_,_,?_,⟨i+1,(((d++[58])++(nK t.prob).data.toList)++[10]),?_,Z,Z⟩,.rf⟩
   ·omega
   refine⟨O0,?_,?_⟩
   ·have:=oC m;have e:(nK t.prob).data.toList.length=(nK t.prob).size:=F0
    simp only[Q4,Q5,Ra,e];omega
   rw[<-h];unfold wz;rw[w,b];simp
  have w:r.sch.cert=true:=by simpa using u
  refine ar<|am<|M 1 (t:=.sl [.sc (.int .u8 10)]) Z (aS Z aJ dd Z I1 I1 Z Z Z Z Z)<|a7 (bs':=[(30,(bQ r)),(67,(eA t))]) (rs':=[some ⟨5,1,ak (d++[10]),false⟩]) Z Z Z Z aZ Z Z Z Z (by intro e l;simp only[Ri,RM,or_false]at l;subst l;rfl) (AllC.lit Z) (AllC.lit Z) (by have:=oC m;have e:(nK t.prob).data.toList.length=(nK t.prob).size:=F0;simp only[aA,Q4,Q5,Ra,e];omega) Z Z Z (by simp only[bg];rfl)<|Y 1 Z<|am<|a8 0 (i+1) Z Z Zy O0<|Y 1 Z<|⟨_,_,?_,⟨i+1,(d++[10]),?_,Z,Z⟩,.rf⟩
  ·omega
  refine⟨O0,?_,?_⟩
  ·have:=oC m;have e:(nK t.prob).data.toList.length=(nK t.prob).size:=F0
   simp only[Q4,Q5,Ra,e];omega
  rw[<-h];unfold wz;rw[w,b];simp
 refine dp 0 (bs':=[(30,(bQ r))]) (rs':=[none]) Z Z Z Z<|aX<|X 2 Z<|aM ⟨Z,Lf (by unfold rL;rw[if_pos c,<-h,Rc O0];simp),Z⟩ Z
def jV(x:Int):Tree:=.sc (.int .i64 x)
def qe(l:List Int):Sized 1 (l.map jV):=Sized.map _ l λ_=>rfl
def Ie(l:List Rel):Sized 4 (l.map Rel.tree):=Sized.map _ l λ_=>rfl
def sO(l:List Sch):Sized 3 (l.map Sch.tree):=Sized.map _ l λ_=>rfl
def wA:List Int:=[1,1,2,1,1,0,3,1]
def tU:List Int:=[2,3,3,4,1,1,5,7]
def j8:List Rat:=[eK false 1 2,eK false 1 3,eK false 2 3,eK false 1 4,eK false 1 1,eK false 0 1,eK false 3 5,eK false 1 7]
def ju(n:Nat):Rat:=eK ((decide (wA.getD (n%8) 0<0)) !=(decide (tU.getD (n%8) 0<0))) (wA.getD (n%8) 0).natAbs (tU.getD (n%8) 0).natAbs
def OY(n:Nat):n%8=0\/n%8=1\/n%8=2\/n%8=3\/n%8=4\/n%8=5\/n%8=6\/n%8=7:=O
def yL(n:Nat):ju n∈j8:=by
 unfold ju j8;rcases OY n with h|h|h|h|h|h|h|h<;>rw[h]<;>simp[wA,tU]
def AH(n:Nat):wA[n%8]? =some (wA.getD (n%8) 0)/\ -9223372036854775808<=wA.getD (n%8) 0/\wA.getD (n%8) 0<=9223372036854775807:=by
 rcases OY n with h|h|h|h|h|h|h|h<;>rw[h]<;>simp[wA]
def ul(n:Nat):tU[n%8]? =some (tU.getD (n%8) 0)/\ -9223372036854775808<=tU.getD (n%8) 0/\tU.getD (n%8) 0<=9223372036854775807/\tU.getD (n%8) 0≠0:=by
 rcases OY n with h|h|h|h|h|h|h|h<;>rw[h]<;>simp[tU]
def OZ:Col:=⟨⟨#[97]⟩,1,false⟩
def P4:Col:=⟨⟨#[98]⟩,1,false⟩
def qf:List Sch:=[⟨⟨#[82]⟩,false,[OZ,P4]⟩,⟨⟨#[83]⟩,false,[OZ]⟩,⟨⟨#[75]⟩,false,[⟨⟨#[107]⟩,1,true⟩,⟨⟨#[118]⟩,1,false⟩]⟩,⟨⟨#[67]⟩,true,[OZ,P4]⟩]
def jq:Sch:=⟨⟨#[78]⟩,false,[⟨⟨#[110,97,109,101]⟩,2,true⟩,⟨⟨#[110]⟩,1,false⟩]⟩
def iQ:List ByteArray:=[⟨#[]⟩,⟨#[97]⟩,⟨#[105,116,39,115]⟩,⟨#[120,44,121,58,122]⟩,⟨#[32]⟩]
def mC(n:Nat):iQ[n%5]? =some (iQ.getD (n%5) ⟨#[]⟩)/\(iQ.getD (n%5) ⟨#[]⟩).size<=5:=by
 have h:n%5=0\/n%5=1\/n%5=2\/n%5=3\/n%5=4:=O
 rcases h with h|h|h|h|h<;>rw[h]<;>exact⟨Z,I⟩
structure Good (r:Rel):Prop where
 valid:bK r=0
 prob:∀t∈r.tups,t.prob∈j8
 str:xD r
 rng:∀t∈r.tups,∀v∈t.vals,v.rng
 len:r.tups.length<=3
 sch:r.sch∈qf\/r.sch=jq
def sP{q:Rat}(h:q∈j8):Fit 1 q/\0<=q/\q<=1/\(rJ q.num.natAbs).size<=1/\(rJ q.den).size<=1:=by
 unfold j8 at h;simp only[Ri,To,or_false]at h;rcases h with rfl|rfl|rfl|rfl|rfl|rfl|rfl|rfl<;>exact⟨⟨by decide+kernel,by decide+kernel⟩,by decide+kernel,by decide+kernel,by decide+kernel,by decide+kernel⟩
def nM{t:Tp}(h:t.prob∈j8):FitT t:=⟨(sP h).1.mono I,(lI (a:=1) (b:=1) ⟨I,I⟩ (sP h).1).mono I⟩
def Ig:(1:Rat)∈j8:=by
 have:(1:Rat)=eK false 1 1:=by decide+kernel
 rw[this];simp[j8]
def sQ{s:Sch}(h:s∈qf\/s=jq):s.cols.length<=2/\im s=true:=by
 unfold qf jq at h;simp only[Ri,To,or_false]at h;rcases h with(rfl|rfl|rfl|rfl)|rfl<;>exact⟨I,by decide+kernel⟩
def Good.fit{r:Rel}(h:Good r):FitR r/\∀t∈r.tups,TxT t:=by
 have b:=oD h.valid;refine⟨⟨by have:=(sQ h.sch).1;omega,by have:=h.len;omega,λt a=>⟨nM (h.prob t a),by have:=b t a;omega⟩⟩,λt a=>?_⟩;have c:=sP (h.prob t a);exact⟨h.rng t a,O,O⟩
def GoodK(s:Sch)(k:Nat)(r:Rel):Prop:=Good r/\r.sch=s/\r.tups.length<=k
def wC{s:Sch}(h:s∈qf\/s=jq):GoodK s 0 ⟨s,[]⟩:=by
 refine⟨{valid:=?_,prob:=λt a=>(by cases a),str:=λt a=>(by cases a),rng:=λt a=>(by cases a),len:=Rg _,sch:=h},Z,Rg _⟩;unfold bK;rw[if_neg (by rw[(sQ h).2];simp)];have:bF ⟨s,[]⟩=[]:=by unfold bF;split<;>rfl
 simp[this,ci,tS,pJ]
def CG{s:Sch}{k:Nat}{r:Rel}{t:Tp}(h:GoodK s k r)(n:k<3)(a:dW r t=0)(g:t.prob∈j8)(j:EE t)(i:∀v∈t.vals,v.rng):GoodK s (k+1) (g8 r t):=by
 obtain⟨c,d,m⟩:=h;have f:∀x∈(g8 r t).tups,x∈r.tups\/x=t:=λx b=>by
  unfold g8 at b;simp only[RI,Rs]at b;rcases b with(h|h)|h
  ·exact .inl (RG h)
  ·exact .inr h
  exact .inl (Sf h)
 have l:bK (g8 r t)=0:=by
  unfold dW at a;split at a
  ·next h=>exact absurd a h
  split at a
  ·next h=>exact absurd a h
  split at a
  ·cases a
  exact a
 have e:(g8 r t).tups.length<=k+1:=by
  unfold g8;simp only[Q4,Rb,Rm,Ss];omega
 refine⟨⟨l,λx b=>?_,λx b=>?_,λx b=>?_,O,c.sch⟩,d,e⟩<;>rcases f x b with h|rfl
 ·exact c.prob x h
 ·exact g
 ·exact c.str x h
 ·exact j
 ·exact c.rng x h
 exact i
def GoodK.more{s:Sch}{k:Nat}{r:Rel}(h:GoodK s k r):GoodK s (k+1) r:=⟨h.1,h.2.1,by have:=h.2.2;omega⟩
def AI{r:Rel}{t:Tp}(h:dW r t=0):nV r t=.tup [(g8 r t).tree,iT 0]:=by unfold nV;rw[if_pos h,h]
def wD{r:Rel}{t:Tp}(h:dW r t≠0):nV r t=.tup [ug,iT (dW r t)]:=by unfold nV;rw[if_neg h]
def rN(n:Int):Ct 38 [iT n] (V.tree ⟨1,n,⟨#[]⟩⟩):=⟨⟨_,func38,Z,Z⟩,λG w vs _ _ c=>by
 obtain⟨u,rfl,a⟩:=eC c;cases a;refine(Wa n w).mono ?_;rintro e w' ⟨rfl,b⟩;exact⟨_,Z,.agg [.int .i64 1,.int .i64 n,.string ⟨#[]⟩] _ (.sc _ (.sc _ (.sc _ .nil))) .nil,b⟩⟩
def um(s:ByteArray):Ct 37 [sT s] (V.tree ⟨2,0,s⟩):=⟨⟨_,func37,Z,Z⟩,λG w vs _ _ c=>by
 obtain⟨u,rfl,a⟩:=eC c;cases a;refine(nf s w).mono ?_;rintro e w' ⟨rfl,b⟩;exact⟨_,Z,.agg [.int .i64 2,.int .i64 0,.string s] _ (.sc _ (.sc _ (.sc _ .nil))) .nil,b⟩⟩
def lK:gQ prog 128=some (2,1):=U
def lf:gQ prog 52=some (26,3):=U
def Pj:jP prog 2=true:=U
def O1:(prog.info? 26).map (·.size)=some 3:=U
def O2:si prog 26=some ([(0,1),(1,1),(2,1)],[.string (⟨#[]⟩),.bool false,.slice none 0 0]):=U
def wF:si prog 58=some ([(0,1),(1,1),(2,1)],[.string (⟨#[]⟩),.int .i64 0,.bool false]):=U
def yM:ij prog 2=some [.int .i64 0]:=U
def EN:ij prog 26=some [.string (⟨#[]⟩),.bool false,.slice none 0 0]:=U
def Gh(l:List Int)(i:Nat)(h:l.length<=9223372036854775807)(g:i<65536):CtE 35 [.sl (l.map jV),nI i] (λe=>∃n:Nat,n<4294967296/\e=nI n):=by
 refine CtE.of (n:=23) func35 Z Z Z Z Z λw0 G0=>?_
 refine X 1 Z<|H<|C<|M 1 Z (aU Z dj Z)<|aI 0 Z Z Zy (B (gL l.length 0))<|E<|ay Z (λa=>?_) (λa=>?_)
 ·refine C<|M 1 (t:=nI ((((i:Nat):Int)%65536).toNat)) Z (aC Z Z Z (λw=>yg ((i:Nat):Int) w))<|Y 1 Z<|aQ<|⟨_,⟨_,by first|omega|(have:=VE x (show(0:Int)<65536 by decide);omega),Z⟩,.inr Z,_,.cons Z .nil,Z,Z⟩
 have b:0<l.length:=O0
 obtain⟨x,c⟩:∃x,l[i%l.length]? =some x:=⟨_,Q2 (RJ _ b)⟩;have d:i/l.length<=i:=Ti _ _;refine ar<|H<|cB (fu:=14) _ [.sl (l.map jV),nI i,.sl (l.map jV),nI l.length,nI (i%l.length),.ref [iT x],iT x,nI ((x%65536).toNat),nI i,.sl (l.map jV),nI l.length,nI (i/l.length),nI (((x%65536).toNat)+(i/l.length)),nI (((x%65536).toNat)+(i/l.length))] U0 Z Z U0 Z ?_ ?_
 ·refine Chain.op Z (K Z Z)<|Chain.op Z (K Z Z)<|Chain.op Z (K Z Z)<|Chain.op Z (aj (fw Z dj Z) (by simp only[Rn]))<|Chain.op Z (aC Z Z Z (λw=>nl i l.length O0 w))<|Chain.op Z (aO (jV x) Z dj Z Z Z (bd (f:=jV) c) (qe _) Z)<|Chain.op Z (bi Z Z fq Z)<|Chain.op Z (aC Z Z Z (λw=>yg x w))<|Chain.op Z (K Z Z)<|Chain.op Z (K Z Z)<|Chain.op Z (aj (fw Z dj Z) (by simp only[Rn]))<|Chain.op Z (aC Z Z Z (λw=>uf i l.length O0 O0 w))<|Chain.op Z (aj (aC Z Z Z Zy) (kK O0))<|Chain.op Z (bN Z Z)<|Chain.nil
 refine aQ<|⟨_,⟨_,by first|omega|(have:=VE x (show(0:Int)<65536 by decide);omega),Z⟩,.inr Z,_,.cons Z .nil,Z,Z⟩
def rO(n:Nat):Ct 39 [nI n] (dw (ju n)):=by
 refine Ct.of (n:=24) func39 Z Z Z Z Z λw0 G0=>?_
 refine X 1 Z<|C<|M 0 (t:=.sl (wA.map jV)) Z (aj (aS Z lK yM Z I1 I1 Z Z Z Z Z) (Z))<|M 1 (t:=nI (n%8)) Z (aC Z Z Z (λw=>vu n w))<|M 0 (t:=.ref [iT (wA.getD (n%8) 0)]) Z (aO (jV (wA.getD (n%8) 0)) Z lK Z Z Z (bd (f:=jV) (AH n).1) (qe _) Z)<|Y 2 Z<|C<|M 0 (t:=.sl (tU.map jV)) Z (aj (aS Z lK yM Z I1 I1 Z Z Z Z Z) (Z))<|M 1 (t:=nI (n%8)) Z (aC Z Z Z (λw=>vu n w))<|M 0 (t:=.ref [iT (tU.getD (n%8) 0)]) Z (aO (jV (tU.getD (n%8) 0)) Z lK Z Z Z (bd (f:=jV) (ul n).1) (qe _) Z)<|Y 2 Z<|C<|M 2 Z (D Z (M5 _ _ (AH n).2.1 (AH n).2.2 (ul n).2.1 (ul n).2.2.1 (ul n).2.2.2) Z Z)<|Y 6 Z<|X 2 Z<|aM ⟨(co Z Z aH Z),Z,Z⟩ Z
def EO:Ct 24 [] (.sl (qf.map Sch.tree)):=by
 refine Ct.of (n:=21) func24 Z Z Z Z Z λw0 G0=>?_
 refine C<|M 0 (t:=.sl []) Z (bz (.inr Z) bS)<|E<|X 6 Z<|C<|M 2 (t:=.sl [.agg [sT (⟨#[97]⟩),iT 1,bT false],.agg [sT (⟨#[98]⟩),iT 1,bT false]]) Z (aS Z bk iL Z I1 I1 Z Z Z Z Z)<|M 2 (t:=.sl [.agg [sT (⟨#[97]⟩),iT 1,bT false]]) Z (aS Z bk iL Z I1 I1 Z Z Z Z Z)<|M 3 (t:=.sl [.agg [sT (⟨#[107]⟩),iT 1,bT true],.agg [sT (⟨#[118]⟩),iT 1,bT false]]) Z (aS Z bk iL Z I1 I1 Z Z Z Z Z)<|M 3 (t:=.sl [.agg [sT (⟨#[97]⟩),iT 1,bT false],.agg [sT (⟨#[98]⟩),iT 1,bT false]]) Z (aS Z bk iL Z I1 I1 Z Z Z Z Z)<|M 1 (t:=.sl [.agg [sT (⟨#[82]⟩),bT false,.sl [.agg [sT (⟨#[97]⟩),iT 1,bT false],.agg [sT (⟨#[98]⟩),iT 1,bT false]]],.agg [sT (⟨#[83]⟩),bT false,.sl [.agg [sT (⟨#[97]⟩),iT 1,bT false]]],.agg [sT (⟨#[75]⟩),bT false,.sl [.agg [sT (⟨#[107]⟩),iT 1,bT true],.agg [sT (⟨#[118]⟩),iT 1,bT false]]],.agg [sT (⟨#[67]⟩),bT true,.sl [.agg [sT (⟨#[97]⟩),iT 1,bT false],.agg [sT (⟨#[98]⟩),iT 1,bT false]]]]) Z (aS Z lf EN Z I1 I1 Z Z Z Z Z)<|Y 1 Z<|aM ⟨Z,Z,Z⟩ Z
def wG:Ct 25 [] (jq.tree):=by
 refine Ct.of (n:=5) func25 Z Z Z Z Z λw0 G0=>?_
 refine X 1 Z<|C<|M 2 (t:=.sl [.agg [sT (⟨#[110,97,109,101]⟩),iT 2,bT true],.agg [sT (⟨#[110]⟩),iT 1,bT false]]) Z (aS Z bk iL Z I1 I1 Z Z Z Z Z)<|Y 2 Z<|aM ⟨(co Z Z g7 Z),Z,Z⟩ Z
