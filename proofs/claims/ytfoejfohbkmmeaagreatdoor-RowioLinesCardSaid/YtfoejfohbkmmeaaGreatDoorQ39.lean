import Derived.Test.YtfoejfohbkmmeaaGreatDoorQ38
import Derived.Test.YtfoejfohbkmmeaaGreatDoorQ07
import Derived.Test.YtfoejfohbkmmeaaGreatDoorQ00
import Derived.Lib.SplitLaws
set_option maxRecDepth 100000
set_option maxHeartbeats 4000000
namespace Go.Proofs.YtfoejfohbkmmeaaGreatDoor
open Go.RowKit
open Lib renaming hid→J
theorem ri{s:ByteArray}(h:tN s.data.toList=true)(l k:Nat):tN (s.extract l k).data.toList=true:=by rw[kM];exact FF (FG h _) _
def kN:List UInt8->Nat->Nat
 |[],i=>i
 |[_],i=>i+1
 |c::d::l,i=>if c.toNat≠39 then kN (d::l) (i+1)else if d.toNat≠39 then i+1 else kN l (i+2)
theorem wu:∀(n:Nat) (l:List UInt8) (i:Nat),l.length<=n->kN l i<=i+l.length
 |_,[],i,_=>by simp[kN]
 |_,[_],i,_=>by simp[kN]
 |0,_::_::_,i,h=>by simp at h
 |n+1,c::d::l,i,h=>by
  simp only[Mb]at h;rw[kN];split
  ·have:=wu n (d::l) (i+1) (by simp only[Mb];omega);simp only[Mb]at this⊢;omega
  split
  ·simp only[Mb];omega
  have:=wu n l (i+2) (by omega);simp only[Mb];omega
def nQ(s:ByteArray):Bool:=Lib.hasPrefix s.data.toList [39]
def jE(s:ByteArray):Nat:=if nQ s then kN (s.data.toList.drop 1) 1 else if 0<=lK s.data.toList then(lK s.data.toList).toNat else s.size
theorem tk{s:ByteArray}(h:nQ s=true):1<=s.size:=by
 unfold nQ at h;rw[bN];cases e:s.data.toList with
 |nil=>rw[e]at h;simp[Lib.hasPrefix]at h
 |cons a l=>simp
theorem Ga{l:List UInt8}(h:0<=lK l):(lK l).toNat<l.length:=by
 unfold lK at h⊢;split at h
 ·next h1=>
  rw[if_pos h1];obtain⟨c,a,d⟩:=OI.1 h1;rw[Oq];have f:=(Ox (fun c:UInt8=> !(c==44||c==58)) (l:=l)).length_le;rcases MI (l.takeWhile fun c:UInt8=> !(c==44||c==58)).length l.length with b|b
  ·exact b
  have e:=(Ox (fun c:UInt8=> !(c==44||c==58)) (l:=l)).eq_of_length (by omega);rw[<-e]at a;have:=wl a;rw[d]at this;cases this
 exact absurd h (by decide)
theorem Ib(s:ByteArray):jE s<=s.size:=by
 unfold jE;split
 ·next h=>
  have a:=tk h;have:=wu _ (s.data.toList.drop 1) 1 (L5 _);rw[MS,<-bN]at this;omega
 split
 ·next h=>have:=Ga h;rw[<-bN]at this;omega
 exact L5 _
structure LR where
 vs:List V
 b:Bool
 N:Nat
 D:Nat
 ok:Bool
def LR.tree(x:LR):Tree:=.tup [.agg [.sl (x.vs.map V.tree),.sc (.bool x.b),aM x.N,aM x.D],.sc (.bool x.ok)]
noncomputable def j0:Nat->ByteArray->List V->Option (List V×ByteArray)
 |0,_,_=>none
 |n+1,s,acc=>match jD (s.extract 0 (jE s))with
  |none=>none
  |some v=>if Lib.hasPrefix (s.extract (jE s) s.size).data.toList [44]then j0 n ((s.extract (jE s) s.size).extract 1 (s.extract (jE s) s.size).size) (acc++[v])else some (acc++[v],s.extract (jE s) s.size)
noncomputable def cE (s:ByteArray) (cert:Bool):LR:=
 match j0 (s.size+1) s []with
 |none=>⟨[],false,0,0,false⟩
 |some (vs,r)=>
  if cert then⟨vs,decide ((1:Rat).num<0),(1:Rat).num.natAbs,(1:Rat).den,r.toList==(⟨#[]⟩:ByteArray).toList⟩
  else if(!Lib.hasPrefix r.data.toList [58])=true then⟨[],false,0,0,false⟩
  else if(gR (r.extract 1 r.size)).2=0 then⟨vs,decide ((gR (r.extract 1 r.size)).1.num<0),(gR (r.extract 1 r.size)).1.num.natAbs,(gR (r.extract 1 r.size)).1.den,true⟩
  else⟨vs,false,0,0,false⟩
theorem Ic{x:Rat×Int}(h:x.2=0):yp x=.tup [dp x.1,iT 0]:=by unfold yp;rw[if_pos h,h]
theorem Gb{x:Rat×Int}(h:x.2≠0):yp x=.tup [jX false 0 0,iT x.2]:=by unfold yp;rw[if_neg h];rfl
theorem nR{r:ByteArray}{c:UInt8}(h:Lib.hasPrefix r.data.toList [c]=true):1<=r.size:=by
 rw[bN];cases e:r.data.toList with
 |nil=>rw[e]at h;simp[Lib.hasPrefix]at h
 |cons a l=>simp
theorem Gc:Ct 78 [iT 1,iT 1] (.tup [dp 1,iT 0]):=by
 have h:=Hn 1 1 (by decide) (by decide) (by decide) (by decide) (by decide);have e:cF ((decide ((1:Int)<0)) !=(decide ((1:Int)<0))) (1:Int).natAbs (1:Int).natAbs=1:=Cc 1;rw[e]at h;exact h
theorem wv{s:ByteArray}{i:Nat}(h:i<s.size):kN (s.data.toList.drop i) i=if(ck s i).toNat≠39 then kN (s.data.toList.drop (i+1)) (i+1)else if i+1=s.size then i+1 else if(ck s (i+1)).toNat≠39 then i+1 else kN (s.data.toList.drop (i+2)) (i+2):=by
 have b:i<s.data.toList.length:=by rw[<-bN];exact h
 have e:s.data.toList[i]=ck s i:=by have:=eH h;rw[L4 b]at this;exact Nt this
 by_cases c:i+1=s.size
 ·rw[Md b,e,Mg (i:=i+1) (by rw[<-bN];omega),kN,kN,if_pos c];split<;>rfl
 have d:i+1<s.size:=by omega
 have a:i+1<s.data.toList.length:=by rw[<-bN];exact d
 have f:s.data.toList[i+1]=ck s (i+1):=by have:=eH d;rw[L4 a]at this;exact Nt this
 rw[Md b,e,Md a,f,kN,if_neg c]
theorem Gd{s:ByteArray}{i:Nat}(h:i=s.size):kN (s.data.toList.drop i) i=s.size:=by
 subst h;rw[Mg (by rw[<-bN];omega)];rfl
theorem AL:(Tryz.prog.info? 61).map (·.size)=some 1:=by kernel_rfl
theorem Id(s:ByteArray)(v:s.size<=1048576)(w:tN s.data.toList=true):Ct 75 [sT s] (nI (jE s)):=by
 refine Ct.of (n:=43) Tryz.func75 Z Z Z Z Z fun w0 G0=>?_
 refine ab<|aj 1 Z<|ab<|ab<|ae<|aa 1 Z<|af Z Z Z (ar Z (lB s ⟨#[39]⟩) Z Z)<|af (t:=bT (!(nQ s))) Z Z Z (ef Z Z Zy)<|ag<|aH Z (fun l=>?_) (fun l=>?_)
 ·have m:nQ s=false:=by simpa using l
  refine ab<|ab<|ae<|aa 1 Z<|af Z Z Z (ar Z (yc s v w) Z Z)<|aa 1 Z<|ag<|ab<|ae<|aa 1 Z<|af (t:=bT (decide ((lK s.data.toList)≥0))) Z Z Z (ai Z Z Z Zy)<|ag<|aF Z (fun b=>?_) (fun b=>?_)
  ·refine ab<|aj 2 Z<|aC<|⟨.inr Z,_,.cons Z .nil,ep (by unfold jE;rw[if_neg (by rw[m];exact MR),if_pos b,Int.toNat_of_nonneg b]),Z⟩
  refine ax<|ab<|ae<|aa 1 Z<|af (t:=nI s.size) Z Z Z (eK Z a8 Z)<|aa 1 Z<|ag<|aC<|⟨.inr Z,_,.cons Z .nil,F1 (k:=.i64) (by unfold jE;rw[if_neg (by rw[m];exact MR),if_neg b]),Z⟩
 have m:nQ s=true:=by simpa using l
 have q:=tk m;refine ax<|ab<|ab<|aj 1 Z<|aE<|aW (fun u r=>∃(i:Nat),(i<=s.size/\kN (s.data.toList.drop i) i=kN (s.data.toList.drop 1) 1)/\u=s.size-i/\r=⟨43,[(0,sT s),(4,nI i)],[],[]⟩) 0 0 ⟨1,⟨q,Z⟩,Z,Z⟩ ⟨Z,Z,Z,.cons Z Z (.cons Z Z .nil),Z⟩ ?_;rintro u r ⟨i,⟨x,a⟩,rfl,rfl⟩;refine ab<|ab<|ae<|aa 2 Z<|af (t:=nI s.size) Z Z Z (eK Z a8 Z)<|af (t:=bT (decide (i<s.size))) Z Z Z (ah (ai Z Z Z Zy) (av (iu i s.size)))<|ag<|aF Z (fun o=>?_) (fun o=>?_)
 ·have c:=o;refine ax<|ab<|aE<|ab<|ab<|ae<|aa 2 Z<|af (t:=.sc (.int .u8 (((ck s i).toNat:Nat):Int))) Z Z Z (dE Z a8 Z Z Z (eH c))<|af (t:=bT (decide ((ck s i).toNat≠39))) Z Z Z (ah (ai Z Z Z Zy) (av (wD ((ck s i).toNat) 39)))<|ag<|aF Z (fun d=>?_) (fun d=>?_)
  ·refine aZ<|ae<|aa 1 Z<|af (t:=nI (i+1)) Z Z Z (ah (ai Z Z Z Zy) (bu (by omega)))<|aa 1 Z<|ag<|⟨_,_,?_,⟨i+1,?_,Z,Z⟩,⟨Z,Z,Z,.cons Z Z (.cons Z Z .nil),Z⟩⟩
   ·omega
   refine⟨by omega,?_⟩;rw[<-a,wv c,if_pos d]
  refine ax<|ab<|ab<|ae<|aa 1 Z<|af (t:=nI (i+1)) Z Z Z (ah (ai Z Z Z Zy) (bu (by omega)))<|aa 1 Z<|af (t:=nI s.size) Z Z Z (eK Z a8 Z)<|af (t:=bT (decide (i+1=s.size))) Z Z Z (ah (ai Z Z Z Zy) (av (lY (i+1) s.size)))<|aa 1 Z<|aA (t:=sT s) ((decide (i+1=s.size))=false) Z Z Z au Z Z (fun e=>aw Z Z)<|aA (t:=nI i) ((decide (i+1=s.size))=false) Z Z Z au Z Z (fun e=>aw Z Z)<|aA (t:=nI (i+1)) ((decide (i+1=s.size))=false) Z Z Z au Z Z (fun e=>ah (ai Z (if_pos e) Z (fun _=>rfl)) (bu (by omega)))<|aA (t:=.sc (.int .u8 (((ck s (i+1)).toNat:Nat):Int))) ((decide (i+1=s.size))=false) Z Z Z au Z Z (fun e=>dE Z a8 (if_pos e) (if_pos e) Z (eH (by have:=of_decide_eq_false e;omega)))<|aA (t:=bT (decide ((ck s (i+1)).toNat≠39))) ((decide (i+1=s.size))=false) Z Z Z au Z Z (fun e=>ah (ai Z (if_pos e) Z (fun _=>rfl)) (av (wD ((ck s (i+1)).toNat) 39)))<|af (t:=bT ((decide (i+1=s.size))||(decide ((ck s (i+1)).toNat≠39)))) Z Z Z (aL Z Z (fun p=>(av (by rw[p];rfl))) (fun p=>(if_pos p).trans (av (by rw[p];rfl))))<|ag<|aH Z (fun g=>?_) (fun g=>?_)
  ·refine ab<|ae<|aa 1 rfl<|af (t:=nI (i+1)) rfl rfl rfl (ah (ai rfl rfl rfl Zy) (bu (by omega)))<|aa 1 rfl<|ag<|aC<|⟨.inr rfl,_,.cons rfl .nil,F1 (k:=.i64) (by unfold jE;rw[if_pos m,<-a,wv c,if_neg d];rcases Qo.1 g with h|h;rw[if_pos (of_decide_eq_true h)];rw[if_pos (of_decide_eq_true h)];split<;>rfl),rfl⟩
  obtain⟨f,j⟩:=Mz.1 g;replace f:=of_decide_eq_false f;replace j:=of_decide_eq_false j;refine ax<|ae<|aa 1 Z<|af (t:=nI (i+1)) Z Z Z (ah (ai Z Z Z Zy) (bu (by omega)))<|aa 1 Z<|ag<|ae<|aa 1 Z<|af (t:=nI ((i+1)+1)) Z Z Z (ah (ai Z Z Z Zy) (bu (by omega)))<|aa 1 Z<|ag<|⟨_,_,?_,⟨(i+1)+1,?_,Z,Z⟩,⟨Z,Z,Z,.cons Z Z (.cons Z Z .nil),Z⟩⟩
  ·omega
  refine⟨by omega,?_⟩;rw[<-a,wv c,if_neg d,if_neg f,if_neg j]
 refine aZ<|ab<|ae<|aa 1 Z<|af (t:=nI s.size) Z Z Z (eK Z a8 Z)<|aa 1 Z<|ag<|aC<|⟨.inr Z,_,.cons Z .nil,F1 (k:=.i64) (by unfold jE;rw[if_pos m,<-a,Gd (by omega)]),Z⟩
theorem Ie(s:ByteArray)(cert:Bool)(I:s.size<=1048576)(G:tN s.data.toList=true):Ct 29 [sT s,bT cert] ((cE s cert).tree):=by
 refine Ct.of (n:=62) Tryz.func29 Z Z Z Z Z fun w0 G0=>?_
 refine ab<|aj 2 Z<|ab<|ae<|vC (cs:=[.sc (.slice none 0 0),bT false,.sc (.slice none 0 0),.sc (.slice none 0 0)]) (b:=1) (bs':=[(67,[.sl [],bT false,.sl [],.sl []]),(67,[.sc (.slice none 0 0),bT false,.sc (.slice none 0 0),.sc (.slice none 0 0)])]) Z Z Z Z go Z Z Z Z<|ag<|ab<|aE<|mD 1 0 77 3 (bs':=[(67,[.sl [],bT false,.sl [],.sl []]),(67,[.own 0,bT false,.sc (.slice none 0 0),.sc (.slice none 0 0)])]) (rs':=[some ⟨77,3,[],false⟩]) Z Z Z Z<|aW (fun A C=>∃(u:ByteArray) (d:List V) (n:Nat),(tN u.data.toList=true/\u.size<n/\d.length+u.size<=s.size/\j0 n u d=j0 (s.size+1) s [])/\A=u.size+1/\C=⟨62,[(0,sT u),(1,bT cert),(4,.box 0 0),(6,.box 1 0)],[(67,[.sl [],bT false,.sl [],.sl []]),(67,[.own 0,bT false,.sc (.slice none 0 0),.sc (.slice none 0 0)])],[some ⟨77,3,d.map V.tree,false⟩]⟩) 2 1 ⟨s,[],s.size+1,⟨G,by omega,by simp,Z⟩,Z,Z⟩ ⟨Z,Z,Z,.cons Z Z (.cons Z Z (.cons Z Z (.cons Z Z .nil))),Z⟩ ?_;rintro A C ⟨u,d,n,⟨w,E,B,a⟩,rfl,rfl⟩;obtain⟨m,rfl⟩:∃m,n=m+1:=⟨n-1,by omega⟩;have H:=Ib u;refine aE<|ab<|ae<|aa 1 Z<|af Z Z Z (ar Z (Id u (by omega) w) Z Z)<|aa 1 Z<|ag<|ab ?_;rcases j:jD (u.extract 0 (jE u))with _|v
 ·rw[j0,j]at a;dsimp only at a;refine ae<|aa 2 Z<|af (t:=sT (u.extract 0 (jE u))) Z Z Z (fa (l:=0) (h:=(jE u)) Z a8 Z Z ⟨_,Z⟩ (by omega) (by omega))<|af Z Z Z (ar Z (yB _ (by simp only[MO];omega) j) Z Z)<|aa 6 Z<|ag<|ab<|ab<|ae<|aa 1 Z<|af (t:=bT (decide (2≠0))) Z Z Z (ah (ai Z Z Z Zy) (av (wD 2 0)))<|ag<|aF Z (fun q=>?_) (fun q=>?_)
  ·refine ab<|aj 3 Z<|aC<|⟨.inr Z,_,.cons ⟨_,_,_,_,Z,Z,.inl ⟨_,ez,Z,Z⟩⟩ (.cons Z .nil),by unfold cE;rw[<-a];rfl,Z⟩
  exact absurd (by decide) q
 rw[j0,j]at a;dsimp only at a;refine ae<|aa 2 Z<|af (t:=sT (u.extract 0 (jE u))) Z Z Z (fa (l:=0) (h:=(jE u)) Z a8 Z Z ⟨_,Z⟩ (by omega) (by omega))<|af Z Z Z (ar Z (yA _ v (by simp only[MO];omega) j) Z Z)<|aa 6 Z<|ag<|ab<|ab<|ae<|aa 1 Z<|af (t:=bT (decide (0≠0))) Z Z Z (ah (ai Z Z Z Zy) (av (wD 0 0)))<|ag<|aF Z (fun p=>?_) (fun p=>?_)
 ·exact absurd Z p
 refine ax<|ab<|ae<|aa 3 rfl<|af (t:=.sl [.agg [iT v.t,iT v.n,sT v.s]]) rfl rfl rfl (a6 rfl bz fM rfl (by decide) (by decide) rfl rfl rfl rfl rfl)<|cD (bs':=[(67,[.sl [],bT false,.sl [],.sl []]),(67,[.any,bT false,.sc (.slice none 0 0),.sc (.slice none 0 0)]),(77,[iT v.t,iT v.n,sT v.s])]) (rs':=[some ⟨77,3,(d++[v]).map V.tree,false⟩]) rfl rfl rfl rfl ib rfl rfl rfl rfl (by intro e D;simp only[Mi,Nr,or_false]at D;subst D;rfl) (AllC.lit rfl) (AllC.lit rfl) (by simp only[L8,Mb,Mo];omega) rfl rfl rfl (by rw[Nk];rfl)<|aa 2 rfl<|ag<|ab ?_;obtain⟨r,x⟩:∃r,u.extract (jE u) u.size=r:=⟨_,rfl⟩;have F:r.size=u.size-jE u:=by rw[<-x];simp only[MO];omega
 rw[x]at a;have y:tN r.data.toList=true:=by rw[<-x];exact ri w _ _
 refine ae<|aa 2 Z<|af (t:=sT r) Z Z Z (ah (fa (l:=(jE u)) (h:=u.size) Z a8 Z ⟨_,Z⟩ Z (by omega) (by omega)) (o9 x))<|aa 1 Z<|ag<|ab<|ab<|ae<|aa 1 Z<|af Z Z Z (ar Z (lB r ⟨#[44]⟩) Z Z)<|af (t:=bT (!(Lib.hasPrefix r.data.toList [44]))) Z Z Z (ef Z Z Zy)<|ag<|aH Z (fun k=>?_) (fun k=>?_)
 ·have i:Lib.hasPrefix r.data.toList [44]=false:=by simpa using k
  rw[if_neg (by rw[i];exact MR)]at a;refine aZ<|ab<|ab<|fD 0 (bs':=[(67,[.sl [],bT false,.sl [],.sl []]),(67,[.sl ((d++[v]).map V.tree),bT false,.sc (.slice none 0 0),.sc (.slice none 0 0)]),(77,[iT v.t,iT v.n,sT v.s])]) (rs':=[none]) Z Z Z Z<|aj 1 Z<|aH Z (fun g=>?_) (fun g=>?_)
  ·refine ab<|ae<|af Z Z Z (ar Z Gc Z Z)<|aa 5 Z<|ag<|ab<|ae<|aa 2 Z<|af (t:=bT (r.toList==(⟨#[]⟩:ByteArray).toList)) Z Z Z (ah (ai Z Z Z Zy) (av Z))<|aa 2 Z<|ag<|aC<|⟨.inr Z,_,.cons ⟨_,_,_,_,Z,Z,.inl ⟨_,ez,Z,Z⟩⟩ (.cons Z .nil),by unfold cE;rw[<-a];dsimp only;rw[if_pos g];rfl,Z⟩
  refine ax<|ab<|ab<|ae<|aa 1 Z<|af Z Z Z (ar Z (lB r ⟨#[58]⟩) Z Z)<|af (t:=bT (!(Lib.hasPrefix r.data.toList [58]))) Z Z Z (ef Z Z Zy)<|ag<|aH Z (fun f=>?_) (fun f=>?_)
  ·refine ab<|aj 3 Z<|aC<|⟨.inr Z,_,.cons ⟨_,_,_,_,Z,Z,.inl ⟨_,ez,Z,Z⟩⟩ (.cons Z .nil),by unfold cE;rw[<-a];dsimp only;rw[if_neg (by rw[g];exact MR),if_pos f];rfl,Z⟩
  have z:1<=r.size:=nR (c:=58) (by simpa using f);refine ax<|ab ?_;by_cases o:(gR (r.extract 1 r.size)).2=0
  ·refine ae<|aa 1 Z<|af (t:=sT (r.extract 1 r.size)) Z Z Z (fa (l:=1) (h:=r.size) Z a8 Z ⟨_,Z⟩ Z (by omega) (by omega))<|af (t:=.tup [.agg [bT (decide (((gR (r.extract 1 r.size)).1).num<0)),aM (((gR (r.extract 1 r.size)).1).num.natAbs),aM (((gR (r.extract 1 r.size)).1).den)],iT 0]) Z Z Z (ar Z (by have h:=yv (r.extract 1 r.size) (by simp only[MO];omega);rw[Ic o]at h;exact h) Z Z)<|aa 6 Z<|ag<|ab<|aj 3 Z<|ab<|ae<|aa 2 Z<|af (t:=bT (decide (0=0))) Z Z Z (ah (ai Z Z Z Zy) (av (lY 0 0)))<|aa 2 Z<|ag<|aC<|⟨.inr Z,_,.cons ⟨_,_,_,_,Z,Z,.inl ⟨_,ez,Z,Z⟩⟩ (.cons Z .nil),by unfold cE;rw[<-a];dsimp only;rw[if_neg (by rw[g];exact MR),if_neg (by rw[f];exact MR),if_pos o];rfl,Z⟩
  refine ae<|aa 1 Z<|af (t:=sT (r.extract 1 r.size)) Z Z Z (fa (l:=1) (h:=r.size) Z a8 Z ⟨_,Z⟩ Z (by omega) (by omega))<|af (t:=.tup [.agg [bT false,aM 0,aM 0],iT ((gR (r.extract 1 r.size)).2)]) Z Z Z (ar Z (by have h:=yv (r.extract 1 r.size) (by simp only[MO];omega);rw[Gb o]at h;exact h) Z Z)<|aa 6 Z<|ag<|ab<|aj 3 Z<|ab<|ae<|aa 2 Z<|af (t:=bT (((gR (r.extract 1 r.size)).2)==0)) Z Z Z (ai Z Z Z Zy)<|aa 2 Z<|ag<|aC<|⟨.inr Z,_,.cons ⟨_,_,_,_,Z,Z,.inl ⟨_,ez,Z,Z⟩⟩ (.cons Z .nil),by unfold cE;rw[<-a];dsimp only;rw[if_neg (by rw[g];exact MR),if_neg (by rw[f];exact MR),if_neg o,beq_eq_false_iff_ne.2 o];rfl,Z⟩
 have i:Lib.hasPrefix r.data.toList [44]=true:=by simpa using k
 have z:=nR i;rw[if_pos i]at a;refine ax<|ae<|aa 1 Z<|af (t:=sT (r.extract 1 r.size)) Z Z Z (fa (l:=1) (h:=r.size) Z a8 Z ⟨_,Z⟩ Z (by omega) (by omega))<|aa 1 Z<|ag<|⟨_,_,?_,⟨r.extract 1 r.size,d++[v],m,?_,Z,Z⟩,⟨Z,Z,Z,.cons Z Z (.cons Z Z (.cons Z Z (.cons Z Z .nil))),Z⟩⟩
 ·simp only[MO];omega
 refine⟨ri y _ _,by simp only[MO];omega,by simp only[MO,Mc,Mb,Mo];omega,a⟩
def Rel.zero:Rel:=⟨⟨⟨#[]⟩,false,[]⟩,[]⟩
def jF(x:LR):Tp:=⟨x.vs,cF x.b x.N x.D⟩
noncomputable def cG (cert:Bool):List ByteArray->Nat->Rel->Rel×Nat×Int
 |[],_,r=>(r,0,0)
 |l::ls,i,r=>if(l.toList==(⟨#[]⟩:ByteArray).toList)=true then cG cert ls (i+1) r
  else if(cE l cert).ok=false then(Rel.zero,i,2)
  else if cJ r (jF (cE l cert))=0 then cG cert ls (i+1) (bD r (jF (cE l cert)))
  else(Rel.zero,i,cJ r (jF (cE l cert)))
noncomputable def fg (s:Sch) (b:List UInt8):Rel×Nat×Int:=if fF s=false then(Rel.zero,0,1)else if 16384<b.length then(Rel.zero,0,4)else cG s.cert (cL ⟨b.toArray⟩) 0 ⟨s,[]⟩
def KJ(x:Rel×Nat×Int):Tree:=.tup [x.1.tree,.sc (.int .i64 (x.2.1:Nat)),.sc (.int .i64 x.2.2)]
theorem yC{R:Rel}{i:Nat}{e:Int}{x:Rel×Nat×Int}(h:x=(R,i,e)):(Tree.tup [R.tree,iT (i:Nat),iT e])=KJ x:=by rw[h];rfl
theorem ww{cert:Bool}{L:List ByteArray}{i:Nat}{l:ByteArray}{r:Rel}(h:L[i]? =some l):cG cert (L.drop i) i r=if(l.toList==(⟨#[]⟩:ByteArray).toList)=true then cG cert (L.drop (i+1)) (i+1) r
  else if(cE l cert).ok=false then(Rel.zero,i,2)
  else if cJ r (jF (cE l cert))=0 then cG cert (L.drop (i+1)) (i+1) (bD r (jF (cE l cert)))
  else(Rel.zero,i,cJ r (jF (cE l cert))):=by
 obtain⟨a,rfl⟩:=L7.1 h;rw[Md a,cG]
theorem pe(sep:ByteArray)(a:Nat):∀(k:Nat) (s x:ByteArray),x∈Lib.splitB sep a k s->x.size<=s.size
 |0,s,x,h=>by
  rw[Lib.splitB,Ml]at h;rw[h];exact L5 _
 |k+1,s,x,h=>by
  unfold Lib.splitB at h;split at h
  ·rw[Ml]at h;rw[h];exact L5 _
  rcases Mi.1 h with rfl|h
  ·simp only[MO];omega
  have:=pe sep a k _ x h;simp only[MO]at this;omega
theorem tm(sep:ByteArray)(a:Nat):∀(k:Nat) (s x:ByteArray),tN s.data.toList=true->x∈Lib.splitB sep a k s->tN x.data.toList=true
 |0,s,x,ha,h=>by
  rw[Lib.splitB,Ml]at h;rw[h];exact ha
 |k+1,s,x,ha,h=>by
  unfold Lib.splitB at h;split at h
  ·rw[Ml]at h;rw[h];exact ha
  rcases Mi.1 h with rfl|h
  ·exact ri ha _ _
  exact tm sep a k _ x (ri ha _ _) h
theorem AM(s:ByteArray):(cL s).length=Lib.countB s ⟨#[10]⟩+1/\Lib.countB s ⟨#[10]⟩<=s.size:=⟨Lib.splitB_all ⟨#[10]⟩ (by decide) 0 _ s Z,Lib.countB_le ⟨#[10]⟩ (by decide) _ s (L5 _)⟩
theorem uT:∀(n:Nat) (s:ByteArray) (a vs:List V) (r:ByteArray),j0 n s a=some (vs,r)->vs.length<=a.length+s.size+1/\r.size<=s.size
 |0,_,_,_,_,h=>by rw[j0]at h;cases h
 |n+1,s,a,vs,r,h=>by
  rw[j0]at h;cases b:jD (s.extract 0 (jE s))with
  |none=>rw[b]at h;cases h
  |some v=>
   rw[b]at h;dsimp only at h;split at h
   ·next hx=>
    have c:=nR hx;have:=uT n _ _ _ _ h;simp only[MO,Mc,NL]at this c;omega
   injection h with h
   injection h with d e
   rw[<-d,<-e];simp only[MO,Mc,NL];omega
theorem AN(s:ByteArray):Fit 4001 (gR s).1:=by
 have e:Fit 4001 (0:Rat):=⟨by decide,by decide⟩;unfold gR;split
 ·exact e
 next h4=>
 have l:(eT s).size<=4000:=by unfold eT;split<;>first|omega|(simp only[MO];omega)
 unfold lC;have f:=FH (eT s).data.toList;rw[<-bN]at f;have b:((eT s).extract 0 (tO (eT s).data.toList)).data.toList.all dK=true:=by rw[kM,Nx];exact yo _
 generalize g:tO (eT s).data.toList=n at f b⊢;generalize j:(eT s).extract (n+1) (eT s).size=r;have k:r.size<=(eT s).size-(n+1):=by rw[<-j];simp only[MO];omega
 have i:((eT s).extract 0 n).size<=n:=by simp only[MO];omega
 split
 ·exact e
 next hz=>
 split
 ·next hfl=>exact mO (D:=1) (by decide) (gD (rh (by rw[<-bN,g];exact hfl)) (by rw[<-bN];omega)) (by decide)
 next hfl=>
 split
 ·exact e
 next a=>
 have a:mo (ck (eT s) n) r=false:=by simpa using a
 have c:r.data.toList.all dK=true:=rh (by have h:=a;unfold mo at h;rw[Mz]at h;rw[<-bN];simpa using h.2);have d:((eT s).extract 0 n++r).data.toList.all dK=true:=by rw[Pr,Nv,NX,b,c];rfl
 split
 ·exact mO (D:=10^r.size) (NN (by decide)) (gD d (by rw[<-bN,NM];omega)) (tg (by omega))
 split
 ·exact e
 next hz=>exact mO (D:=eB r.data.toList) (by omega) (gD b (by rw[<-bN];omega)) (gD c (by rw[<-bN];omega))
theorem Ge{l:ByteArray}{cert:Bool}(h:(cE l cert).ok=true):(cE l cert).b=decide ((jF (cE l cert)).prob.num<0)/\(cE l cert).N=(jF (cE l cert)).prob.num.natAbs/\(cE l cert).D=(jF (cE l cert)).prob.den/\Fit 4001 (jF (cE l cert)).prob:=by
 unfold jF;unfold cE at h⊢;have key:∀q:Rat,Fit 4001 q->decide (q.num<0)=decide ((cF (decide (q.num<0)) q.num.natAbs q.den).num<0)/\q.num.natAbs=(cF (decide (q.num<0)) q.num.natAbs q.den).num.natAbs/\q.den=(cF (decide (q.num<0)) q.num.natAbs q.den).den/\Fit 4001 (cF (decide (q.num<0)) q.num.natAbs q.den):=fun q a=>by
  rw[fd];exact⟨Z,Z,Z,a⟩
 split at h
 ·cases h
 split at h
 ·next h1=>simp only[if_pos h1];exact key 1 ⟨by decide,by decide⟩
 next h1=>
 split at h
 ·cases h
 next h2=>
 split at h
 ·next h3=>simp only[if_neg h1,if_neg h2,if_pos h3];exact key _ (AN _)
 cases h
theorem Gf{l:ByteArray}{cert:Bool}:(cE l cert).vs.length<=l.size+1:=by
 unfold cE;split
 ·simp
 next vs r h=>
 have a:=(uT _ _ _ _ _ h).1;simp only[Mo]at a;split
 ·dsimp only;omega
 split
 ·simp
 split<;>(dsimp only;omega)
theorem If{q:Rat}{vs:List V}(h:Fit 4001 q):FitT ⟨vs,q⟩:=⟨h.mono (by decide),(oS (a:=1) ⟨by decide,by decide⟩ h).mono (by decide)⟩
theorem DI{w0:World}{G0:Nat->Prop}{c:Code}{Q:Exit->St->Prop}{n:Nat}{sl:List (Nat×Tree)}{bs bs':List (TypeId×List Tree)}{rs:List (Option Row)}(h:bs=bs')(k:AWP w0 G0 c Q ⟨n,sl,bs',rs⟩):AWP w0 G0 c Q ⟨n,sl,bs,rs⟩:=h▸k
theorem AP{r:Rel}{t:Tp}(h:cJ r t=0):r.tups.length<=64:=by
 refine nN (r:=r) ?_;unfold cJ at h;split at h
 ·exact h
 next h1=>exact NE.1 h1
theorem lE:gE Tryz.prog 59=some (9,1):=by kernel_rfl
theorem mX(s:Sch)(b:List UInt8)(P:tN b=true):Ct 10 [s.tree,.sl (bg b)] (KJ (fg s b)):=by
 refine Ct.of (n:=65) Tryz.func10 Z Z Z Z Z fun w0 G0=>?_
 refine ab<|aj 4 Z<|ab<|ab<|ae<|aa 1 Z<|af Z Z Z (ar Z (jz s) Z Z)<|af (t:=bT (!(fF s))) Z Z Z (ef Z Z Zy)<|ag<|aH Z (fun m=>?_) (fun m=>?_)
 ·refine ab<|aj 4 Z<|aC<|⟨.inr Z,_,.cons ⟨_,_,_,_,Z,Z,.inl ⟨_,bq,Z,Z⟩⟩ (.cons Z (.cons Z .nil)),yC (R:=Rel.zero) (i:=0) (e:=1) (x:=fg s b) (by unfold fg;rw[if_pos (by simpa using m)]),Z⟩
 have d:fF s=true:=by simpa using m
 have N:=jk d;refine ax<|ab<|ab<|ae<|aa 1 Z<|af (t:=nI b.length) Z Z Z (ah (bd Z df Z) (by simp only[a7]))<|af (t:=bT (decide (16384<b.length))) Z Z Z (ah (ai Z Z Z Zy) (av (tE b.length 16384)))<|ag<|aF Z (fun u=>?_) (fun u=>?_)
 ·refine ab<|aj 4 Z<|aC<|⟨.inr Z,_,.cons ⟨_,_,_,_,Z,Z,.inl ⟨_,bq,Z,Z⟩⟩ (.cons Z (.cons Z .nil)),yC (R:=Rel.zero) (i:=0) (e:=4) (x:=fg s b) (by unfold fg;rw[if_neg (by rw[d];simp),if_pos u]),Z⟩
 refine ax<|ab<|aj 4 Z<|ab<|ae<|aa 2 Z<|af Z Z Z (ar Z (uy _ (by omega)) Z Z)<|aa 3 Z<|ag<|ab<|ab ?_;obtain⟨c,g⟩:∃c:ByteArray,(⟨b.toArray⟩:ByteArray)=c:=⟨_,rfl⟩;have M:c.size=b.length:=by rw[<-g];simp[ByteArray.size]
 have E:=AM c;have q:fg s b=cG s.cert (cL c) 0 ⟨s,[]⟩:=by unfold fg;rw[if_neg (by rw[d];simp),if_neg u,g]
 refine ae<|aa 1 Z<|af (t:=sT c) Z Z Z (ah (pA Z Z) (o9 g))<|af Z Z Z (ar Z (F9 c (by omega) E.1 (by omega)) Z Z)<|af (t:=nI ((cL c).length)) Z Z Z (ah (bd Z lE Z) (by simp only[L8]))<|aa 1 Z<|ag<|aE<|aW (fun G K=>∃(i:Nat) (r:Rel),(i<=(cL c).length/\FitR r/\cG s.cert ((cL c).drop i) i r=cG s.cert (cL c) 0 ⟨s,[]⟩)/\G=(cL c).length-i/\K=⟨65,[(2,.box 0 0),(4,.box 1 0),(7,.box 2 0),(31,.sl ((cL c).map jf)),(32,nI ((cL c).length)),(33,nI i)],[(26,(dq s)),(30,dS),(30,(aT r))],[]⟩) 3 0 ⟨0,⟨s,[]⟩,⟨by omega,⟨by show s.cols.length<=_;omega,by simp,fun t C=>by cases C⟩,Z⟩,Z,Z⟩ ⟨Z,Z,Z,.cons Z Z (.cons Z Z (.cons Z Z (.cons Z Z (.cons Z Z (.cons Z Z .nil))))),Z⟩ ?_;rintro G K ⟨i,r,⟨Q,B,a⟩,rfl,rfl⟩;refine ab<|ae<|af (t:=bT (decide (i<(cL c).length))) Z Z Z (ah (ai Z Z Z Zy) (av (iu i ((cL c).length))))<|ag<|ab<|aF Z (fun w=>?_) (fun w=>?_)
 ·obtain⟨l,h⟩:∃l,(cL c)[i]? =some l:=⟨_,L4 w⟩;have O:l.size<=c.size:=pe _ _ _ _ _ (L9 h);have D:tN l.data.toList=true:=tm _ _ _ _ _ (by rw[<-g];exact P) (L9 h);rw[ww h]at a;refine ax<|ab<|aE<|ab<|ae<|aa 1 Z<|af (t:=.ref [sT l]) Z Z Z (aQ (jf l) Z lE Z Z Z (bf (f:=jf) h) (uS _) Z)<|aa 3 Z<|ag<|ab<|ab<|ae<|aa 1 Z<|af (t:=bT (l.toList==(⟨#[]⟩:ByteArray).toList)) Z Z Z (ah (ai Z Z Z Zy) (av Z))<|ag<|aH Z (fun p=>?_) (fun p=>?_)
  ·rw[if_pos p]at a;refine aZ<|ae<|af (t:=nI (i+1)) Z Z Z (ah (ai Z Z Z Zy) (bu (by omega)))<|aa 1 Z<|ag<|⟨_,_,?_,⟨i+1,r,?_,Z,Z⟩,⟨Z,Z,Z,.cons Z Z (.cons Z Z (.cons Z Z (.cons Z Z (.cons Z Z (.cons Z Z .nil))))),Z⟩⟩
   ·omega
   exact⟨by omega,B,a⟩
  rw[if_neg (by rw[p];exact MR)]at a;refine ax<|ab<|ae<|aa 3 Z<|af Z Z Z (ar Z (Ie l s.cert (by omega) D) Z Z)<|aa 6 Z<|ag<|ab<|ab<|ae<|aa 1 Z<|af (t:=bT (!((cE l s.cert).ok))) Z Z Z (ef Z Z Zy)<|ag<|aH Z (fun o=>?_) (fun o=>?_)
  ·refine ab<|aj 5 Z<|aC<|⟨.inr Z,_,.cons ⟨_,_,_,_,Z,Z,.inl ⟨_,bq,Z,Z⟩⟩ (.cons Z (.cons Z .nil)),yC (R:=Rel.zero) (i:=i) (e:=2) (x:=fg s b) (by rw[q,<-a,if_pos (by simpa using o)]),Z⟩
  have y:(cE l s.cert).ok=true:=by simpa using o
  rw[if_neg (by rw[y];simp)]at a;obtain⟨J,L,H,F⟩:=Ge y;have j:(jF (cE l s.cert)).vals.length<=65536:=by have:=Gf (l:=l) (cert:=s.cert);show(cE l s.cert).vs.length<=_;omega
  have I:(cE l s.cert).vs=(jF (cE l s.cert)).vals:=rfl;obtain⟨t,C⟩:∃t,jF (cE l s.cert)=t:=⟨_,rfl⟩;rw[C]at I J L H F j a;have k:FitT t:=If (vs:=t.vals) F;refine DI (bs':=[(26,(dq s)),(30,dS),(30,(aT r)),(67,(bS t))]) (by rw[I,J,L,H]<;>rfl)<|ax<|ab ?_;by_cases v:cJ r t=0
  ·rw[if_pos v]at a;refine ae<|aa 2 Z<|af Z Z Z (ar Z (Df r t B k j v) Z Z)<|aa 6 Z<|ag<|ab<|ab<|ae<|aa 1 Z<|af (t:=bT (decide (0≠0))) Z Z Z (ah (ai Z Z Z Zy) (av (wD 0 0)))<|ag<|aF Z (fun A=>?_) (fun A=>?_)
   ·exact absurd Z A
   refine ax<|aj 2 Z<|ae<|af (t:=nI (i+1)) Z Z Z (ah (ai Z Z Z Zy) (bu (by omega)))<|aa 1 Z<|ag<|⟨_,_,?_,⟨i+1,(bD r t),?_,Z,Z⟩,⟨Z,Z,Z,.cons Z Z (.cons Z Z (.cons Z Z (.cons Z Z (.cons Z Z (.cons Z Z .nil))))),Z⟩⟩
   ·omega
   exact⟨by omega,(yk B k j (AP v)).1,a⟩
  rw[if_neg v]at a;refine ae<|aa 2 Z<|af Z Z Z (ar Z (Al r t B k j v) Z Z)<|aa 6 Z<|ag<|ab<|ab<|ae<|aa 1 Z<|af (t:=bT ((cJ r t) !=0)) Z Z Z (ai Z Z Z Zy)<|ag<|aH Z (fun z=>?_) (fun z=>?_)
  ·refine ab<|aj 6 Z<|aC<|⟨.inr Z,_,.cons ⟨_,_,_,_,Z,Z,.inl ⟨_,bq,Z,Z⟩⟩ (.cons Z (.cons Z .nil)),yC (R:=Rel.zero) (i:=i) (e:=cJ r t) (x:=fg s b) (by rw[q,<-a]),Z⟩
  exact absurd (by simpa using z) v
 refine aZ<|ab<|aj 4 Z<|aC<|⟨.inr Z,_,.cons ⟨_,_,_,_,Z,Z,.inl ⟨_,bq,Z,Z⟩⟩ (.cons Z (.cons Z .nil)),yC (R:=r) (i:=0) (e:=0) (x:=fg s b) (by rw[q,<-a,Mg (by omega)];rfl),Z⟩
def b7:Nat->List V->List UInt8
 |_,[]=>[]
 |i,v::vs=>(if 0<i then [44]else [])++(v.fmt++b7 (i+1) vs)
def pg(cert:Bool)(t:Tp):List UInt8:=b7 0 t.vals++((if cert then []else 58::(gF t.prob).data.toList)++[10])
def Gg(r:Rel):List UInt8:=r.tups.flatMap (pg r.sch.cert)
def j1(r:Rel):List UInt8:=if bm r=0 then Gg r else []
theorem yD{vs:List V}{j:Nat}{v:V}(h:vs[j]? =some v):b7 j (vs.drop j)=(if 0<j then [44]else [])++(v.fmt++b7 (j+1) (vs.drop (j+1))):=by
 obtain⟨a,rfl⟩:=L7.1 h;rw[Md a,b7]
theorem AQ{cert:Bool}{ts:List Tp}{i:Nat}{t:Tp}(h:ts[i]? =some t):(ts.drop i).flatMap (pg cert)=pg cert t++(ts.drop (i+1)).flatMap (pg cert):=by
 obtain⟨a,rfl⟩:=L7.1 h;rw[Md a,OD]
theorem fq(a b:List UInt8):bg (a++b)=bg a++bg b:=by simp[bg]
theorem LV{a b:List UInt8}(h:a=b):(Tree.sl (bg a))=.sl (bg b):=by rw[h]
theorem yE(v:V)(h:v.rng):v.fmt.length<=130:=by
 unfold V.fmt;cases a:be v.t v.n v.s with
 |true=>exact(Ck a h.1 h.2).2
 |false=>unfold cB;rw[a];simp
structure TxT (t:Tp):Prop where
 rng:∀v∈t.vals,v.rng
 num:(qM t.prob.num.natAbs).size<=8192
 den:(qM t.prob.den).size<=8192
theorem mq{t:Tp}(h:TxT t):(gF t.prob).size<=16400:=by
 have c:=h.num;have b:=h.den;have a:(yq t.prob).size<=8193:=by
  unfold yq;split
  ·rw[NM];show 1+_<=_;omega
  omega
 unfold gF;split
 ·omega
 rw[NM,NM];show _+(1+_)<=_;omega
theorem qB{r:Rel}(h:bm r=0):∀t∈r.tups,t.vals.length<=6:=fun t a=>by
 have b:=ek (fN (ml h) t a);have:=jk b.2.2.1;omega
theorem tn:(Tryz.prog.info? 5).bind (·.zero)=some (.int .u8 0):=by kernel_rfl
theorem tq(r:Rel)(I:FitR r)(G:∀t∈r.tups,TxT t):Ct 16 [r.tree] (.sl (bg (j1 r))):=by
 refine Ct.of (n:=53) Tryz.func16 Z Z Z Z Z fun w0 G0=>?_
 refine ab<|ae<|aa 1 Z<|af (t:=.sl []) Z Z Z (cW (.inr Z) dI)<|ag<|ab<|ab<|ae<|aa 1 Z<|af Z Z Z (ar Z (qq r I) Z Z)<|af (t:=bT ((bm r) !=0)) Z Z Z (ai Z Z Z Zy)<|ag<|aH Z (fun A=>?_) (fun A=>?_)
 ·have c:¬bm r=0:=by simpa using A
  refine ab<|ae<|af (t:=.sl []) Z Z Z (cW (.inr Z) dI)<|ag<|aC<|⟨.inr Z,_,.cons Z .nil,LV (a:=[]) (by unfold j1;rw[if_neg c]),Z⟩
 have c:bm r=0:=by simpa using A
 have J:=nN c;refine ax<|ab<|ae<|g7 (k:=0) (e:=5) (sz:=1) (rs':=[some ⟨5,1,bg [],false⟩]) (.inr Z) Z Z Z Z Z<|ag<|ab<|ab<|ae<|aa 2 Z<|af (t:=nI r.tups.length) Z Z Z (ah (bd Z aK Z) (by simp only[L8]))<|aa 1 Z<|ag<|aE<|aW (fun C D=>∃(i:Nat) (d:List UInt8),(i<=r.tups.length/\d.length<=i*20000/\d++(r.tups.drop i).flatMap (pg r.sch.cert)=Gg r)/\C=r.tups.length-i/\D=⟨53,[(1,.box 0 0),(3,.own 0),(12,.sl (r.tups.map Tp.tree)),(13,nI r.tups.length),(14,nI i)],[(30,(aT r))],[some ⟨5,1,bg d,false⟩]⟩) 1 1 ⟨0,[],⟨by omega,by simp,Z⟩,Z,Z⟩ ⟨Z,Z,Z,.cons Z Z (.cons Z Z (.cons Z Z (.cons Z Z (.cons Z Z .nil)))),Z⟩ ?_;rintro C D ⟨i,d,⟨N,H,h⟩,rfl,rfl⟩;refine ab<|ae<|af (t:=bT (decide (i<r.tups.length))) Z Z Z (ah (ai Z Z Z Zy) (av (iu i r.tups.length)))<|ag<|ab<|aF Z (fun E=>?_) (fun E=>?_)
 ·obtain⟨t,x⟩:∃t,r.tups[i]? =some t:=⟨_,L4 E⟩;have z:=L9 x;have m:=G t z;have K:=qB c t z;rw[AQ x]at h;refine ax<|ab<|aE<|ab<|ae<|af (t:=.ref (bS t)) Z Z Z (aQ (Tp.tree t) Z aK Z Z Z (bf (f:=Tp.tree) x) (bQ _) Z)<|aa 3 Z<|ag<|ab<|ab<|ae<|aa 2 Z<|af (t:=nI t.vals.length) Z Z Z (ah (bd Z bz Z) (by simp only[L8]))<|aa 1 Z<|ag<|aE<|aW (fun C D=>∃(j:Nat) (g:List UInt8),(j<=t.vals.length/\g.length<=d.length+j*131/\g++b7 j (t.vals.drop j)=d++b7 0 t.vals)/\C=t.vals.length-j/\D=⟨53,[(1,.box 0 0),(3,.own 0),(5,.box 1 0),(12,.sl (r.tups.map Tp.tree)),(13,nI r.tups.length),(14,nI i),(19,.sl (t.vals.map V.tree)),(20,nI t.vals.length),(21,nI j)],[(30,(aT r)),(67,(bS t))],[some ⟨5,1,bg g,false⟩]⟩) 2 1 ⟨0,d,⟨by omega,by simp,Z⟩,Z,Z⟩ ⟨Z,Z,Z,.cons Z Z (.cons Z Z (.cons Z Z (.cons Z Z (.cons Z Z (.cons Z Z (.cons Z Z (.cons Z Z (.cons Z Z .nil)))))))),Z⟩ ?_;rintro C D ⟨j,g,⟨M,L,b⟩,rfl,rfl⟩;refine ab<|ae<|af (t:=bT (decide (j<t.vals.length))) Z Z Z (ah (ai Z Z Z Zy) (av (iu j t.vals.length)))<|ag<|ab<|aF Z (fun B=>?_) (fun B=>?_)
  ·obtain⟨v,y⟩:∃v,t.vals[j]? =some v:=⟨_,L4 B⟩;have o:=m.rng v (L9 y);have F:=yE v o;rw[yD y]at b;refine ax<|ab<|aE<|ab<|ae<|aa 1 Z<|af (t:=.ref [iT v.t,iT v.n,sT v.s]) Z Z Z (aQ (V.tree v) Z bz Z Z Z (bf (f:=V.tree) y) (iZ _) Z)<|aa 4 Z<|ag<|ab<|ab<|ae<|aa 1 Z<|af (t:=bT (decide (0<j))) Z Z Z (ah (ai Z Z Z Zy) (av (tE j 0)))<|ag<|aF Z (fun w=>?_) (fun w=>?_)
   ·rw[if_pos w]at b;refine ae<|aa 1 rfl<|af (t:=.sl [.sc (.int .u8 44)]) rfl rfl rfl (a6 rfl df jm rfl (by decide) (by decide) rfl rfl rfl rfl rfl)<|cD (bs':=[(30,(aT r)),(67,(bS t)),(77,[iT v.t,iT v.n,sT v.s])]) (rs':=[some ⟨5,1,bg (g++[44]),false⟩]) rfl rfl rfl rfl eS rfl rfl rfl rfl (by intro e l;simp only[Mi,Nr,or_false]at l;subst l;rfl) (AllC.lit rfl) (AllC.lit rfl) (by simp only[a7,Mb,Mo];omega) rfl rfl rfl (by simp only[fq];rfl)<|aa 1 rfl<|ag<|ae<|aa 2 rfl<|af rfl rfl rfl (ar rfl (Cl v o) rfl rfl)<|j6 (bs':=[(30,(aT r)),(67,(bS t)),(77,[iT v.t,iT v.n,sT v.s])]) (rs':=[some ⟨5,1,bg ((g++[44])++v.fmt),false⟩]) rfl rfl rfl rfl eS tn a8 rfl rfl rfl rfl (by simp only[a7,Mc,Mb,Mo];first|omega|(show _+v.fmt.length<=_;omega)) rfl rfl (by simp only[fq];rfl)<|aa 1 rfl<|ag<|ae<|af (t:=nI (j+1)) rfl rfl rfl (ah (ai rfl rfl rfl Zy) (bu (by omega)))<|aa 1 rfl<|ag<|⟨_,_,?_,⟨j+1,((g++[44])++v.fmt),?_,rfl,rfl⟩,⟨rfl,rfl,rfl,.cons rfl rfl (.cons rfl rfl (.cons rfl rfl (.cons rfl rfl (.cons rfl rfl (.cons rfl rfl (.cons rfl rfl (.cons rfl rfl (.cons rfl rfl .nil)))))))),rfl⟩⟩
    ·omega
    refine⟨by omega,?_,?_⟩
    ·simp only[Mc,Mb,Mo];omega
    rw[<-b];simp
   rw[if_neg w,M6]at b;refine ax<|ae<|aa 2 Z<|af Z Z Z (ar Z (Cl v o) Z Z)<|j6 (bs':=[(30,(aT r)),(67,(bS t)),(77,[iT v.t,iT v.n,sT v.s])]) (rs':=[some ⟨5,1,bg (g++v.fmt),false⟩]) Z Z Z Z eS tn a8 Z Z Z Z (by simp only[a7];first|omega|(show _+v.fmt.length<=_;omega)) Z Z (by simp only[fq];rfl)<|aa 1 Z<|ag<|ae<|af (t:=nI (j+1)) Z Z Z (ah (ai Z Z Z Zy) (bu (by omega)))<|aa 1 Z<|ag<|⟨_,_,?_,⟨j+1,(g++v.fmt),?_,Z,Z⟩,⟨Z,Z,Z,.cons Z Z (.cons Z Z (.cons Z Z (.cons Z Z (.cons Z Z (.cons Z Z (.cons Z Z (.cons Z Z (.cons Z Z .nil)))))))),Z⟩⟩
   ·omega
   refine⟨by omega,?_,?_⟩
   ·simp only[Mc];omega
   rw[<-b];simp
  rw[Mg (by omega:t.vals.length<=j),show b7 j []=[]from by cases j<;>rfl,MA]at b;refine aZ<|ab<|ab<|ae<|aa 3 Z<|af (t:=bT (!r.sch.cert)) Z Z Z (ef Z Z Zy)<|ag<|aH Z (fun u=>?_) (fun u=>?_)
  ·have q:r.sch.cert=false:=by simpa using u
   refine ab<|ae<|aa 1 rfl<|af (t:=.sl [.sc (.int .u8 58)]) rfl rfl rfl (a6 rfl df jm rfl (by decide) (by decide) rfl rfl rfl rfl rfl)<|cD (bs':=[(30,(aT r)),(67,(bS t))]) (rs':=[some ⟨5,1,bg (g++[58]),false⟩]) rfl rfl rfl rfl eS rfl rfl rfl rfl (by intro e l;simp only[Mi,Nr,or_false]at l;subst l;rfl) (AllC.lit rfl) (AllC.lit rfl) (by simp only[a7,Mb,Mo];omega) rfl rfl rfl (by simp only[fq];rfl)<|aa 1 rfl<|ag<|ae<|aa 3 rfl<|af rfl rfl rfl (ar rfl (DB t.prob (I.tup t z).1.p (by have:=m.num;omega) (by have:=m.den;omega)) rfl rfl)<|j6 (bs':=[(30,(aT r)),(67,(bS t))]) (rs':=[some ⟨5,1,bg ((g++[58])++(gF t.prob).data.toList),false⟩]) rfl rfl rfl rfl eS tn a8 rfl rfl rfl rfl (by have:=mq m;have e:(gF t.prob).data.toList.length=(gF t.prob).size:=(by simp);simp only[a7,Mc,Mb,Mo];omega) rfl rfl (by simp only[fq];rfl)<|aa 1 rfl<|ag<|ae<|aa 1 rfl<|af (t:=.sl [.sc (.int .u8 10)]) rfl rfl rfl (a6 rfl df jm rfl (by decide) (by decide) rfl rfl rfl rfl rfl)<|cD (bs':=[(30,(aT r)),(67,(bS t))]) (rs':=[some ⟨5,1,bg (((g++[58])++(gF t.prob).data.toList)++[10]),false⟩]) rfl rfl rfl rfl eS rfl rfl rfl rfl (by intro e l;simp only[Mi,Nr,or_false]at l;subst l;rfl) (AllC.lit rfl) (AllC.lit rfl) (by have:=mq m;have e:(gF t.prob).data.toList.length=(gF t.prob).size:=(by simp);simp only[a7,Mc,Mb,Mo,e];omega) rfl rfl rfl (by simp only[fq];rfl)<|aa 1 rfl<|ag<|ae<|af (t:=nI (i+1)) rfl rfl rfl (ah (ai rfl rfl rfl Zy) (bu (by omega)))<|aa 1 rfl<|ag<|⟨_,_,?_,⟨i+1,(((g++[58])++(gF t.prob).data.toList)++[10]),?_,rfl,rfl⟩,⟨rfl,rfl,rfl,.cons rfl rfl (.cons rfl rfl (.cons rfl rfl (.cons rfl rfl (.cons rfl rfl .nil)))),rfl⟩⟩
   ·omega
   refine⟨by omega,?_,?_⟩
   ·have:=mq m;have e:(gF t.prob).data.toList.length=(gF t.prob).size:=by simp
    simp only[Mc,Mb,Mo,e];omega
   rw[<-h];unfold pg;rw[q,b];simp
  have q:r.sch.cert=true:=by simpa using u
  refine ax<|ae<|aa 1 rfl<|af (t:=.sl [.sc (.int .u8 10)]) rfl rfl rfl (a6 rfl df jm rfl (by decide) (by decide) rfl rfl rfl rfl rfl)<|cD (bs':=[(30,(aT r)),(67,(bS t))]) (rs':=[some ⟨5,1,bg (g++[10]),false⟩]) rfl rfl rfl rfl eS rfl rfl rfl rfl (by intro e l;simp only[Mi,Nr,or_false]at l;subst l;rfl) (AllC.lit rfl) (AllC.lit rfl) (by have:=mq m;have e:(gF t.prob).data.toList.length=(gF t.prob).size:=(by simp);simp only[a7,Mb,Mo];omega) rfl rfl rfl (by simp only[fq];rfl)<|aa 1 rfl<|ag<|ae<|af (t:=nI (i+1)) rfl rfl rfl (ah (ai rfl rfl rfl Zy) (bu (by omega)))<|aa 1 rfl<|ag<|⟨_,_,?_,⟨i+1,(g++[10]),?_,rfl,rfl⟩,⟨rfl,rfl,rfl,.cons rfl rfl (.cons rfl rfl (.cons rfl rfl (.cons rfl rfl (.cons rfl rfl .nil)))),rfl⟩⟩
  ·omega
  refine⟨by omega,?_,?_⟩
  ·have:=mq m;have e:(gF t.prob).data.toList.length=(gF t.prob).size:=by simp
   simp only[Mc,Mb,Mo];omega
  rw[<-h];unfold pg;rw[q,b];simp
 refine fD 0 (bs':=[(30,(aT r))]) (rs':=[none]) Z Z Z Z<|aZ<|ab<|aj 2 Z<|aC<|⟨.inr Z,_,.cons Z .nil,LV (by unfold j1;rw[if_pos c,<-h,Mg (by omega)];simp),Z⟩
end Go.Proofs.YtfoejfohbkmmeaaGreatDoor
