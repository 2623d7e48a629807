import Derived.Test.YtfoejfohbkmmeaaGreatDoorU41
import Derived.Test.YtfoejfohbkmmeaaGreatDoorU11
import Derived.Test.YtfoejfohbkmmeaaGreatDoorU08
import Derived.Test.YtfoejfohbkmmeaaGreatDoorU00
import Derived.Lib.SplitLaws
set_option maxRecDepth 100000
set_option maxHeartbeats 4000000
namespace Go.Proofs.YtfoejfohbkmmeaaGreatDoor
open Go.RowKit
open Lib renaming hid→J
def V.fmt(v:V):List UInt8:=cB v.t v.n v.s
def V.rng(v:V):Prop:= -9223372036854775808<=v.n/\v.n<=9223372036854775807
def V.zero:V:=⟨0,0,⟨#[]⟩⟩
def wt(s:ByteArray)(v:V):Prop:=v.ok=true/\v.rng/\s.data.toList=v.fmt
noncomputable def jD (s:ByteArray):Option V:=open Classical in if h:∃v:V,wt s v then some (Classical.choose h)else none
theorem qz{s:ByteArray}{v:V}(h:jD s=some v):wt s v:=by
 unfold jD at h;split at h
 ·next h1=>
  injection h with h
  rw[<-h];exact Classical.choose_spec h1
 cases h
theorem qA{s:ByteArray}(h:jD s=none)(v:V):¬wt s v:=fun a=>by
 unfold jD at h;split at h
 ·cases h
 next h1=>exact h1 ⟨v,a⟩
theorem Cl(v:V)(h:v.rng):Ct 46 [v.tree] (.sc (.string ⟨v.fmt.toArray⟩)):=Ct.sc ⟨_,Tryz.func46,Z,Z⟩ fun G w vs b _ a=>by
 obtain⟨u,rfl,c⟩:=cR a;rw[zW c];exact hH v.t v.n v.s w h.1 h.2 b
theorem yA(s:ByteArray)(v:V)(i:s.size<=4294967280)(h:jD s=some v):Ct 76 [sT s] (.tup [v.tree,iT 0]):=⟨⟨_,Tryz.func76,Z,Z⟩,fun G w vs d _ f=>by
 obtain⟨u,rfl,a⟩:=cR f;cases a;obtain⟨a,b,c⟩:=qz h;refine(xG v.t v.n v.s s w i a c b.1 b.2 d).mono ?_;rintro e w' ⟨rfl,g⟩;exact⟨_,Z,.tup [.agg #[.int .i64 v.t,.int .i64 v.n,.string v.s],.int .i64 0] _ (.agg [.int .i64 v.t,.int .i64 v.n,.string v.s] _ (.sc _ (.sc _ (.sc _ .nil))) (.sc _ .nil)) .nil,g⟩⟩
theorem yB(s:ByteArray)(j:s.size<=4294967280)(h:jD s=none):Ct 76 [sT s] (.tup [V.zero.tree,iT 2]):=⟨⟨_,Tryz.func76,Z,Z⟩,fun G w vs c _ f=>by
 obtain⟨u,rfl,a⟩:=cR f;cases a;refine(un s w j (fun t n i d g a e=>qA h ⟨t,n,i⟩ ⟨d,⟨g,a⟩,e⟩) c).mono ?_;rintro e w' ⟨rfl,b⟩;exact⟨_,Z,.tup [.agg #[.int .i64 0,.int .i64 0,.string ⟨#[]⟩],.int .i64 2] _ (.agg [.int .i64 0,.int .i64 0,.string ⟨#[]⟩] _ (.sc _ (.sc _ (.sc _ .nil))) (.sc _ .nil)) .nil,b⟩⟩
def jf(s:ByteArray):Tree:=.sc (.string s)
theorem uS(l:List ByteArray):Sized 1 (l.map jf):=Sized.map _ l fun _=>rfl
def cL(s:ByteArray):List ByteArray:=Lib.splitB ⟨#[10]⟩ 0 (Lib.countB s ⟨#[10]⟩) s
theorem F6(W:World)(G:Nat->Prop):∀l:List ByteArray,PT W G (l.map Value.string) (flat (l.map jf))
 |[]=>.nil
 |_::l=>.sc _ (F6 W G l)
theorem F9(s:ByteArray)(p:s.size<=1048576)(b:(cL s).length=Lib.countB s ⟨#[10]⟩+1)(o:Lib.countB s ⟨#[10]⟩<=1048576):Ct 28 [sT s,.sc (.string ⟨#[10]⟩)] (.sl ((cL s).map jf)):=⟨⟨_,Tryz.func28,Z,Z⟩,fun G w vs d k g=>by
 obtain⟨u,x,rfl,l,n⟩:=eL g;cases l;cases n;obtain⟨m,i⟩:=d.maxLen;refine(Tryz.strings_Split s ⟨#[10]⟩ m w (by omega) i (by decide)).mono ?_;rintro e w' ⟨rfl,rfl⟩;have c:Below w.heap.size w (w.alloc (.cells ((cL s).map Value.string).toArray 9)):=(Below.refl _ _).alloc (L5 _) _;refine⟨_,Z,?_,c⟩;have a:=dP w 9 ((cL s).map Value.string).toArray;rw[<-b];refine .sl _ 0 _ _ ((cL s).map Value.string) _ a.lt (fun h=>?_) (fun j u f=>?_) (by simp) (by simp) (by omega) (F6 _ _ _) .nil
 ·have:=(k _ h).1;omega
 rw[M0];exact(a.cell j).trans (by simpa using f)⟩
theorem ri{s:ByteArray}(h:tN s.data.toList=true)(l k:Nat):tN (s.extract l k).data.toList=true:=by rw[kM];exact FF (FG h _) _
def kN:List UInt8->Nat->Nat
 |[],i=>i
 |[_],i=>i+1
 |c::d::l,i=>if c.toNat≠39 then kN (d::l) (i+1)else if d.toNat≠39 then i+1 else kN l (i+2)
theorem wu:∀(n:Nat) (l:List UInt8) (i:Nat),l.length<=n->kN l i<=i+l.length
 |_,[],i,_=>by simp[kN]
 |_,[_],i,_=>by simp[kN]
 |0,_::_::_,i,h=>by simp at h
 |n+1,c::d::l,i,h=>by
  simp only[Mb]at h;rw[kN];split
  ·have:=wu n (d::l) (i+1) (by simp only[Mb];omega);simp only[Mb]at this⊢;omega
  split
  ·simp only[Mb];omega
  have:=wu n l (i+2) (by omega);simp only[Mb];omega
def nQ(s:ByteArray):Bool:=Lib.hasPrefix s.data.toList [39]
def jE(s:ByteArray):Nat:=if nQ s then kN (s.data.toList.drop 1) 1 else if 0<=lK s.data.toList then(lK s.data.toList).toNat else s.size
theorem tk{s:ByteArray}(h:nQ s=true):1<=s.size:=by
 unfold nQ at h;rw[bN];cases e:s.data.toList with
 |nil=>rw[e]at h;simp[Lib.hasPrefix]at h
 |cons a l=>simp
theorem Ga{l:List UInt8}(h:0<=lK l):(lK l).toNat<l.length:=by
 unfold lK at h⊢;split at h
 ·next h1=>
  rw[if_pos h1];obtain⟨c,b,d⟩:=OI.1 h1;rw[Oq];have f:=(Ox (fun c:UInt8=> !(c==44||c==58)) (l:=l)).length_le;rcases MI (l.takeWhile fun c:UInt8=> !(c==44||c==58)).length l.length with a|a
  ·exact a
  have e:=(Ox (fun c:UInt8=> !(c==44||c==58)) (l:=l)).eq_of_length (by omega);rw[<-e]at b;have:=wl b;rw[d]at this;cases this
 exact absurd h (by decide)
theorem Ib(s:ByteArray):jE s<=s.size:=by
 unfold jE;split
 ·next h=>
  have a:=tk h;have:=wu _ (s.data.toList.drop 1) 1 (L5 _);rw[MS,<-bN]at this;omega
 split
 ·next h=>have:=Ga h;rw[<-bN]at this;omega
 exact L5 _
structure LR where
 vs:List V
 b:Bool
 N:Nat
 D:Nat
 ok:Bool
def LR.tree(x:LR):Tree:=.tup [.agg [.sl (x.vs.map V.tree),.sc (.bool x.b),aM x.N,aM x.D],.sc (.bool x.ok)]
noncomputable def j0:Nat->ByteArray->List V->Option (List V×ByteArray)
 |0,_,_=>none
 |n+1,s,acc=>match jD (s.extract 0 (jE s))with
  |none=>none
  |some v=>if Lib.hasPrefix (s.extract (jE s) s.size).data.toList [44]then j0 n ((s.extract (jE s) s.size).extract 1 (s.extract (jE s) s.size).size) (acc++[v])else some (acc++[v],s.extract (jE s) s.size)
noncomputable def cE (s:ByteArray) (cert:Bool):LR:=
 match j0 (s.size+1) s []with
 |none=>⟨[],false,0,0,false⟩
 |some (vs,r)=>
  if cert then⟨vs,decide ((1:Rat).num<0),(1:Rat).num.natAbs,(1:Rat).den,r.toList==(⟨#[]⟩:ByteArray).toList⟩
  else if(!Lib.hasPrefix r.data.toList [58])=true then⟨[],false,0,0,false⟩
  else if(gR (r.extract 1 r.size)).2=0 then⟨vs,decide ((gR (r.extract 1 r.size)).1.num<0),(gR (r.extract 1 r.size)).1.num.natAbs,(gR (r.extract 1 r.size)).1.den,true⟩
  else⟨vs,false,0,0,false⟩
theorem Ic{x:Rat×Int}(h:x.2=0):yp x=.tup [dp x.1,iT 0]:=by unfold yp;rw[if_pos h,h]
theorem Gb{x:Rat×Int}(h:x.2≠0):yp x=.tup [jX false 0 0,iT x.2]:=by unfold yp;rw[if_neg h];rfl
theorem nR{r:ByteArray}{c:UInt8}(h:Lib.hasPrefix r.data.toList [c]=true):1<=r.size:=by
 rw[bN];cases e:r.data.toList with
 |nil=>rw[e]at h;simp[Lib.hasPrefix]at h
 |cons a l=>simp
theorem Gc:Ct 78 [iT 1,iT 1] (.tup [dp 1,iT 0]):=by
 have h:=Hn 1 1 (by decide) (by decide) (by decide) (by decide) (by decide);have e:cF ((decide ((1:Int)<0)) !=(decide ((1:Int)<0))) (1:Int).natAbs (1:Int).natAbs=1:=Cc 1;rw[e]at h;exact h
theorem wv{s:ByteArray}{i:Nat}(h:i<s.size):kN (s.data.toList.drop i) i=if(ck s i).toNat≠39 then kN (s.data.toList.drop (i+1)) (i+1)else if i+1=s.size then i+1 else if(ck s (i+1)).toNat≠39 then i+1 else kN (s.data.toList.drop (i+2)) (i+2):=by
 have b:i<s.data.toList.length:=by rw[<-bN];exact h
 have e:s.data.toList[i]=ck s i:=by have:=eH h;rw[L4 b]at this;exact Nt this
 by_cases d:i+1=s.size
 ·rw[Md b,e,Mg (i:=i+1) (by rw[<-bN];omega),kN,kN,if_pos d];split<;>rfl
 have c:i+1<s.size:=by omega
 have a:i+1<s.data.toList.length:=by rw[<-bN];exact c
 have f:s.data.toList[i+1]=ck s (i+1):=by have:=eH c;rw[L4 a]at this;exact Nt this
 rw[Md b,e,Md a,f,kN,if_neg d]
theorem Gd{s:ByteArray}{i:Nat}(h:i=s.size):kN (s.data.toList.drop i) i=s.size:=by
 subst h;rw[Mg (by rw[<-bN];omega)];rfl
theorem AL:(Tryz.prog.info? 61).map (·.size)=some 1:=by kernel_rfl
theorem Id(s:ByteArray)(w:s.size<=1048576)(v:tN s.data.toList=true):Ct 75 [sT s] (nI (jE s)):=by
 refine Ct.of (n:=43) Tryz.func75 Z Z Z Z Z fun w0 G0=>?_
 refine ab<|aj 1 Z<|ab<|ab<|ae<|aa 1 Z<|af Z Z Z (ar Z (lB s ⟨#[39]⟩) Z Z)<|af (t:=bT (!(nQ s))) Z Z Z (ef Z Z Zy)<|ag<|aH Z (fun f=>?_) (fun f=>?_)
 ·have m:nQ s=false:=by simpa using f
  refine ab<|ab<|ae<|aa 1 Z<|af Z Z Z (ar Z (yc s w v) Z Z)<|aa 1 Z<|ag<|ab<|ae<|aa 1 Z<|af (t:=bT (decide ((lK s.data.toList)≥0))) Z Z Z (ai Z Z Z Zy)<|ag<|aF Z (fun c=>?_) (fun c=>?_)
  ·refine ab<|aj 2 Z<|aC<|⟨.inr Z,_,.cons Z .nil,ep (by unfold jE;rw[if_neg (by rw[m];exact MR),if_pos c,Int.toNat_of_nonneg c]),Z⟩
  refine ax<|ab<|ae<|aa 1 Z<|af (t:=nI s.size) Z Z Z (eK Z a8 Z)<|aa 1 Z<|ag<|aC<|⟨.inr Z,_,.cons Z .nil,F1 (k:=.i64) (by unfold jE;rw[if_neg (by rw[m];exact MR),if_neg c]),Z⟩
 have m:nQ s=true:=by simpa using f
 have q:=tk m;refine ax<|ab<|ab<|aj 1 Z<|aE<|aW (fun u r=>∃(i:Nat),(i<=s.size/\kN (s.data.toList.drop i) i=kN (s.data.toList.drop 1) 1)/\u=s.size-i/\r=⟨43,[(0,sT s),(4,nI i)],[],[]⟩) 0 0 ⟨1,⟨q,Z⟩,Z,Z⟩ ⟨Z,Z,Z,.cons Z Z (.cons Z Z .nil),Z⟩ ?_;rintro u r ⟨i,⟨x,a⟩,rfl,rfl⟩;refine ab<|ab<|ae<|aa 2 Z<|af (t:=nI s.size) Z Z Z (eK Z a8 Z)<|af (t:=bT (decide (i<s.size))) Z Z Z (ah (ai Z Z Z Zy) (av (iu i s.size)))<|ag<|aF Z (fun o=>?_) (fun o=>?_)
 ·have e:=o;refine ax<|ab<|aE<|ab<|ab<|ae<|aa 2 Z<|af (t:=.sc (.int .u8 (((ck s i).toNat:Nat):Int))) Z Z Z (dE Z a8 Z Z Z (eH e))<|af (t:=bT (decide ((ck s i).toNat≠39))) Z Z Z (ah (ai Z Z Z Zy) (av (wD ((ck s i).toNat) 39)))<|ag<|aF Z (fun d=>?_) (fun d=>?_)
  ·refine aZ<|ae<|aa 1 Z<|af (t:=nI (i+1)) Z Z Z (ah (ai Z Z Z Zy) (bu (by omega)))<|aa 1 Z<|ag<|⟨_,_,?_,⟨i+1,?_,Z,Z⟩,⟨Z,Z,Z,.cons Z Z (.cons Z Z .nil),Z⟩⟩
   ·omega
   refine⟨by omega,?_⟩;rw[<-a,wv e,if_pos d]
  refine ax<|ab<|ab<|ae<|aa 1 Z<|af (t:=nI (i+1)) Z Z Z (ah (ai Z Z Z Zy) (bu (by omega)))<|aa 1 Z<|af (t:=nI s.size) Z Z Z (eK Z a8 Z)<|af (t:=bT (decide (i+1=s.size))) Z Z Z (ah (ai Z Z Z Zy) (av (lY (i+1) s.size)))<|aa 1 Z<|aA (t:=sT s) ((decide (i+1=s.size))=false) Z Z Z au Z Z (fun b=>aw Z Z)<|aA (t:=nI i) ((decide (i+1=s.size))=false) Z Z Z au Z Z (fun b=>aw Z Z)<|aA (t:=nI (i+1)) ((decide (i+1=s.size))=false) Z Z Z au Z Z (fun b=>ah (ai Z (if_pos b) Z (fun _=>rfl)) (bu (by omega)))<|aA (t:=.sc (.int .u8 (((ck s (i+1)).toNat:Nat):Int))) ((decide (i+1=s.size))=false) Z Z Z au Z Z (fun b=>dE Z a8 (if_pos b) (if_pos b) Z (eH (by have:=of_decide_eq_false b;omega)))<|aA (t:=bT (decide ((ck s (i+1)).toNat≠39))) ((decide (i+1=s.size))=false) Z Z Z au Z Z (fun b=>ah (ai Z (if_pos b) Z (fun _=>rfl)) (av (wD ((ck s (i+1)).toNat) 39)))<|af (t:=bT ((decide (i+1=s.size))||(decide ((ck s (i+1)).toNat≠39)))) Z Z Z (aL Z Z (fun p=>(av (by rw[p];rfl))) (fun p=>(if_pos p).trans (av (by rw[p];rfl))))<|ag<|aH Z (fun j=>?_) (fun j=>?_)
  ·refine ab<|ae<|aa 1 rfl<|af (t:=nI (i+1)) rfl rfl rfl (ah (ai rfl rfl rfl Zy) (bu (by omega)))<|aa 1 rfl<|ag<|aC<|⟨.inr rfl,_,.cons rfl .nil,F1 (k:=.i64) (by unfold jE;rw[if_pos m,<-a,wv e,if_neg d];rcases Qo.1 j with h|h;rw[if_pos (of_decide_eq_true h)];rw[if_pos (of_decide_eq_true h)];split<;>rfl),rfl⟩
  obtain⟨l,g⟩:=Mz.1 j;replace l:=of_decide_eq_false l;replace g:=of_decide_eq_false g;refine ax<|ae<|aa 1 Z<|af (t:=nI (i+1)) Z Z Z (ah (ai Z Z Z Zy) (bu (by omega)))<|aa 1 Z<|ag<|ae<|aa 1 Z<|af (t:=nI ((i+1)+1)) Z Z Z (ah (ai Z Z Z Zy) (bu (by omega)))<|aa 1 Z<|ag<|⟨_,_,?_,⟨(i+1)+1,?_,Z,Z⟩,⟨Z,Z,Z,.cons Z Z (.cons Z Z .nil),Z⟩⟩
  ·omega
  refine⟨by omega,?_⟩;rw[<-a,wv e,if_neg d,if_neg l,if_neg g]
 refine aZ<|ab<|ae<|aa 1 Z<|af (t:=nI s.size) Z Z Z (eK Z a8 Z)<|aa 1 Z<|ag<|aC<|⟨.inr Z,_,.cons Z .nil,F1 (k:=.i64) (by unfold jE;rw[if_pos m,<-a,Gd (by omega)]),Z⟩
theorem Ie(s:ByteArray)(cert:Bool)(I:s.size<=1048576)(F:tN s.data.toList=true):Ct 29 [sT s,bT cert] ((cE s cert).tree):=by
 refine Ct.of (n:=62) Tryz.func29 Z Z Z Z Z fun w0 G0=>?_
 refine ab<|aj 2 Z<|ab<|ae<|vC (cs:=[.sc (.slice none 0 0),bT false,.sc (.slice none 0 0),.sc (.slice none 0 0)]) (b:=1) (bs':=[(67,[.sl [],bT false,.sl [],.sl []]),(67,[.sc (.slice none 0 0),bT false,.sc (.slice none 0 0),.sc (.slice none 0 0)])]) Z Z Z Z go Z Z Z Z<|ag<|ab<|aE<|mD 1 0 77 3 (bs':=[(67,[.sl [],bT false,.sl [],.sl []]),(67,[.own 0,bT false,.sc (.slice none 0 0),.sc (.slice none 0 0)])]) (rs':=[some ⟨77,3,[],false⟩]) Z Z Z Z<|aW (fun A C=>∃(u:ByteArray) (d:List V) (n:Nat),(tN u.data.toList=true/\u.size<n/\d.length+u.size<=s.size/\j0 n u d=j0 (s.size+1) s [])/\A=u.size+1/\C=⟨62,[(0,sT u),(1,bT cert),(4,.box 0 0),(6,.box 1 0)],[(67,[.sl [],bT false,.sl [],.sl []]),(67,[.own 0,bT false,.sc (.slice none 0 0),.sc (.slice none 0 0)])],[some ⟨77,3,d.map V.tree,false⟩]⟩) 2 1 ⟨s,[],s.size+1,⟨F,by omega,by simp,Z⟩,Z,Z⟩ ⟨Z,Z,Z,.cons Z Z (.cons Z Z (.cons Z Z (.cons Z Z .nil))),Z⟩ ?_;rintro A C ⟨u,d,n,⟨q,H,B,a⟩,rfl,rfl⟩;obtain⟨m,rfl⟩:∃m,n=m+1:=⟨n-1,by omega⟩;have E:=Ib u;refine aE<|ab<|ae<|aa 1 Z<|af Z Z Z (ar Z (Id u (by omega) q) Z Z)<|aa 1 Z<|ag<|ab ?_;rcases i:jD (u.extract 0 (jE u))with _|v
 ·rw[j0,i]at a;dsimp only at a;refine ae<|aa 2 Z<|af (t:=sT (u.extract 0 (jE u))) Z Z Z (fa (l:=0) (h:=(jE u)) Z a8 Z Z ⟨_,Z⟩ (by omega) (by omega))<|af Z Z Z (ar Z (yB _ (by simp only[MO];omega) i) Z Z)<|aa 6 Z<|ag<|ab<|ab<|ae<|aa 1 Z<|af (t:=bT (decide (2≠0))) Z Z Z (ah (ai Z Z Z Zy) (av (wD 2 0)))<|ag<|aF Z (fun p=>?_) (fun p=>?_)
  ·refine ab<|aj 3 Z<|aC<|⟨.inr Z,_,.cons ⟨_,_,_,_,Z,Z,.inl ⟨_,ez,Z,Z⟩⟩ (.cons Z .nil),by unfold cE;rw[<-a];rfl,Z⟩
  exact absurd (by decide) p
 rw[j0,i]at a;dsimp only at a;refine ae<|aa 2 Z<|af (t:=sT (u.extract 0 (jE u))) Z Z Z (fa (l:=0) (h:=(jE u)) Z a8 Z Z ⟨_,Z⟩ (by omega) (by omega))<|af Z Z Z (ar Z (yA _ v (by simp only[MO];omega) i) Z Z)<|aa 6 Z<|ag<|ab<|ab<|ae<|aa 1 Z<|af (t:=bT (decide (0≠0))) Z Z Z (ah (ai Z Z Z Zy) (av (wD 0 0)))<|ag<|aF Z (fun w=>?_) (fun w=>?_)
 ·exact absurd Z w
 refine ax<|ab<|ae<|aa 3 rfl<|af (t:=.sl [.agg [iT v.t,iT v.n,sT v.s]]) rfl rfl rfl (a6 rfl bz fM rfl (by decide) (by decide) rfl rfl rfl rfl rfl)<|cD (bs':=[(67,[.sl [],bT false,.sl [],.sl []]),(67,[.any,bT false,.sc (.slice none 0 0),.sc (.slice none 0 0)]),(77,[iT v.t,iT v.n,sT v.s])]) (rs':=[some ⟨77,3,(d++[v]).map V.tree,false⟩]) rfl rfl rfl rfl ib rfl rfl rfl rfl (by intro e D;simp only[Mi,Nr,or_false]at D;subst D;rfl) (AllC.lit rfl) (AllC.lit rfl) (by simp only[L8,Mb,Mo];omega) rfl rfl rfl (by rw[Nk];rfl)<|aa 2 rfl<|ag<|ab ?_;obtain⟨r,x⟩:∃r,u.extract (jE u) u.size=r:=⟨_,rfl⟩;have G:r.size=u.size-jE u:=by rw[<-x];simp only[MO];omega
 rw[x]at a;have z:tN r.data.toList=true:=by rw[<-x];exact ri q _ _
 refine ae<|aa 2 Z<|af (t:=sT r) Z Z Z (ah (fa (l:=(jE u)) (h:=u.size) Z a8 Z ⟨_,Z⟩ Z (by omega) (by omega)) (o9 x))<|aa 1 Z<|ag<|ab<|ab<|ae<|aa 1 Z<|af Z Z Z (ar Z (lB r ⟨#[44]⟩) Z Z)<|af (t:=bT (!(Lib.hasPrefix r.data.toList [44]))) Z Z Z (ef Z Z Zy)<|ag<|aH Z (fun k=>?_) (fun k=>?_)
 ·have j:Lib.hasPrefix r.data.toList [44]=false:=by simpa using k
  rw[if_neg (by rw[j];exact MR)]at a;refine aZ<|ab<|ab<|fD 0 (bs':=[(67,[.sl [],bT false,.sl [],.sl []]),(67,[.sl ((d++[v]).map V.tree),bT false,.sc (.slice none 0 0),.sc (.slice none 0 0)]),(77,[iT v.t,iT v.n,sT v.s])]) (rs':=[none]) Z Z Z Z<|aj 1 Z<|aH Z (fun g=>?_) (fun g=>?_)
  ·refine ab<|ae<|af Z Z Z (ar Z Gc Z Z)<|aa 5 Z<|ag<|ab<|ae<|aa 2 Z<|af (t:=bT (r.toList==(⟨#[]⟩:ByteArray).toList)) Z Z Z (ah (ai Z Z Z Zy) (av Z))<|aa 2 Z<|ag<|aC<|⟨.inr Z,_,.cons ⟨_,_,_,_,Z,Z,.inl ⟨_,ez,Z,Z⟩⟩ (.cons Z .nil),by unfold cE;rw[<-a];dsimp only;rw[if_pos g];rfl,Z⟩
  refine ax<|ab<|ab<|ae<|aa 1 Z<|af Z Z Z (ar Z (lB r ⟨#[58]⟩) Z Z)<|af (t:=bT (!(Lib.hasPrefix r.data.toList [58]))) Z Z Z (ef Z Z Zy)<|ag<|aH Z (fun f=>?_) (fun f=>?_)
  ·refine ab<|aj 3 Z<|aC<|⟨.inr Z,_,.cons ⟨_,_,_,_,Z,Z,.inl ⟨_,ez,Z,Z⟩⟩ (.cons Z .nil),by unfold cE;rw[<-a];dsimp only;rw[if_neg (by rw[g];exact MR),if_pos f];rfl,Z⟩
  have y:1<=r.size:=nR (c:=58) (by simpa using f);refine ax<|ab ?_;by_cases o:(gR (r.extract 1 r.size)).2=0
  ·refine ae<|aa 1 Z<|af (t:=sT (r.extract 1 r.size)) Z Z Z (fa (l:=1) (h:=r.size) Z a8 Z ⟨_,Z⟩ Z (by omega) (by omega))<|af (t:=.tup [.agg [bT (decide (((gR (r.extract 1 r.size)).1).num<0)),aM (((gR (r.extract 1 r.size)).1).num.natAbs),aM (((gR (r.extract 1 r.size)).1).den)],iT 0]) Z Z Z (ar Z (by have h:=yv (r.extract 1 r.size) (by simp only[MO];omega);rw[Ic o]at h;exact h) Z Z)<|aa 6 Z<|ag<|ab<|aj 3 Z<|ab<|ae<|aa 2 Z<|af (t:=bT (decide (0=0))) Z Z Z (ah (ai Z Z Z Zy) (av (lY 0 0)))<|aa 2 Z<|ag<|aC<|⟨.inr Z,_,.cons ⟨_,_,_,_,Z,Z,.inl ⟨_,ez,Z,Z⟩⟩ (.cons Z .nil),by unfold cE;rw[<-a];dsimp only;rw[if_neg (by rw[g];exact MR),if_neg (by rw[f];exact MR),if_pos o];rfl,Z⟩
  refine ae<|aa 1 Z<|af (t:=sT (r.extract 1 r.size)) Z Z Z (fa (l:=1) (h:=r.size) Z a8 Z ⟨_,Z⟩ Z (by omega) (by omega))<|af (t:=.tup [.agg [bT false,aM 0,aM 0],iT ((gR (r.extract 1 r.size)).2)]) Z Z Z (ar Z (by have h:=yv (r.extract 1 r.size) (by simp only[MO];omega);rw[Gb o]at h;exact h) Z Z)<|aa 6 Z<|ag<|ab<|aj 3 Z<|ab<|ae<|aa 2 Z<|af (t:=bT (((gR (r.extract 1 r.size)).2)==0)) Z Z Z (ai Z Z Z Zy)<|aa 2 Z<|ag<|aC<|⟨.inr Z,_,.cons ⟨_,_,_,_,Z,Z,.inl ⟨_,ez,Z,Z⟩⟩ (.cons Z .nil),by unfold cE;rw[<-a];dsimp only;rw[if_neg (by rw[g];exact MR),if_neg (by rw[f];exact MR),if_neg o,beq_eq_false_iff_ne.2 o];rfl,Z⟩
 have j:Lib.hasPrefix r.data.toList [44]=true:=by simpa using k
 have y:=nR j;rw[if_pos j]at a;refine ax<|ae<|aa 1 Z<|af (t:=sT (r.extract 1 r.size)) Z Z Z (fa (l:=1) (h:=r.size) Z a8 Z ⟨_,Z⟩ Z (by omega) (by omega))<|aa 1 Z<|ag<|⟨_,_,?_,⟨r.extract 1 r.size,d++[v],m,?_,Z,Z⟩,⟨Z,Z,Z,.cons Z Z (.cons Z Z (.cons Z Z (.cons Z Z .nil))),Z⟩⟩
 ·simp only[MO];omega
 refine⟨ri z _ _,by simp only[MO];omega,by simp only[MO,Mc,Mb,Mo];omega,a⟩
def Rel.zero:Rel:=⟨⟨⟨#[]⟩,false,[]⟩,[]⟩
def jF(x:LR):Tp:=⟨x.vs,cF x.b x.N x.D⟩
noncomputable def cG (cert:Bool):List ByteArray->Nat->Rel->Rel×Nat×Int
 |[],_,r=>(r,0,0)
 |l::ls,i,r=>if(l.toList==(⟨#[]⟩:ByteArray).toList)=true then cG cert ls (i+1) r
  else if(cE l cert).ok=false then(Rel.zero,i,2)
  else if cJ r (jF (cE l cert))=0 then cG cert ls (i+1) (bD r (jF (cE l cert)))
  else(Rel.zero,i,cJ r (jF (cE l cert)))
noncomputable def fg (s:Sch) (b:List UInt8):Rel×Nat×Int:=if fF s=false then(Rel.zero,0,1)else if 16384<b.length then(Rel.zero,0,4)else cG s.cert (cL ⟨b.toArray⟩) 0 ⟨s,[]⟩
def KJ(x:Rel×Nat×Int):Tree:=.tup [x.1.tree,.sc (.int .i64 (x.2.1:Nat)),.sc (.int .i64 x.2.2)]
theorem yC{R:Rel}{i:Nat}{e:Int}{x:Rel×Nat×Int}(h:x=(R,i,e)):(Tree.tup [R.tree,iT (i:Nat),iT e])=KJ x:=by rw[h];rfl
theorem ww{cert:Bool}{L:List ByteArray}{i:Nat}{l:ByteArray}{r:Rel}(h:L[i]? =some l):cG cert (L.drop i) i r=if(l.toList==(⟨#[]⟩:ByteArray).toList)=true then cG cert (L.drop (i+1)) (i+1) r
  else if(cE l cert).ok=false then(Rel.zero,i,2)
  else if cJ r (jF (cE l cert))=0 then cG cert (L.drop (i+1)) (i+1) (bD r (jF (cE l cert)))
  else(Rel.zero,i,cJ r (jF (cE l cert))):=by
 obtain⟨a,rfl⟩:=L7.1 h;rw[Md a,cG]
theorem pe(sep:ByteArray)(a:Nat):∀(k:Nat) (s x:ByteArray),x∈Lib.splitB sep a k s->x.size<=s.size
 |0,s,x,h=>by
  rw[Lib.splitB,Ml]at h;rw[h];exact L5 _
 |k+1,s,x,h=>by
  unfold Lib.splitB at h;split at h
  ·rw[Ml]at h;rw[h];exact L5 _
  rcases Mi.1 h with rfl|h
  ·simp only[MO];omega
  have:=pe sep a k _ x h;simp only[MO]at this;omega
theorem tm(sep:ByteArray)(a:Nat):∀(k:Nat) (s x:ByteArray),tN s.data.toList=true->x∈Lib.splitB sep a k s->tN x.data.toList=true
 |0,s,x,ha,h=>by
  rw[Lib.splitB,Ml]at h;rw[h];exact ha
 |k+1,s,x,ha,h=>by
  unfold Lib.splitB at h;split at h
  ·rw[Ml]at h;rw[h];exact ha
  rcases Mi.1 h with rfl|h
  ·exact ri ha _ _
  exact tm sep a k _ x (ri ha _ _) h
theorem AM(s:ByteArray):(cL s).length=Lib.countB s ⟨#[10]⟩+1/\Lib.countB s ⟨#[10]⟩<=s.size:=⟨Lib.splitB_all ⟨#[10]⟩ (by decide) 0 _ s Z,Lib.countB_le ⟨#[10]⟩ (by decide) _ s (L5 _)⟩
theorem uT:∀(n:Nat) (s:ByteArray) (a vs:List V) (r:ByteArray),j0 n s a=some (vs,r)->vs.length<=a.length+s.size+1/\r.size<=s.size
 |0,_,_,_,_,h=>by rw[j0]at h;cases h
 |n+1,s,a,vs,r,h=>by
  rw[j0]at h;cases b:jD (s.extract 0 (jE s))with
  |none=>rw[b]at h;cases h
  |some v=>
   rw[b]at h;dsimp only at h;split at h
   ·next hx=>
    have d:=nR hx;have:=uT n _ _ _ _ h;simp only[MO,Mc,NL]at this d;omega
   injection h with h
   injection h with e c
   rw[<-e,<-c];simp only[MO,Mc,NL];omega
theorem AN(s:ByteArray):Fit 4001 (gR s).1:=by
 have e:Fit 4001 (0:Rat):=⟨by decide,by decide⟩;unfold gR;split
 ·exact e
 next h4=>
 have l:(eT s).size<=4000:=by unfold eT;split<;>first|omega|(simp only[MO];omega)
 unfold lC;have f:=FH (eT s).data.toList;rw[<-bN]at f;have a:((eT s).extract 0 (tO (eT s).data.toList)).data.toList.all dK=true:=by rw[kM,Nx];exact yo _
 generalize g:tO (eT s).data.toList=n at f a⊢;generalize i:(eT s).extract (n+1) (eT s).size=r;have k:r.size<=(eT s).size-(n+1):=by rw[<-i];simp only[MO];omega
 have j:((eT s).extract 0 n).size<=n:=by simp only[MO];omega
 split
 ·exact e
 next hz=>
 split
 ·next hfl=>exact mO (D:=1) (by decide) (gD (rh (by rw[<-bN,g];exact hfl)) (by rw[<-bN];omega)) (by decide)
 next hfl=>
 split
 ·exact e
 next b=>
 have b:mo (ck (eT s) n) r=false:=by simpa using b
 have d:r.data.toList.all dK=true:=rh (by have h:=b;unfold mo at h;rw[Mz]at h;rw[<-bN];simpa using h.2);have c:((eT s).extract 0 n++r).data.toList.all dK=true:=by rw[Pr,Nv,NX,a,d];rfl
 split
 ·exact mO (D:=10^r.size) (NN (by decide)) (gD c (by rw[<-bN,NM];omega)) (tg (by omega))
 split
 ·exact e
 next hz=>exact mO (D:=eB r.data.toList) (by omega) (gD a (by rw[<-bN];omega)) (gD d (by rw[<-bN];omega))
theorem Ge{l:ByteArray}{cert:Bool}(h:(cE l cert).ok=true):(cE l cert).b=decide ((jF (cE l cert)).prob.num<0)/\(cE l cert).N=(jF (cE l cert)).prob.num.natAbs/\(cE l cert).D=(jF (cE l cert)).prob.den/\Fit 4001 (jF (cE l cert)).prob:=by
 unfold jF;unfold cE at h⊢;have key:∀q:Rat,Fit 4001 q->decide (q.num<0)=decide ((cF (decide (q.num<0)) q.num.natAbs q.den).num<0)/\q.num.natAbs=(cF (decide (q.num<0)) q.num.natAbs q.den).num.natAbs/\q.den=(cF (decide (q.num<0)) q.num.natAbs q.den).den/\Fit 4001 (cF (decide (q.num<0)) q.num.natAbs q.den):=fun q a=>by
  rw[fd];exact⟨Z,Z,Z,a⟩
 split at h
 ·cases h
 split at h
 ·next h1=>simp only[if_pos h1];exact key 1 ⟨by decide,by decide⟩
 next h1=>
 split at h
 ·cases h
 next h2=>
 split at h
 ·next h3=>simp only[if_neg h1,if_neg h2,if_pos h3];exact key _ (AN _)
 cases h
theorem Gf{l:ByteArray}{cert:Bool}:(cE l cert).vs.length<=l.size+1:=by
 unfold cE;split
 ·simp
 next vs r h=>
 have a:=(uT _ _ _ _ _ h).1;simp only[Mo]at a;split
 ·dsimp only;omega
 split
 ·simp
 split<;>(dsimp only;omega)
theorem If{q:Rat}{vs:List V}(h:Fit 4001 q):FitT ⟨vs,q⟩:=⟨h.mono (by decide),(oS (a:=1) ⟨by decide,by decide⟩ h).mono (by decide)⟩
theorem DI{w0:World}{G0:Nat->Prop}{c:Code}{Q:Exit->St->Prop}{n:Nat}{sl:List (Nat×Tree)}{bs bs':List (TypeId×List Tree)}{rs:List (Option Row)}(h:bs=bs')(k:AWP w0 G0 c Q ⟨n,sl,bs',rs⟩):AWP w0 G0 c Q ⟨n,sl,bs,rs⟩:=h▸k
theorem AP{r:Rel}{t:Tp}(h:cJ r t=0):r.tups.length<=64:=by
 refine nN (r:=r) ?_;unfold cJ at h;split at h
 ·exact h
 next h1=>exact NE.1 h1
theorem lE:gE Tryz.prog 59=some (9,1):=by kernel_rfl
theorem mX(s:Sch)(b:List UInt8)(O:tN b=true):Ct 10 [s.tree,.sl (bg b)] (KJ (fg s b)):=by
 refine Ct.of (n:=65) Tryz.func10 Z Z Z Z Z fun w0 G0=>?_
 refine ab<|aj 4 Z<|ab<|ab<|ae<|aa 1 Z<|af Z Z Z (ar Z (jz s) Z Z)<|af (t:=bT (!(fF s))) Z Z Z (ef Z Z Zy)<|ag<|aH Z (fun o=>?_) (fun o=>?_)
 ·refine ab<|aj 4 Z<|aC<|⟨.inr Z,_,.cons ⟨_,_,_,_,Z,Z,.inl ⟨_,bq,Z,Z⟩⟩ (.cons Z (.cons Z .nil)),yC (R:=Rel.zero) (i:=0) (e:=1) (x:=fg s b) (by unfold fg;rw[if_pos (by simpa using o)]),Z⟩
 have d:fF s=true:=by simpa using o
 have P:=jk d;refine ax<|ab<|ab<|ae<|aa 1 Z<|af (t:=nI b.length) Z Z Z (ah (bd Z df Z) (by simp only[a7]))<|af (t:=bT (decide (16384<b.length))) Z Z Z (ah (ai Z Z Z Zy) (av (tE b.length 16384)))<|ag<|aF Z (fun p=>?_) (fun p=>?_)
 ·refine ab<|aj 4 Z<|aC<|⟨.inr Z,_,.cons ⟨_,_,_,_,Z,Z,.inl ⟨_,bq,Z,Z⟩⟩ (.cons Z (.cons Z .nil)),yC (R:=Rel.zero) (i:=0) (e:=4) (x:=fg s b) (by unfold fg;rw[if_neg (by rw[d];simp),if_pos p]),Z⟩
 refine ax<|ab<|aj 4 Z<|ab<|ae<|aa 2 Z<|af Z Z Z (ar Z (uy _ (by omega)) Z Z)<|aa 3 Z<|ag<|ab<|ab ?_;obtain⟨c,h⟩:∃c:ByteArray,(⟨b.toArray⟩:ByteArray)=c:=⟨_,rfl⟩;have M:c.size=b.length:=by rw[<-h];simp[ByteArray.size]
 have E:=AM c;have k:fg s b=cG s.cert (cL c) 0 ⟨s,[]⟩:=by unfold fg;rw[if_neg (by rw[d];simp),if_neg p,h]
 refine ae<|aa 1 Z<|af (t:=sT c) Z Z Z (ah (pA Z Z) (o9 h))<|af Z Z Z (ar Z (F9 c (by omega) E.1 (by omega)) Z Z)<|af (t:=nI ((cL c).length)) Z Z Z (ah (bd Z lE Z) (by simp only[L8]))<|aa 1 Z<|ag<|aE<|aW (fun H L=>∃(i:Nat) (r:Rel),(i<=(cL c).length/\FitR r/\cG s.cert ((cL c).drop i) i r=cG s.cert (cL c) 0 ⟨s,[]⟩)/\H=(cL c).length-i/\L=⟨65,[(2,.box 0 0),(4,.box 1 0),(7,.box 2 0),(31,.sl ((cL c).map jf)),(32,nI ((cL c).length)),(33,nI i)],[(26,(dq s)),(30,dS),(30,(aT r))],[]⟩) 3 0 ⟨0,⟨s,[]⟩,⟨by omega,⟨by show s.cols.length<=_;omega,by simp,fun t C=>by cases C⟩,Z⟩,Z,Z⟩ ⟨Z,Z,Z,.cons Z Z (.cons Z Z (.cons Z Z (.cons Z Z (.cons Z Z (.cons Z Z .nil))))),Z⟩ ?_;rintro H L ⟨i,r,⟨Q,B,a⟩,rfl,rfl⟩;refine ab<|ae<|af (t:=bT (decide (i<(cL c).length))) Z Z Z (ah (ai Z Z Z Zy) (av (iu i ((cL c).length))))<|ag<|ab<|aF Z (fun w=>?_) (fun w=>?_)
 ·obtain⟨l,j⟩:∃l,(cL c)[i]? =some l:=⟨_,L4 w⟩;have N:l.size<=c.size:=pe _ _ _ _ _ (L9 j);have D:tN l.data.toList=true:=tm _ _ _ _ _ (by rw[<-h];exact O) (L9 j);rw[ww j]at a;refine ax<|ab<|aE<|ab<|ae<|aa 1 Z<|af (t:=.ref [sT l]) Z Z Z (aQ (jf l) Z lE Z Z Z (bf (f:=jf) j) (uS _) Z)<|aa 3 Z<|ag<|ab<|ab<|ae<|aa 1 Z<|af (t:=bT (l.toList==(⟨#[]⟩:ByteArray).toList)) Z Z Z (ah (ai Z Z Z Zy) (av Z))<|ag<|aH Z (fun u=>?_) (fun u=>?_)
  ·rw[if_pos u]at a;refine aZ<|ae<|af (t:=nI (i+1)) Z Z Z (ah (ai Z Z Z Zy) (bu (by omega)))<|aa 1 Z<|ag<|⟨_,_,?_,⟨i+1,r,?_,Z,Z⟩,⟨Z,Z,Z,.cons Z Z (.cons Z Z (.cons Z Z (.cons Z Z (.cons Z Z (.cons Z Z .nil))))),Z⟩⟩
   ·omega
   exact⟨by omega,B,a⟩
  rw[if_neg (by rw[u];exact MR)]at a;refine ax<|ab<|ae<|aa 3 Z<|af Z Z Z (ar Z (Ie l s.cert (by omega) D) Z Z)<|aa 6 Z<|ag<|ab<|ab<|ae<|aa 1 Z<|af (t:=bT (!((cE l s.cert).ok))) Z Z Z (ef Z Z Zy)<|ag<|aH Z (fun m=>?_) (fun m=>?_)
  ·refine ab<|aj 5 Z<|aC<|⟨.inr Z,_,.cons ⟨_,_,_,_,Z,Z,.inl ⟨_,bq,Z,Z⟩⟩ (.cons Z (.cons Z .nil)),yC (R:=Rel.zero) (i:=i) (e:=2) (x:=fg s b) (by rw[k,<-a,if_pos (by simpa using m)]),Z⟩
  have y:(cE l s.cert).ok=true:=by simpa using m
  rw[if_neg (by rw[y];simp)]at a;obtain⟨F,J,G,K⟩:=Ge y;have g:(jF (cE l s.cert)).vals.length<=65536:=by have:=Gf (l:=l) (cert:=s.cert);show(cE l s.cert).vs.length<=_;omega
  have I:(cE l s.cert).vs=(jF (cE l s.cert)).vals:=rfl;obtain⟨t,C⟩:∃t,jF (cE l s.cert)=t:=⟨_,rfl⟩;rw[C]at I F J G K g a;have q:FitT t:=If (vs:=t.vals) K;refine DI (bs':=[(26,(dq s)),(30,dS),(30,(aT r)),(67,(bS t))]) (by rw[I,F,J,G]<;>rfl)<|ax<|ab ?_;by_cases v:cJ r t=0
  ·rw[if_pos v]at a;refine ae<|aa 2 Z<|af Z Z Z (ar Z (Df r t B q g v) Z Z)<|aa 6 Z<|ag<|ab<|ab<|ae<|aa 1 Z<|af (t:=bT (decide (0≠0))) Z Z Z (ah (ai Z Z Z Zy) (av (wD 0 0)))<|ag<|aF Z (fun z=>?_) (fun z=>?_)
   ·exact absurd Z z
   refine ax<|aj 2 Z<|ae<|af (t:=nI (i+1)) Z Z Z (ah (ai Z Z Z Zy) (bu (by omega)))<|aa 1 Z<|ag<|⟨_,_,?_,⟨i+1,(bD r t),?_,Z,Z⟩,⟨Z,Z,Z,.cons Z Z (.cons Z Z (.cons Z Z (.cons Z Z (.cons Z Z (.cons Z Z .nil))))),Z⟩⟩
   ·omega
   exact⟨by omega,(yk B q g (AP v)).1,a⟩
  rw[if_neg v]at a;refine ae<|aa 2 Z<|af Z Z Z (ar Z (Al r t B q g v) Z Z)<|aa 6 Z<|ag<|ab<|ab<|ae<|aa 1 Z<|af (t:=bT ((cJ r t) !=0)) Z Z Z (ai Z Z Z Zy)<|ag<|aH Z (fun A=>?_) (fun A=>?_)
  ·refine ab<|aj 6 Z<|aC<|⟨.inr Z,_,.cons ⟨_,_,_,_,Z,Z,.inl ⟨_,bq,Z,Z⟩⟩ (.cons Z (.cons Z .nil)),yC (R:=Rel.zero) (i:=i) (e:=cJ r t) (x:=fg s b) (by rw[k,<-a]),Z⟩
  exact absurd (by simpa using A) v
 refine aZ<|ab<|aj 4 Z<|aC<|⟨.inr Z,_,.cons ⟨_,_,_,_,Z,Z,.inl ⟨_,bq,Z,Z⟩⟩ (.cons Z (.cons Z .nil)),yC (R:=r) (i:=0) (e:=0) (x:=fg s b) (by rw[k,<-a,Mg (by omega)];rfl),Z⟩
end Go.Proofs.YtfoejfohbkmmeaaGreatDoor
