import Derived.Test.YtfoejfohbkmmeaaGreatDoorU26
import Derived.Test.YtfoejfohbkmmeaaGreatDoorU11
import Derived.Test.YtfoejfohbkmmeaaGreatDoorU27
import Derived.Test.YtfoejfohbkmmeaaGreatDoorU08
import Derived.Test.YtfoejfohbkmmeaaGreatDoorU00
import Derived.Test.YtfoejfohbkmmeaaGreatDoorU12
set_option maxRecDepth 100000
set_option maxHeartbeats 4000000
namespace Go.Proofs.YtfoejfohbkmmeaaGreatDoor
open Go.RowKit
open Lib renaming hid→J
def iK(k:List V):Tree:=.sl (k.map V.tree)
theorem qn(l:List (List V)):Sized 1 (l.map iK):=Sized.map _ l fun _=>rfl
def Kx(K:List (List V))(k:List V):Prop:=∀(a b:Nat) (x y:List V),a<=b->K[a]? =some x->K[b]? =some y->aO y k<0->aO x k<0
theorem oU{α:Type}{p:α->Bool}:∀{l:List α} {i:Nat},i<=l.length->(∀a x,a<i->l[a]? =some x->p x=true)->(∀x,l[i]? =some x->p x=false)->(l.takeWhile p).length=i
 |[],i,h,_,_=>by simp at h;simp[h]
 |y::l,0,_,_,h2=>by
  have:=h2 y Z;simp[this]
 |y::l,i+1,h,h1,h2=>by
  have c:=h1 0 y (by omega) Z;have d:=oU (p:=p) (l:=l) (i:=i) (by simpa using h) (fun a x e b=>h1 (a+1) x (by omega) (by simpa using b)) (fun x b=>h2 x (by simpa using b));simp[c,d]
theorem Jm{K:List (List V)}{i:Nat}(h:i<K.length):K[i]? =some (K.getD i []):=by
 rw[Mm,L4 h,MK]
theorem Fj{K:List (List V)}(h:∀x∈K,x.length<=65536)(i:Nat):(K.getD i []).length<=65536:=by
 rcases MI i K.length with a|a
 ·exact h _ (L9 (Jm a))
 rw[Mm,Nq a];simp
theorem LD{a:Nat}(h:a<9223372036854775808):(Tree.sc (.int .u64 (IntKind.u64.wrap ((a:Nat):Int))))=.sc (.int .u64 ((a:Nat):Int)):=by rw[show IntKind.u64.wrap ((a:Nat):Int)=((a:Nat):Int) by rw[IntKind.wrap_u64];omega]
theorem LE{a:Nat}(h:a<9223372036854775808):(Tree.sc (.int .i64 (IntKind.i64.wrap ((a:Nat):Int))))=nI a:=by rw[show IntKind.i64.wrap ((a:Nat):Int)=((a:Nat):Int) by rw[Ns];omega]
theorem Ho{x y:Operand}(a:Nat)(w:World):(do eqGuard .shr 36 x y (.int .u64 (a:Nat)) (.int .u64 1);binOp .shr 36 (.int .u64 (a:Nat)) (.int .u64 1):Sem Value).run Tryz.prog w=.ok (.int .u64 ((a/2:Nat):Int)) w:=by
 simp[eqGuard,binOp,Op.shift,IntKind.bits];exact PM _ (by omega)
theorem Hp{K:List (List V)}{k:List V}{i j:Nat}(f:j<=K.length)(d:i=j)(l:∀a x,a<i->K[a]? =some x->aO x k<0)(m:∀b y,j<=b->K[b]? =some y->¬aO y k<0):mA [nI i,bT ((decide (i<K.length))&&((aO (K.getD i []) k)==0))]=.tup [nI (bk K k),bT ((K[bk K k]?).any fun x=>aO x k==0)]:=by
 subst d;have h:bk K k=i:=oU f (fun a x g e=>decide_eq_true (l a x g e)) (fun x e=>decide_eq_false (m i x (L5 _) e));rw[h];rcases MI i K.length with c|c
 ·rw[Jm c,decide_eq_true c];rfl
 rw[decide_eq_false (by omega),Nq c];rfl
theorem iL:gE Tryz.prog 151=some (61,1):=by kernel_rfl
theorem mR:Tryz.prog.underlying 3=some (.int .i64):=by kernel_rfl
theorem nF:Tryz.prog.underlying 36=some (.int .u64):=by kernel_rfl
theorem Jn(K:List (List V))(k:List V)(E:K.length<=65536)(v:Kx K k)(u:∀x∈K,x.length<=65536)(A:k.length<=65536):Ct 126 [.sl (K.map iK),.sl (k.map V.tree),.sc (Gs 64)] (.tup [nI (bk K k),bT ((K[bk K k]?).any fun x=>aO x k==0)]):=by
 refine Ct.of (n:=49) Tryz.func126 Z Z Z Z Z fun w0 G0=>?_
 refine ab<|aj 2 Z<|ab<|ae<|aa 1 Z<|af (t:=nI K.length) Z Z Z (ah (bd Z iL Z) (by simp only[L8]))<|aa 1 Z<|ag<|ab<|aj 3 Z<|ab<|aE<|aW (fun z B=>∃(i:Nat) (j:Nat),(i<=j/\j<=K.length/\(∀a x,a<i->K[a]? =some x->aO x k<0)/\∀b y,j<=b->K[b]? =some y->¬aO y k<0)/\z=j-i/\B=⟨49,[(0,.sl (K.map iK)),(1,.sl (k.map V.tree)),(2,.sc (Gs 64)),(6,iT 0),(7,bT false),(8,nI K.length),(9,nI i),(10,nI j)],[],[]⟩) 0 0 ⟨0,K.length,⟨Mx _,L5 _,fun a x D=>by omega,fun b y r g=>by rw[Nq r]at g;cases g⟩,Z,Z⟩ ⟨Z,Z,Z,.cons Z Z (.cons Z Z (.cons Z Z (.cons Z Z (.cons Z Z (.cons Z Z (.cons Z Z (.cons Z Z .nil))))))),Z⟩ ?_;rintro z B ⟨i,j,⟨C,s,h,m⟩,rfl,rfl⟩;refine ab<|ab<|ae<|aa 2 Z<|af (t:=bT (decide (i<j))) Z Z Z (ah (ai Z Z Z Zy) (av (iu i j)))<|ag<|aF Z (fun p=>?_) (fun p=>?_)
 ·refine ax<|aE<|ab<|ae<|aa 2 Z<|af (t:=nI (i+j)) Z Z Z (ah (ai Z Z Z Zy) (bu (by omega)))<|af (t:=.sc (.int .u64 ((i+j:Nat):Int))) Z Z Z (ah (k7 Z mR nF Z) (LD (by omega)))<|af (t:=.sc (.int .u64 (((i+j)/2:Nat):Int))) Z Z Z (ai Z Z Z (fun w=>Ho (i+j) w))<|af (t:=nI ((i+j)/2)) Z Z Z (ah (k7 Z nF mR Z) (LE (by omega)))<|aa 1 Z<|ag<|ab ?_;obtain⟨x,d⟩:∃x,K[(i+j)/2]? =some x:=⟨_,L4 (by omega)⟩;have q:=u x (L9 d);refine ae<|aa 3 Z<|af (t:=.ref [.sl (x.map V.tree)]) Z Z Z (aQ (iK x) Z iL Z Z Z (bf (f:=iK) d) (qn _) Z)<|aa 2 Z<|af (t:=iT (aO x k)) Z Z Z (wW Z Z (jj _ _ q A) Z Z)<|af (t:=bT (decide ((aO x k)<0))) Z Z Z (ai Z Z Z Zy)<|ag<|aF Z (fun e=>?_) (fun e=>?_)
  ·refine ae<|aa 1 Z<|af (t:=nI (((i+j)/2)+1)) Z Z Z (ah (ai Z Z Z Zy) (bu (by omega)))<|aa 1 Z<|ag<|⟨_,_,?_,⟨((i+j)/2)+1,j,?_,Z,Z⟩,⟨Z,Z,Z,.cons Z Z (.cons Z Z (.cons Z Z (.cons Z Z (.cons Z Z (.cons Z Z (.cons Z Z (.cons Z Z .nil))))))),Z⟩⟩
   ·omega
   refine⟨by omega,by omega,fun a y D g=>?_,m⟩;exact v a _ y x (by omega) g d e
  refine aj 2 Z<|⟨_,_,?_,⟨i,(i+j)/2,?_,Z,Z⟩,⟨Z,Z,Z,.cons Z Z (.cons Z Z (.cons Z Z (.cons Z Z (.cons Z Z (.cons Z Z (.cons Z Z (.cons Z Z .nil))))))),Z⟩⟩
  ·omega
  refine⟨by omega,by omega,h,fun b y r g l=>?_⟩;exact e (v _ b x y r d g l)
 refine aZ<|ab<|ae<|aa 3 Z<|af (t:=bT (decide (i<K.length))) Z Z Z (ah (ai Z Z Z Zy) (av (iu i K.length)))<|aa 1 Z<|aA (t:=.sc (Gs 64)) ((decide (i<K.length))=true) Z Z Z au Z Z (fun c=>aw Z Z)<|aA (t:=.sl (K.map iK)) ((decide (i<K.length))=true) Z Z Z au Z Z (fun c=>aw Z Z)<|aA (t:=nI i) ((decide (i<K.length))=true) Z Z Z au Z Z (fun c=>aw Z Z)<|aA (t:=.ref [.sl ((K.getD i []).map V.tree)]) ((decide (i<K.length))=true) Z Z Z au Z Z (fun c=>aQ (iK (K.getD i [])) Z iL (if_pos c) (if_pos c) Z (bf (f:=iK) (Jm (of_decide_eq_true c))) (qn _) Z)<|aA (t:=.sl ((K.getD i []).map V.tree)) ((decide (i<K.length))=true) Z Z Z au Z Z (fun c=>bE Z (if_pos c) cC Z)<|aA (t:=.sl (k.map V.tree)) ((decide (i<K.length))=true) Z Z Z au Z Z (fun c=>aw Z Z)<|aA (t:=iT (aO (K.getD i []) k)) ((decide (i<K.length))=true) Z Z Z au Z Z (fun c=>wW Z (if_pos c) (jj _ _ (Fj u i) A) (eU (if_pos c) (eU (if_pos c) Z)) Z)<|aA (t:=bT ((aO (K.getD i []) k)==0)) ((decide (i<K.length))=true) Z Z Z au Z Z (fun c=>ai Z (if_pos c) Z (fun _=>rfl))<|af (t:=bT ((decide (i<K.length))&&((aO (K.getD i []) k)==0))) Z Z Z (aL Z Z (fun o=>(if_pos o).trans (av (by rw[o];rfl))) (fun o=>(av (by rw[o];rfl))))<|aa 2 Z<|ag<|aC<|⟨.inr Z,_,.cons Z (.cons Z .nil),Hp s (by omega) h m,Z⟩
def ii(s:Sch)(k:List V):List Tp->Nat
 |[]=>0
 |t::ts=>if aO (aG s t.vals) k=0 then ii s k ts+1 else ii s k ts
def i7(s:Sch)(k:List V):List Tp->Rat
 |[]=>0
 |t::ts=>if aO (aG s t.vals) k=0 then t.prob+i7 s k ts else i7 s k ts
theorem sK(s:Sch)(k:List V):∀a b,ii s k (a++b)=ii s k a+ii s k b
 |[],b=>by simp[ii]
 |t::a,b=>by
  have:=sK s k a b;simp only[Ng,ii,this];split<;>omega
theorem sL(s:Sch)(k:List V):∀a b,i7 s k (a++b)=i7 s k a+i7 s k b
 |[],b=>by rw[M6,i7,Rat.zero_add]
 |t::a,b=>by
  have:=sL s k a b;simp only[Ng,i7,this];split
  ·rw[Rat.add_assoc]
  rfl
theorem iD(s:Sch)(k:List V):∀ts i,(bX s k ts i).length=ii s k ts
 |[],_=>rfl
 |t::ts,i=>by
  have:=iD s k ts (i+1);simp only[bX,ii];split
  ·rw[Mb,this]
  exact this
theorem sM(s:Sch)(k:List V):∀a b i,bX s k (a++b) i=bX s k a i++bX s k b (i+a.length)
 |[],b,i=>by simp[bX]
 |t::a,b,i=>by
  have:=sM s k a b (i+1);simp only[Ng,bX,this,Mb,show i+1+a.length=i+(a.length+1) by omega];split<;>rfl
theorem Af(a ts:List Tp)(t:Tp):gO (a++t::ts) a.length=t.prob:=by
 unfold gO;rw[Mw (L5 _),M4];rfl
theorem oV(s:Sch)(k:List V):∀(ts a:List Tp) (q:Rat),(bX s k ts a.length).foldl (fun q i=>q+gO (a++ts) i) q=q+i7 s k ts
 |[],a,q=>by simp[bX,i7];grind
 |t::ts,a,q=>by
  have b:=fun q=>oV s k ts (a++[t]) q
  simp only[Mc,NL,MG,Ps]at b;simp only[bX,i7];split
  ·rw[NH,b,Af,Rat.add_assoc]
  exact b q
theorem nG(s:Sch)(k:List V)(ts:List Tp):dR ts (bX s k ts 0)=i7 s k ts:=by
 have:=oV s k ts [] 0;simp only[Mo,M6]at this;unfold dR;rw[this];grind
theorem uB{s:Sch}{k:List V}:∀{ts:List Tp},(∀t∈ts,aO (aG s t.vals) k≠0)->ii s k ts=0/\∀i,bX s k ts i=[]
 |[],_=>⟨Z,fun _=>rfl⟩
 |t::ts,h=>by
  have b:=uB (s:=s) (k:=k) (ts:=ts) fun x c=>h x (MB _ c)
  have a:=h t (Mr ..);exact⟨by rw[ii,if_neg a,b.1],fun i=>by rw[bX,if_neg a,b.2]⟩
theorem nH{α:Type}(g:α->α)(x:α)(b:List α):∀a:List α,(a++x::b).modify a.length g=a++g x::b
 |[]=>rfl
 |y::a=>by
  have:=nH g x b a;simp[this]
theorem gh{α:Type}(x:α)(b:List α):∀a:List α,(a++b).insertIdx a.length x=a++x::b
 |[]=>by simp
 |y::a=>by
  have:=gh x b a;simp[this]
theorem uC{α:Type}(p:α->Bool)(l:List α):∃a b,l=a++b/\l.takeWhile p=a/\(∀x∈a,p x=true)/\∀y c,b=y::c->p y=false:=by
 induction l with
 |nil=>exact⟨[],[],Z,Z,fun x h=>(by cases h),fun y c h=>(by cases h)⟩
 |cons x l ih=>
  by_cases h:p x=true
  ·obtain⟨a,b,i,k,f,j⟩:=ih;refine⟨x::a,b,by rw[i];rfl,by rw[Nh,if_pos h,k],fun y d=>?_,j⟩;rcases Mi.1 d with rfl|d
   ·exact h
   exact f y d
  refine⟨[],x::l,Z,by rw[Nh,if_neg h],fun x h=>(by cases h),fun y c e=>?_⟩;injection e with g _
  rw[<-g];simpa using h
def Ky(l:List (List V)):Prop:=l.Pairwise fun a b=>aO a b<0
structure GInvP (s:Sch) (pre:List Tp) (st:List (List V)×List (List Nat)):Prop where
 bl:st.2=st.1.map fun k=>bX s k pre 0
 cov:∀t∈pre,aG s t.vals∈st.1
 src:∀k∈st.1,∃t∈pre,aG s t.vals=k
 srt:Ky st.1
theorem mi(s:Sch)(k:List V)(a:List Tp)(t:Tp):bX s k (a++[t]) 0=bX s k a 0++if aO (aG s t.vals) k=0 then [a.length]else []:=by
 rw[sM,M0];simp only[bX]
theorem BX{a b:List V}(h:¬aO a b<0)(c:aO a b≠0):aO b a<0:=by
 have:=mh a b;omega
theorem mS{a b:List V}(h:aO a b<0):aO a b≠0/\aO b a≠0:=by
 have:=mh a b;omega
theorem oW{s:Sch}{a:List Tp}{t:Tp}{l:List (List V)}(h:∀x∈l,aO (aG s t.vals) x≠0):l.map (fun k=>bX s k (a++[t]) 0)=l.map fun k=>bX s k a 0:=by
 refine PC fun x b=>?_
 rw[mi,if_neg (h x b),MA]
theorem xT{s:Sch}{c:List Tp}{t:Tp}{A B:List (List V)}{k:List V}(d:aG s t.vals=k)(g:∀t∈c,aG s t.vals∈A++B)(f:∀k∈A++B,∃t∈c,aG s t.vals=k)(m:Ky (A++B))(o:∀x∈A,aO x k<0)(p:∀x∈B,aO k x<0):
  GInvP s (c++[t]) (A++k::B,((A++B).map fun k=>bX s k c 0).insertIdx A.length [c.length]):=by
 have i:=Od.1 m;have v:∀e∈c,aO (aG s e.vals) k≠0:=fun e q=>by
  rcases My.1 (g e q)with h|h
  ·exact(mS (o _ h)).1
  exact(mS (p _ h)).2
 refine⟨?_,fun e q=>?_,fun x j=>?_,?_⟩
 ·have l:=gh [c.length] (B.map fun k=>bX s k c 0) (A.map fun k=>bX s k c 0);rw[L8]at l;simp only;rw[Nk,l,Nk,MX,oW (fun x j=>by rw[d];exact(mS (o x j)).2),oW (fun x j=>by rw[d];exact(mS (p x j)).1),mi,d,if_pos (kI k),(uB v).2];rfl
 ·simp only[My,Mi];rcases My.1 q with h|h
  ·rcases My.1 (g e h)with h|h
   ·exact .inl h
   exact .inr (.inr h)
  rw[Ml.1 h,d];exact .inr (.inl Z)
 ·simp only[My,Mi]at j;rcases j with h|rfl|h
  ·obtain⟨e,l,r⟩:=f x (Om _ h);exact⟨e,Om _ l,r⟩
  ·exact⟨t,by simp,d⟩
  obtain⟨e,l,r⟩:=f x (Pq _ h);exact⟨e,Om _ l,r⟩
 refine Od.2 ⟨i.1,Oc.2 ⟨p,i.2.1⟩,fun a u b n=>?_⟩;rcases Mi.1 n with rfl|n
 ·exact o a u
 exact i.2.2 a u b n
theorem Fk{s:Sch}{a:List Tp}{t:Tp}{A B:List (List V)}{k:List V}(b:aG s t.vals=k)(g:∀t∈a,aG s t.vals∈A++k::B)(e:∀x∈A++k::B,∃t∈a,aG s t.vals=x)(c:Ky (A++k::B)):
  GInvP s (a++[t]) (A++k::B,((A++k::B).map fun k=>bX s k a 0).modify A.length (· ++[a.length])):=by
 have f:=Od.1 c;have m:=(Oc.1 f.2.1).1;have l:∀x∈A,aO x k<0:=fun x d=>f.2.2 x d k (Mr ..)
 refine⟨?_,fun j n=>?_,fun x d=>?_,c⟩
 ·have i:=nH (· ++[a.length]) (bX s k a 0) (B.map fun k=>bX s k a 0) (A.map fun k=>bX s k a 0);rw[L8]at i;simp only;rw[Nk,MX,i,Nk,MX,oW (fun x d=>by rw[b];exact(mS (l x d)).2),oW (fun x d=>by rw[b];exact(mS (m x d)).1),mi,b,if_pos (kI k)]
 ·rcases My.1 n with h|h
  ·exact g j h
  rw[Ml.1 h,b];simp
 obtain⟨j,i,o⟩:=e x d;exact⟨j,Om _ i,o⟩
theorem C8{s:Sch}{i:List Tp}{t:Tp}{r:List (List V)×List (List Nat)}(h:GInvP s i r)(D:aG s t.vals≠ []):GInvP s (i++[t]) (gV s r i.length t):=by
 obtain⟨f,w⟩:=r;obtain⟨l,d,b,a⟩:=h;simp only at l d b a;subst l;unfold gV;rw[if_neg D];simp only;obtain⟨k,e⟩:∃k,aG s t.vals=k:=⟨_,rfl⟩;rw[e];obtain⟨A,B,u,j,E,C⟩:=uC (fun x=>decide (aO x k<0)) f;have v:bk f k=A.length:=by unfold bk;rw[j]
 rw[v];clear v j;subst u;have n:∀x∈A,aO x k<0:=fun x g=>of_decide_eq_true (E x g)
 have q:=Od.1 a;have o:(A++B)[A.length]? =B.head?:=by
  rw[Mw (L5 _),M4,P7]
 rw[o];cases B with
 |nil=>
  rw[if_neg (c:=(([]:List (List V)).head?.any fun x=>aO x k==0)=true) MR,gh];exact xT e d b a n (fun x g=>by cases g)
 |cons y B=>
  have z:¬aO y k<0:=of_decide_eq_false (C y B Z);by_cases p:aO y k=0
  ·rw[if_pos (c:=((y::B).head?.any fun x=>aO x k==0)=true) (show(aO y k==0)=true by rw[p];rfl)];obtain rfl:=(jZ y k).1 p;exact Fk e d b a
  rw[if_neg (c:=((y::B).head?.any fun x=>aO x k==0)=true) (show¬(aO y k==0)=true by simpa using p),gh];have m:=BX z p;refine xT e d b a n fun x g=>?_
  rcases Mi.1 g with rfl|g
  ·exact m
  exact iC m ((Oc.1 q.2.1).1 x g)
theorem i8{s:Sch}:∀(ts a:List Tp) (b:List (List V)×List (List Nat)),GInvP s a b->(∀t∈ts,aG s t.vals≠ [])->GInvP s (a++ts) (dh s b a.length ts)
 |[],a,b,h,_=>by rw[MA];exact h
 |t::ts,a,b,h,hk=>by
  have c:=i8 ts (a++[t]) _ (C8 h (hk t (Mr ..))) fun x d=>hk x (MB _ d)
  rw[MG,Mc]at c;exact c
theorem vZ{r:Rel}(d:r.sch.cert=false)(b:∀t∈r.tups,aG r.sch t.vals≠ []):∃a:List (List V),aP r=a.map (fun k=>bX r.sch k r.tups 0)/\(∀t∈r.tups,aG r.sch t.vals∈a)/\∀k∈a,∃t∈r.tups,aG r.sch t.vals=k:=by
 have h:=i8 (s:=r.sch) r.tups [] ([],[]) ⟨Z,fun t c=>(by cases c),fun k b=>(by cases b),List.Pairwise.nil⟩ b;rw[M6]at h;refine⟨_,?_,h.cov,h.src⟩;unfold aP;rw[if_neg (by rw[d];simp)];exact h.bl
theorem lJ{s:Sch}:∀(ts:List Tp) (a:List (List V)×List (List Nat)) (i:Nat),(∀t∈ts,aG s t.vals=[])->(dh s a i ts).2=a.2++(List.range' i ts.length).map ([·])
 |[],a,i,_=>by simp[dh]
 |t::ts,a,i,h=>by
  have d:=lJ ts (gV s a i t) (i+1) fun x b=>h x (MB _ b)
  have c:(gV s a i t).2=a.2++[[i]]:=by unfold gV;rw[if_pos (h t (Mr ..))]
  rw[dh,d,c,Mb,List.range'_succ,MX,MG];rfl
theorem nj(s:Sch)(t:Tp):∀(ts:List Tp) (a:List (List V)×List (List Nat)) (i:Nat),dh s a i (ts++[t])=gV s (dh s a i ts) (i+ts.length) t
 |[],a,i=>rfl
 |x::ts,a,i=>by
  rw[Ng,dh,nj s t ts,dh,Mb,show i+1+ts.length=i+(ts.length+1) by omega]
def mj(l:List Nat):List Value:=l.map fun i=>.int .i64 (i:Nat)
def NB(v:Value)(vs:List Value)(b:Nat):Prop:=v.ownBlock=some b\/∃u∈vs,u.ownBlock=some b
def EIs(w:World)(base:Nat)(u:Value)(l:List Nat):Prop:=w.ownsRow base 3 1 u l.length (mj l)/\∀g,u.ownBlock=some g->NoDigB w g
structure Nest (w:World) (base:Nat) (v:Value) (vs:List Value) (L:List (List Nat)):Prop where
 row:w.ownsRow base 23 1 v L.length vs
 rd:∀g,v.ownBlock=some g->NoDigB w g
 el:∀(j:Nat) (u:Value) (l:List Nat),vs[j]? =some u->L[j]? =some l->EIs w base u l
 apart:∀(j k:Nat) (u t:Value) (b:Nat),j≠k->vs[j]? =some u->vs[k]? =some t->u.ownBlock=some b->t.ownBlock=some b->False
 out:∀u∈vs,∀b,u.ownBlock=some b->v.ownBlock≠some b
section
variable {w w':World} {base:Nat} {v:Value} {vs:List Value} {L:List (List Nat)}
theorem Nest.len(h:Nest w base v vs L):vs.length=L.length:=by have:=h.row.1;omega
theorem Nest.nil(w:World)(base:Nat):Nest w base (.slice none 0 0) [] []:=⟨World.ownsRow_nil _ _ _ _,fun g a=>(by cases a),fun j u l h=>(by simp at h),fun j k u t b _ h=>(by simp at h),fun u h=>(by cases h)⟩
theorem gQ{e:TypeId}{sz n:Nat}{u:Value}{xs:List Value}(h:w.ownsRow base e sz u n xs)(d:∀b,u.ownBlock=some b->w'.heap[b]? =w.heap[b]?):w'.ownsRow base e sz u n xs:=by
 refine⟨h.1,?_⟩;rcases h.2 with j|⟨g,a,cur,rfl,i,f,c⟩
 ·exact .inl j
 exact .inr ⟨g,a,cur,Z,i,by rw[d g Z];exact f,c⟩
theorem EIs.kept{u:Value}{l:List Nat}(h:EIs w base u l)(c:∀b,u.ownBlock=some b->w'.heap[b]? =w.heap[b]?):EIs w' base u l:=⟨gQ h.1 c,fun g a=>(h.2 g a).of (c g a)⟩
theorem Nest.kept(h:Nest w base v vs L)(c:∀b,NB v vs b->w'.heap[b]? =w.heap[b]?):Nest w' base v vs L:=
 ⟨gQ h.row fun b a=>c b (.inl a),fun g d=>(h.rd g d).of (c g (.inl d)),fun j u l e f=>(h.el j u l e f).kept fun b a=>c b (.inr ⟨u,L9 e,a⟩),h.apart,h.out⟩
theorem Nest.ok(h:Nest w base v vs L):∀g,NB v vs g->base<=g/\g<w.heap.size/\NoDigB w g:=by
 rintro g (a|⟨u,b,a⟩)
 ·have:=h.row.lt g a;exact⟨this.1,this.2,h.rd g a⟩
 obtain⟨j,d,rfl⟩:=Nb b;have f:=h.len;obtain⟨c,e⟩:=h.el j _ (L[j]'(by omega)) (L4 d) (L4 (by omega));have:=c.lt g a;exact⟨this.1,this.2,e g a⟩
theorem Nest.later(h:Nest w base v vs L)(c:Below w.heap.size w w'):Nest w' base v vs L:=h.kept fun b a=>c.block b (h.ok b a).2.1
theorem oX:∀{es:List Tree},(∀e∈es,e.cells=[e])->flat es=es
 |[],_=>rfl
 |e::es,h=>by rw[ei,h e (Mr ..),oX fun x a=>h x (MB _ a)];rfl
theorem BY(w:World)(G:Nat->Prop):∀l:List Nat,PT w G (mj l) (l.map fw)
 |[]=>.nil
 |_::l=>.sc _ (BY w G l)
theorem Fl{G:Nat->Prop}:∀{us:List Value} {ts:List Tree},us.length=ts.length->(∀(j:Nat) u t,us[j]? =some u->ts[j]? =some t->PT w G [u] [t])->PT w G us ts
 |[],[],_,_=>.nil
 |[],_::_,h,_=>by simp at h
 |_::_,[],h,_=>by simp at h
 |u::us,t::ts,hl,h=>(h 0 u t Z Z).cons (Fl (by simpa using hl) fun j x y a b=>h (j+1) x y (by simpa using a) (by simpa using b))
theorem Jo{G:Nat->Prop}{u:Value}{l:List Nat}(h:EIs w base u l)(k:∀g,u.ownBlock=some g->¬G g):PT w G [u] [iQ l]:=by
 rcases h.1.2 with⟨rfl,a⟩|⟨g,b,cur,rfl,n,f,a,d,o,m⟩
 ·obtain rfl:l=[]:=Mk a;exact dI _ _
 refine .sl g 0 b _ (mj l) (l.map fw) (ML.1 f).1 (k g Z) (fun j u c=>?_) (by simp) (by simpa using a) (by unfold maxLen at d;omega) ?_ .nil
 ·have:=World.ownsRow.cells h.1 (g:=g) Z j u c;rw[m5]at this;rw[M0];exact this
 rw[oX (fun e i=>by obtain⟨x,_,rfl⟩:=Ny.1 i;rfl)];exact BY w G l
theorem Nest.els(h:Nest w base v vs L){G:Nat->Prop}(e:∀g,NB v vs g->¬G g):PT w G vs (L.map iQ):=
 Fl (by rw[L8,h.len]) fun j u t b a=>by
  rw[MQ]at a;obtain⟨l,c,rfl⟩:=Na.1 a;exact Jo (h.el j u l b c) fun g d=>e g (.inr ⟨u,L9 b,d⟩)
theorem Fm{G:Nat->Prop}{e:TypeId}{v:Value}{xs:List Value}{es:List Tree}(d:w.ownsRow base e 1 v es.length xs)(k:∀g,v.ownBlock=some g->¬G g)(f:PT w G xs (flat es)):PT w G [v] [.sl es]:=by
 rcases d.2 with⟨rfl,a⟩|⟨g,b,cur,rfl,m,i,a,c,n,l⟩
 ·obtain rfl:es=[]:=Mk a;exact dI _ _
 refine .sl g 0 b _ xs es (ML.1 i).1 (k g Z) (fun j u h=>?_) Z a (by unfold maxLen at c;omega) f .nil;have:=World.ownsRow.cells d (g:=g) Z j u h;rw[m5]at this;rw[M0];exact this
theorem Fn(L:List (List Nat)):flat (L.map iQ)=L.map iQ:=oX fun e a=>by obtain⟨x,_,rfl⟩:=Ny.1 a;rfl
theorem Fo(K:List (List V)):flat (K.map iK)=K.map iK:=oX fun e a=>by obtain⟨x,_,rfl⟩:=Ny.1 a;rfl
theorem Nest.pt(h:Nest w base v vs L){G:Nat->Prop}(a:∀g,NB v vs g->¬G g):PT w G [v] [.sl (L.map iQ)]:=
 Fm (base:=base) (e:=23) (xs:=vs) (by rw[L8];exact h.row) (fun g b=>a g (.inl b)) (by rw[Fn];exact h.els a)
theorem mT{α:Type}(l:List α)(x:α){i:Nat}(d:i<=l.length)(j:Nat):(l.take i++[x]++l.drop i)[j]? =if j<i then l[j]? else if j=i then some x else l[j-1]? :=by
 have c:(l.take i).length=i:=by rw[Mf];omega
 rw[MG];by_cases a:j<i
 ·rw[if_pos a,ME (by omega),MZ,if_pos a]
 rw[if_neg a,Mw (by omega),c];by_cases b:j=i
 ·subst b;rw[if_pos Z,M4];rfl
 rw[if_neg b,show j-i=(j-i-1)+1 by omega,Ps,Pd,Nd];congr 1;omega
theorem dV{r:Option Nat}(c:w.grownBy w' r){b:Nat}(d:b<w.heap.size)(a:r≠some b):w'.heap[b]? =w.heap[b]? :=c.block b d fun e=>a e.symm
theorem Nest.add(h:Nest w base v vs L){i x:Nat}{u v':Value}(D:EIs w base u [x])(r:∀g,u.ownBlock=some g->¬NB v vs g)(P:w'.ownsRow base 23 1 v' (L.length+1) (vs.take i++[u]++vs.drop i))(I:w.grownBy w' v.ownBlock)(A:v'.ownBlock=v.ownBlock\/v'.ownBlock=some w.heap.size)(O:∀g,v'.ownBlock=some g->NoDigB w' g)(N:i<=L.length):
  Nest w' base v' (vs.take i++[u]++vs.drop i) (L.take i++[[x]]++L.drop i):=by
 have Q:=h.len;have G:∀b,u.ownBlock=some b->w'.heap[b]? =w.heap[b]? :=fun b n=>dV I (D.1.lt b n).2 fun e=>r b n (.inl e)
 have y:∀t∈vs,∀b,t.ownBlock=some b->w'.heap[b]? =w.heap[b]? :=fun t a b n=>dV I (h.ok b (.inr ⟨t,a,n⟩)).2.1 fun e=>h.out t a b n e
 have p:∀t∈vs.take i++[u]++vs.drop i,t∈vs\/t=u:=fun t a=>by
  simp only[My,Ml]at a;rcases a with(h|h)|h
  ·exact .inl (MC h)
  ·exact .inr h
  exact .inl (M2 h)
 have E:∀t∈vs.take i++[u]++vs.drop i,∀b,t.ownBlock=some b->b<w.heap.size:=fun t a b n=>by
  rcases p t a with o|rfl
  ·exact(h.ok b (.inr ⟨t,o,n⟩)).2.1
  exact(D.1.lt b n).2
 refine⟨by rw[show(L.take i++[[x]]++L.drop i).length=L.length+1 by simp;omega];exact P,O,fun j t l a f=>?_,fun j k s t b F m a c d=>?_,fun t a b n e=>?_⟩
 ·rw[mT _ _ (by omega)]at a;rw[mT _ _ N]at f;by_cases o:j<i
  ·rw[if_pos o]at a f;exact(h.el j t l a f).kept (y t (L9 a))
  rw[if_neg o]at a f;by_cases C:j=i
  ·rw[if_pos C]at a f;cases a;cases f;exact D.kept G
  rw[if_neg C]at a f;exact(h.el _ t l a f).kept (y t (L9 a))
 ·have key:∀(H:Nat) (B:Value),vs[H]? =some B->B.ownBlock=some b->u.ownBlock=some b->False:=fun H B o C M=>r b M (.inr ⟨B,L9 o,C⟩)
  rw[mT _ _ (by omega)]at m a;by_cases J:j<i
  ·rw[if_pos J]at m;by_cases q:k<i
   ·rw[if_pos q]at a;exact h.apart j k s t b F m a c d
   rw[if_neg q]at a;by_cases z:k=i
   ·rw[if_pos z]at a;cases a;exact key _ _ m c d
   rw[if_neg z]at a;exact h.apart j (k-1) s t b (by omega) m a c d
  rw[if_neg J]at m;by_cases K:j=i
  ·rw[if_pos K]at m;cases m;by_cases q:k<i
   ·rw[if_pos q]at a;exact key _ _ a d c
   rw[if_neg q,if_neg (by omega)]at a;exact key _ _ a d c
  rw[if_neg K]at m;by_cases q:k<i
  ·rw[if_pos q]at a;exact h.apart (j-1) k s t b (by omega) m a c d
  rw[if_neg q]at a;by_cases z:k=i
  ·rw[if_pos z]at a;cases a;exact key _ _ m c d
  rw[if_neg z]at a;exact h.apart (j-1) (k-1) s t b (by omega) m a c d
 rcases A with A|A
 ·rw[A]at e;rcases p t a with o|rfl
  ·exact h.out t o b n e
  exact r b n (.inl e)
 rw[A]at e;injection e with e
 have:=E t a b n;omega
theorem Nest.app(h:Nest w base v vs L){j x g c:Nat}{u i:Value}{l:List Nat}(J:vs[j]? =some u)(T:L[j]? =some l)(Y:v=.slice (some ⟨g,0,none⟩) L.length c)(X:w'.ownsRow base 3 1 i (l.length+1) (mj (l++[x])))(S:w.grownBy w' u.ownBlock)(R:i.ownBlock=u.ownBlock\/i.ownBlock=some w.heap.size)(W:∀g,i.ownBlock=some g->NoDigB w' g)(P:bL i=true):
  Nest (w'.setCell ⟨g,j,none⟩ i) base v (vs.set j i) (L.set j (l++[x])):=by
 subst Y;have N:=L9 J;have E:u.ownBlock≠some g:=fun e=>h.out u N g e Z
 have K:=(h.row.lt g Z).2;have H:w'.heap[g]? =w.heap[g]? :=dV S K E;have o:=gQ h.row (w':=w') fun b a=>by injection a with a;subst a;exact H
 have f:∀(k:Nat) (t:Value),(vs.set j i)[k]? =some t->(k=j/\t=i)\/(k≠j/\vs[k]? =some t):=fun k t d=>by
  rw[OQ]at d;split at d
  ·next e=>
   subst e;split at d
   ·cases d;exact .inl ⟨Z,Z⟩
   cases d
  next e=>exact .inr ⟨fun U=>e U.symm,d⟩
 have C:i.ownBlock≠some g:=fun e=>by
  rcases R with y|y
  ·exact E (y▸e)
  rw[y]at e;injection e with e;omega
 have D:∀b,b≠g->(w'.setCell ⟨g,j,none⟩ i).heap[b]? =w'.heap[b]? :=fun b a=>by
  simp only[World.setCell];rw[NJ,if_neg (fun e=>a e.symm)]
 have M:∀(k:Nat) (t:Value),k≠j->vs[k]? =some t->∀b,t.ownBlock=some b->(w'.setCell ⟨g,j,none⟩ i).heap[b]? =w.heap[b]? :=fun k t p d b a=>by
  have I:=L9 d;rw[D b fun e=>h.out t I b a (by rw[e];rfl)];exact dV S (h.ok b (.inr ⟨t,I,a⟩)).2.1 fun e=>h.apart k j t u b p d J a e
 have r:∀(k:Nat) (t:Value),k≠j->vs[k]? =some t->∀b,t.ownBlock=some b->i.ownBlock≠some b:=fun k t p d b a e=>by
  rcases R with y|y
  ·exact h.apart k j t u b p d J a (y▸e)
  rw[y]at e;injection e with e
  have:=(h.ok b (.inr ⟨t,L9 d,a⟩)).2.1;omega
 refine⟨by rw[MU];exact iR o i,fun g' B=>?_,fun k t V d q=>?_,fun k m s t b F hs d z A=>?_,fun t d b a e=>?_⟩
 ·injection B with B
  subst B;exact uz o ((h.rd g Z).of H) P
 ·rcases f k t d with⟨rfl,rfl⟩|⟨p,n⟩
  ·have Q:=(L7.1 T).1;rw[NA Q]at q;cases q;refine⟨?_,fun b a=>(W b a).of (D b fun e=>C (e▸a))⟩;rw[Mc,NL];exact gQ X fun b a=>D b fun e=>C (e▸a)
  rw[Nm (fun e=>p e.symm)]at q;exact(h.el k t V n q).kept (M k t p n)
 ·rcases f k s hs with⟨rfl,rfl⟩|⟨p,G⟩
  ·rcases f m t d with⟨rfl,rfl⟩|⟨I,n⟩
   ·exact F Z
   exact r m t I n b A z
  rcases f m t d with⟨rfl,rfl⟩|⟨I,n⟩
  ·exact r k s p G b z A
  exact h.apart k m s t b F G n z A
 injection e with e
 subst e;obtain⟨k,p,rfl⟩:=Nb d;rcases f k _ (L4 p)with⟨_,O⟩|⟨_,O⟩
 ·rw[O]at a;exact C a
 exact h.out _ (L9 O) g a Z
structure KeyR (w:World) (base:Nat) (v:Value) (xs:List Value) (K:List (List V)) (G:Nat->Prop):Prop where
 row:w.ownsRow base 61 1 v K.length xs
 rd:∀g,v.ownBlock=some g->NoDigB w g
 els:PT w G xs (K.map iK)
theorem KeyR.nil(w:World)(base:Nat)(G:Nat->Prop):KeyR w base (.slice none 0 0) [] [] G:=⟨World.ownsRow_nil _ _ _ _,fun g a=>(by cases a),.nil⟩
theorem KeyR.turn{xs:List Value}{K:List (List V)}{G G':Nat->Prop}(h:KeyR w base v xs K G)(d:w.heap.size<=w'.heap.size)(c:∀b,v.ownBlock=some b->w'.heap[b]? =w.heap[b]?)(e:∀b,b<w.heap.size->¬G b->w'.heap[b]? =w.heap[b]? /\¬G' b):KeyR w' base v xs K G':=
 ⟨gQ h.row c,fun g a=>(h.rd g a).of (c g a),h.els.mono d e⟩
theorem KeyR.pt{xs:List Value}{K:List (List V)}{G G':Nat->Prop}(h:KeyR w base v xs K G)(a:∀b,¬G b->¬G' b)(c:∀g,v.ownBlock=some g->¬G' g):PT w G' [v] [.sl (K.map iK)]:=
 Fm (base:=base) (e:=61) (xs:=xs) (by rw[L8];exact h.row) c (by rw[Fo];exact h.els.sub a)
end
end Go.Proofs.YtfoejfohbkmmeaaGreatDoor
