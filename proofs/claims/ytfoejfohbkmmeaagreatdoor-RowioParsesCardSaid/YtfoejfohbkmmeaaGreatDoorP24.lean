import Derived.Test.YtfoejfohbkmmeaaGreatDoorP22
import Derived.Test.YtfoejfohbkmmeaaGreatDoorP09
import Derived.Test.YtfoejfohbkmmeaaGreatDoorP23
import Derived.Test.YtfoejfohbkmmeaaGreatDoorP00
import Derived.Test.YtfoejfohbkmmeaaGreatDoorP06
import Derived.Test.YtfoejfohbkmmeaaGreatDoorP21
set_option maxRecDepth 100000
set_option maxHeartbeats 4000000
namespace Go.Proofs.YtfoejfohbkmmeaaGreatDoor
open Go.RowKit
open Lib renaming hid→J
def jb(k:List V):Tree:=.sl (k.map V.tree)
theorem qT(l:List (List V)):Sized 1 (l.map jb):=Sized.map _ l fun _=>rfl
def K5(K:List (List V))(k:List V):Prop:=∀(a b:Nat) (x y:List V),a<=b->K[a]? =some x->K[b]? =some y->aX y k<0->aX x k<0
theorem po{α:Type}{p:α->Bool}:∀{l:List α} {i:Nat},i<=l.length->(∀a x,a<i->l[a]? =some x->p x=true)->(∀x,l[i]? =some x->p x=false)->(l.takeWhile p).length=i
 |[],i,h,_,_=>by simp at h;simp[h]
 |y::l,0,_,_,h2=>by
  have:=h2 y Z;simp[M0,this]
 |y::l,i+1,h,h1,h2=>by
  have d:=h1 0 y (by omega) Z;have c:=po (p:=p) (l:=l) (i:=i) (by simpa using h) (fun a x e b=>h1 (a+1) x (by omega) (by simpa using b)) (fun x b=>h2 x (by simpa using b));simp[M0,d,c]
theorem J5{K:List (List V)}{i:Nat}(h:i<K.length):K[i]? =some (K.getD i []):=by
 rw[Mk,L3 h,MG]
theorem FR{K:List (List V)}(h:∀x∈K,x.length<=65536)(i:Nat):(K.getD i []).length<=65536:=by
 rcases MA i K.length with a|a
 ·exact h _ (L7 (J5 a))
 rw[Mk,Nn a];simp
theorem LL{a:Nat}(h:a<9223372036854775808):(Tree.sc (.int .u64 (IntKind.u64.wrap ((a:Nat):Int))))=.sc (.int .u64 ((a:Nat):Int)):=by rw[show IntKind.u64.wrap ((a:Nat):Int)=((a:Nat):Int) by rw[IntKind.wrap_u64];omega]
theorem LM{a:Nat}(h:a<9223372036854775808):(Tree.sc (.int .i64 (IntKind.i64.wrap ((a:Nat):Int))))=nI a:=by rw[show IntKind.i64.wrap ((a:Nat):Int)=((a:Nat):Int) by rw[Np];omega]
theorem Ix{x y:Operand}(a:Nat)(w:World):(do eqGuard .shr 36 x y (.int .u64 (a:Nat)) (.int .u64 1);binOp .shr 36 (.int .u64 (a:Nat)) (.int .u64 1):Sem Value).run Tryz.prog w=.ok (.int .u64 ((a/2:Nat):Int)) w:=by
 simp[eqGuard,binOp,Op.shift,IntKind.bits];exact PK _ (by omega)
theorem Iy{K:List (List V)}{k:List V}{i j:Nat}(g:j<=K.length)(e:i=j)(m:∀a x,a<i->K[a]? =some x->aX x k<0)(l:∀b y,j<=b->K[b]? =some y->¬aX y k<0):mT [nI i,bT ((decide (i<K.length))&&((aX (K.getD i []) k)==0))]=.tup [nI (bu K k),bT ((K[bu K k]?).any fun x=>aX x k==0)]:=by
 subst e;have h:bu K k=i:=po g (fun a x f d=>decide_eq_true (m a x f d)) (fun x d=>decide_eq_false (l i x (L4 _) d));rw[h];rcases MA i K.length with c|c
 ·rw[J5 c,decide_eq_true c];rfl
 rw[decide_eq_false (by omega),Nn c];rfl
theorem jc:gN Tryz.prog 151=some (61,1):=by kernel_rfl
theorem iJ:Tryz.prog.underlying 3=some (.int .i64):=by kernel_rfl
theorem iK:Tryz.prog.underlying 36=some (.int .u64):=by kernel_rfl
theorem J6(K:List (List V))(k:List V)(E:K.length<=65536)(u:K5 K k)(z:∀x∈K,x.length<=65536)(v:k.length<=65536):Ct 126 [.sl (K.map jb),.sl (k.map V.tree),.sc (Hd 64)] (.tup [nI (bu K k),bT ((K[bu K k]?).any fun x=>aX x k==0)]):=by
 refine Ct.of (n:=49) Tryz.func126 Z Z Z Z Z fun w0 G0=>?_
 refine ab<|aj 2 Z<|ab<|ae<|aa 1 Z<|af (t:=nI K.length) Z Z Z (ah (aZ Z jc Z) (by simp only[L5]))<|aa 1 Z<|ag<|ab<|aj 3 Z<|ab<|aB<|aR (fun A B=>∃(i:Nat) (j:Nat),(i<=j/\j<=K.length/\(∀a x,a<i->K[a]? =some x->aX x k<0)/\∀b y,j<=b->K[b]? =some y->¬aX y k<0)/\A=j-i/\B=⟨49,[(0,.sl (K.map jb)),(1,.sl (k.map V.tree)),(2,.sc (Hd 64)),(6,iT 0),(7,bT false),(8,nI K.length),(9,nI i),(10,nI j)],[],[]⟩) 0 0 ⟨0,K.length,⟨Mp _,L4 _,fun a x C=>by omega,fun b y s g=>by rw[Nn s]at g;cases g⟩,Z,Z⟩ .rf ?_;rintro A B ⟨i,j,⟨D,r,h,l⟩,rfl,rfl⟩;refine ab<|ab<|ae<|aa 2 Z<|af (t:=bT (decide (i<j))) Z Z Z (ah (ai Z Z Z Zy) (ar (gA i j)))<|ag<|aD Z (fun p=>?_) (fun p=>?_)
 ·refine am<|aB<|ab<|ae<|aa 2 Z<|af (t:=nI (i+j)) Z Z Z (ah (ai Z Z Z Zy) (bi (by omega)))<|af (t:=.sc (.int .u64 ((i+j:Nat):Int))) Z Z Z (ah (g9 Z iJ iK Z) (LL (by omega)))<|af (t:=.sc (.int .u64 (((i+j)/2:Nat):Int))) Z Z Z (ai Z Z Z (fun w=>Ix (i+j) w))<|af (t:=nI ((i+j)/2)) Z Z Z (ah (g9 Z iK iJ Z) (LM (by omega)))<|aa 1 Z<|ag<|ab ?_;obtain⟨x,d⟩:∃x,K[(i+j)/2]? =some x:=⟨_,L3 (by omega)⟩;have q:=z x (L7 d);refine ae<|aa 3 Z<|af (t:=.ref [.sl (x.map V.tree)]) Z Z Z (aM (jb x) Z jc Z Z Z (aS (f:=jb) d) (qT _) Z)<|aa 2 Z<|af (t:=iT (aX x k)) Z Z Z (xF Z Z (jG _ _ q v) Z Z)<|af (t:=bT (decide ((aX x k)<0))) Z Z Z (ai Z Z Z Zy)<|ag<|aD Z (fun e=>?_) (fun e=>?_)
  ·refine ae<|aa 1 Z<|af (t:=nI (((i+j)/2)+1)) Z Z Z (ah (ai Z Z Z Zy) (bi (by omega)))<|aa 1 Z<|ag<|⟨_,_,?_,⟨((i+j)/2)+1,j,?_,Z,Z⟩,.rf⟩
   ·omega
   refine⟨by omega,by omega,fun a y C g=>?_,l⟩;exact u a _ y x (by omega) g d e
  refine aj 2 Z<|⟨_,_,?_,⟨i,(i+j)/2,?_,Z,Z⟩,.rf⟩
  ·omega
  refine⟨by omega,by omega,h,fun b y s g m=>?_⟩;exact e (u _ b x y s d g m)
 refine aT<|ab<|ae<|aa 3 Z<|af (t:=bT (decide (i<K.length))) Z Z Z (ah (ai Z Z Z Zy) (ar (gA i K.length)))<|aa 1 Z<|aq (t:=.sc (Hd 64)) Z Z Z Z (fun c=>au Z Z)<|aq (t:=.sl (K.map jb)) Z Z Z Z (fun c=>au Z Z)<|aq (t:=nI i) Z Z Z Z (fun c=>au Z Z)<|aq (t:=.ref [.sl ((K.getD i []).map V.tree)]) Z Z Z Z (fun c=>aM (jb (K.getD i [])) Z jc (if_pos c) (if_pos c) Z (aS (f:=jb) (J5 (of_decide_eq_true c))) (qT _) Z)<|aq (t:=.sl ((K.getD i []).map V.tree)) Z Z Z Z (fun c=>bz Z (if_pos c) cU Z)<|aq (t:=.sl (k.map V.tree)) Z Z Z Z (fun c=>au Z Z)<|aq (t:=iT (aX (K.getD i []) k)) Z Z Z Z (fun c=>xF Z (if_pos c) (jG _ _ (FR z i) v) (eR (if_pos c) (eR (if_pos c) Z)) Z)<|aq (t:=bT ((aX (K.getD i []) k)==0)) Z Z Z Z (fun c=>ai Z (if_pos c) Z (fun _=>rfl))<|af (t:=bT ((decide (i<K.length))&&((aX (K.getD i []) k)==0))) Z Z Z (aK Z Z (fun o=>(if_pos o).trans (ar (by rw[o];rfl))) (fun o=>(ar (by rw[o];rfl))))<|aa 2 Z<|ag<|aw<|⟨.inr Z,_,.cons Z (.cons Z .nil),Iy r (by omega) h l,Z⟩
def iL(s:Sch)(k:List V):List Tp->Nat
 |[]=>0
 |t::ts=>if aX (aG s t.vals) k=0 then iL s k ts+1 else iL s k ts
def jx(s:Sch)(k:List V):List Tp->Rat
 |[]=>0
 |t::ts=>if aX (aG s t.vals) k=0 then t.prob+jx s k ts else jx s k ts
theorem sV(s:Sch)(k:List V):∀a b,iL s k (a++b)=iL s k a+iL s k b
 |[],b=>by simp[iL]
 |t::a,b=>by
  have:=sV s k a b;simp only[Na,iL,this];split<;>omega
theorem sW(s:Sch)(k:List V):∀a b,jx s k (a++b)=jx s k a+jx s k b
 |[],b=>by rw[MI,jx,Rat.zero_add]
 |t::a,b=>by
  have:=sW s k a b;simp only[Na,jx,this];split
  ·rw[Rat.add_assoc]
  rfl
theorem iV(s:Sch)(k:List V):∀ts i,(bX s k ts i).length=iL s k ts
 |[],_=>rfl
 |t::ts,i=>by
  have:=iV s k ts (i+1);simp only[bX,iL];split
  ·rw[L9,this]
  exact this
theorem sX(s:Sch)(k:List V):∀a b i,bX s k (a++b) i=bX s k a i++bX s k b (i+a.length)
 |[],b,i=>by simp[bX]
 |t::a,b,i=>by
  have:=sX s k a b (i+1);simp only[Na,bX,this,L9,show i+1+a.length=i+(a.length+1) by omega];split<;>rfl
theorem AN(a ts:List Tp)(t:Tp):ii (a++t::ts) a.length=t.prob:=by
 unfold ii;rw[Mz (L4 _),M2];rfl
theorem pp(s:Sch)(k:List V):∀(ts a:List Tp) (q:Rat),(bX s k ts a.length).foldl (fun q i=>q+ii (a++ts) i) q=q+jx s k ts
 |[],a,q=>by simp[bX,jx];grind
 |t::ts,a,q=>by
  have b:=fun q=>pp s k ts (a++[t]) q
  simp only[Mb,NL,Mv,Oi]at b;simp only[bX,jx];split
  ·rw[NG,b,AN,Rat.add_assoc]
  exact b q
theorem n9(s:Sch)(k:List V)(ts:List Tp):ef ts (bX s k ts 0)=jx s k ts:=by
 have:=pp s k ts [] 0;simp only[Mg,MI]at this;unfold ef;rw[this];grind
theorem uQ{s:Sch}{k:List V}:∀{ts:List Tp},(∀t∈ts,aX (aG s t.vals) k≠0)->iL s k ts=0/\∀i,bX s k ts i=[]
 |[],_=>⟨Z,fun _=>rfl⟩
 |t::ts,h=>by
  have b:=uQ (s:=s) (k:=k) (ts:=ts) fun x c=>h x (Ms _ c)
  have a:=h t (Ml ..);exact⟨by rw[iL,if_neg a,b.1],fun i=>by rw[bX,if_neg a,b.2]⟩
theorem oc{α:Type}(g:α->α)(x:α)(b:List α):∀a:List α,(a++x::b).modify a.length g=a++g x::b
 |[]=>rfl
 |y::a=>by
  have:=oc g x b a;simp[Qc,this]
theorem gI{α:Type}(x:α)(b:List α):∀a:List α,(a++b).insertIdx a.length x=a++x::b
 |[]=>by simp
 |y::a=>by
  have:=gI x b a;simp[this]
theorem uR{α:Type}(p:α->Bool)(l:List α):∃a b,l=a++b/\l.takeWhile p=a/\(∀x∈a,p x=true)/\∀y c,b=y::c->p y=false:=by
 induction l with
 |nil=>exact⟨[],[],Z,Z,fun x h=>(by cases h),fun y c h=>(by cases h)⟩
 |cons x l ih=>
  by_cases h:p x=true
  ·obtain⟨a,b,k,g,j,f⟩:=ih;refine⟨x::a,b,by rw[k];rfl,by rw[M0,if_pos h,g],fun y d=>?_,f⟩;rcases Mi.1 d with rfl|d
   ·exact h
   exact j y d
  refine⟨[],x::l,Z,by rw[M0,if_neg h],fun x h=>(by cases h),fun y c e=>?_⟩;injection e with i _
  rw[<-i];simpa using h
def K6(l:List (List V)):Prop:=l.Pairwise fun a b=>aX a b<0
structure GInvP (s:Sch) (pre:List Tp) (st:List (List V)×List (List Nat)):Prop where
 bl:st.2=st.1.map fun k=>bX s k pre 0
 cov:∀t∈pre,aG s t.vals∈st.1
 src:∀k∈st.1,∃t∈pre,aG s t.vals=k
 srt:K6 st.1
theorem mD(s:Sch)(k:List V)(a:List Tp)(t:Tp):bX s k (a++[t]) 0=bX s k a 0++if aX (aG s t.vals) k=0 then [a.length]else []:=by
 rw[sX,MT];simp only[bX]
theorem Cp{a b:List V}(h:¬aX a b<0)(c:aX a b≠0):aX b a<0:=by
 have:=mC a b;omega
theorem nk{a b:List V}(h:aX a b<0):aX a b≠0/\aX b a≠0:=by
 have:=mC a b;omega
theorem pq{s:Sch}{a:List Tp}{t:Tp}{l:List (List V)}(h:∀x∈l,aX (aG s t.vals) x≠0):l.map (fun k=>bX s k (a++[t]) 0)=l.map fun k=>bX s k a 0:=by
 refine O3 fun x b=>?_
 rw[mD,if_neg (h x b),Mq]
theorem yo{s:Sch}{c:List Tp}{t:Tp}{A B:List (List V)}{k:List V}(d:aG s t.vals=k)(g:∀t∈c,aG s t.vals∈A++B)(f:∀k∈A++B,∃t∈c,aG s t.vals=k)(m:K6 (A++B))(n:∀x∈A,aX x k<0)(r:∀x∈B,aX k x<0):
  GInvP s (c++[t]) (A++k::B,((A++B).map fun k=>bX s k c 0).insertIdx A.length [c.length]):=by
 have i:=N8.1 m;have v:∀e∈c,aX (aG s e.vals) k≠0:=fun e q=>by
  rcases Mw.1 (g e q)with h|h
  ·exact(nk (n _ h)).1
  exact(nk (r _ h)).2
 refine⟨?_,fun e q=>?_,fun x j=>?_,?_⟩
 ·have l:=gI [c.length] (B.map fun k=>bX s k c 0) (A.map fun k=>bX s k c 0);rw[L5]at l;simp only;rw[MX,l,MX,M3,pq (fun x j=>by rw[d];exact(nk (n x j)).2),pq (fun x j=>by rw[d];exact(nk (r x j)).1),mD,d,if_pos (ld k),(uQ v).2];rfl
 ·simp only[Mw,Mi];rcases Mw.1 q with h|h
  ·rcases Mw.1 (g e h)with h|h
   ·exact .inl h
   exact .inr (.inr h)
  rw[Mm.1 h,d];exact .inr (.inl Z)
 ·simp only[Mw,Mi]at j;rcases j with h|rfl|h
  ·obtain⟨e,l,o⟩:=f x (Om _ h);exact⟨e,Om _ l,o⟩
  ·exact⟨t,by simp,d⟩
  obtain⟨e,l,o⟩:=f x (Pr _ h);exact⟨e,Om _ l,o⟩
 refine N8.2 ⟨i.1,N4.2 ⟨r,i.2.1⟩,fun a u b p=>?_⟩;rcases Mi.1 p with rfl|p
 ·exact n a u
 exact i.2.2 a u b p
theorem FU{s:Sch}{a:List Tp}{t:Tp}{A B:List (List V)}{k:List V}(b:aG s t.vals=k)(f:∀t∈a,aG s t.vals∈A++k::B)(e:∀x∈A++k::B,∃t∈a,aG s t.vals=x)(c:K6 (A++k::B)):
  GInvP s (a++[t]) (A++k::B,((A++k::B).map fun k=>bX s k a 0).modify A.length (· ++[a.length])):=by
 have g:=N8.1 c;have o:=(N4.1 g.2.1).1;have l:∀x∈A,aX x k<0:=fun x d=>g.2.2 x d k (Ml ..)
 refine⟨?_,fun j n=>?_,fun x d=>?_,c⟩
 ·have i:=oc (· ++[a.length]) (bX s k a 0) (B.map fun k=>bX s k a 0) (A.map fun k=>bX s k a 0);rw[L5]at i;simp only;rw[MX,M3,i,MX,M3,pq (fun x d=>by rw[b];exact(nk (l x d)).2),pq (fun x d=>by rw[b];exact(nk (o x d)).1),mD,b,if_pos (ld k)]
 ·rcases Mw.1 n with h|h
  ·exact f j h
  rw[Mm.1 h,b];simp
 obtain⟨j,i,m⟩:=e x d;exact⟨j,Om _ i,m⟩
theorem DE{s:Sch}{g:List Tp}{t:Tp}{q:List (List V)×List (List Nat)}(h:GInvP s g q)(C:aG s t.vals≠ []):GInvP s (g++[t]) (iw s q g.length t):=by
 obtain⟨f,w⟩:=q;obtain⟨n,d,b,a⟩:=h;simp only at n d b a;subst n;unfold iw;rw[if_neg C];simp only;obtain⟨k,e⟩:∃k,aG s t.vals=k:=⟨_,rfl⟩;rw[e];obtain⟨A,B,u,l,z,E⟩:=uR (fun x=>decide (aX x k<0)) f;have v:bu f k=A.length:=by unfold bu;rw[l]
 rw[v];clear v l;subst u;have j:∀x∈A,aX x k<0:=fun x i=>of_decide_eq_true (z x i)
 have r:=N8.1 a;have o:(A++B)[A.length]? =B.head?:=by
  rw[Mz (L4 _),M2,P5]
 rw[o];cases B with
 |nil=>
  rw[if_neg (c:=(([]:List (List V)).head?.any fun x=>aX x k==0)=true) MF,gI];exact yo e d b a j (fun x i=>by cases i)
 |cons y B=>
  have D:¬aX y k<0:=of_decide_eq_false (E y B Z);by_cases p:aX y k=0
  ·rw[if_pos (c:=((y::B).head?.any fun x=>aX x k==0)=true) (show(aX y k==0)=true by rw[p];rfl)];obtain rfl:=(kr y k).1 p;exact FU e d b a
  rw[if_neg (c:=((y::B).head?.any fun x=>aX x k==0)=true) (show¬(aX y k==0)=true by simpa using p),gI];have m:=Cp D p;refine yo e d b a j fun x i=>?_
  rcases Mi.1 i with rfl|i
  ·exact m
  exact iU m ((N4.1 r.2.1).1 x i)
theorem jy{s:Sch}:∀(ts a:List Tp) (b:List (List V)×List (List Nat)),GInvP s a b->(∀t∈ts,aG s t.vals≠ [])->GInvP s (a++ts) (dE s b a.length ts)
 |[],a,b,h,_=>by rw[Mq];exact h
 |t::ts,a,b,h,hk=>by
  have c:=jy ts (a++[t]) _ (DE h (hk t (Ml ..))) fun x d=>hk x (Ms _ d)
  rw[Mv,Mb]at c;exact c
theorem wL{r:Rel}(c:r.sch.cert=false)(b:∀t∈r.tups,aG r.sch t.vals≠ []):∃a:List (List V),aW r=a.map (fun k=>bX r.sch k r.tups 0)/\(∀t∈r.tups,aG r.sch t.vals∈a)/\∀k∈a,∃t∈r.tups,aG r.sch t.vals=k:=by
 have h:=jy (s:=r.sch) r.tups [] ([],[]) ⟨Z,fun t d=>(by cases d),fun k b=>(by cases b),List.Pairwise.nil⟩ b;rw[MI]at h;refine⟨_,?_,h.cov,h.src⟩;unfold aW;rw[if_neg (by rw[c];simp)];exact h.bl
theorem mc{s:Sch}:∀(ts:List Tp) (a:List (List V)×List (List Nat)) (i:Nat),(∀t∈ts,aG s t.vals=[])->(dE s a i ts).2=a.2++(List.range' i ts.length).map ([·])
 |[],a,i,_=>by simp[dE]
 |t::ts,a,i,h=>by
  have d:=mc ts (iw s a i t) (i+1) fun x c=>h x (Ms _ c)
  have b:(iw s a i t).2=a.2++[[i]]:=by unfold iw;rw[if_pos (h t (Ml ..))]
  rw[dE,d,b,L9,List.range'_succ,M3,Mv];rfl
theorem nM(s:Sch)(t:Tp):∀(ts:List Tp) (a:List (List V)×List (List Nat)) (i:Nat),dE s a i (ts++[t])=iw s (dE s a i ts) (i+ts.length) t
 |[],a,i=>rfl
 |x::ts,a,i=>by
  rw[Na,dE,nM s t ts,dE,L9,show i+1+ts.length=i+(ts.length+1) by omega]
def od(l:List Nat):List Value:=l.map fun i=>.int .i64 (i:Nat)
def NB(v:Value)(vs:List Value)(b:Nat):Prop:=v.ownBlock=some b\/∃u∈vs,u.ownBlock=some b
def EIs(w:World)(base:Nat)(u:Value)(l:List Nat):Prop:=w.ownsRow base 3 1 u l.length (od l)/\∀g,u.ownBlock=some g->NoDigB w g
structure Nest (w:World) (base:Nat) (v:Value) (vs:List Value) (L:List (List Nat)):Prop where
 row:w.ownsRow base 23 1 v L.length vs
 rd:∀g,v.ownBlock=some g->NoDigB w g
 el:∀(j:Nat) (u:Value) (l:List Nat),vs[j]? =some u->L[j]? =some l->EIs w base u l
 apart:∀(j k:Nat) (u t:Value) (b:Nat),j≠k->vs[j]? =some u->vs[k]? =some t->u.ownBlock=some b->t.ownBlock=some b->False
 out:∀u∈vs,∀b,u.ownBlock=some b->v.ownBlock≠some b
section
variable {w w':World} {base:Nat} {v:Value} {vs:List Value} {L:List (List Nat)}
theorem Nest.len(h:Nest w base v vs L):vs.length=L.length:=by have:=h.row.1;omega
theorem Nest.nil(w:World)(base:Nat):Nest w base (.slice none 0 0) [] []:=⟨World.ownsRow_nil _ _ _ _,fun g a=>(by cases a),fun j u l h=>(by simp at h),fun j k u t b _ h=>(by simp at h),fun u h=>(by cases h)⟩
theorem im{e:TypeId}{sz n:Nat}{u:Value}{xs:List Value}(h:w.ownsRow base e sz u n xs)(d:∀b,u.ownBlock=some b->w'.heap[b]? =w.heap[b]?):w'.ownsRow base e sz u n xs:=by
 refine⟨h.1,?_⟩;rcases h.2 with c|⟨g,a,cur,rfl,i,f,j⟩
 ·exact .inl c
 exact .inr ⟨g,a,cur,Z,i,by rw[d g Z];exact f,j⟩
theorem EIs.kept{u:Value}{l:List Nat}(h:EIs w base u l)(a:∀b,u.ownBlock=some b->w'.heap[b]? =w.heap[b]?):EIs w' base u l:=⟨im h.1 a,fun g c=>(h.2 g c).of (a g c)⟩
theorem Nest.kept(h:Nest w base v vs L)(a:∀b,NB v vs b->w'.heap[b]? =w.heap[b]?):Nest w' base v vs L:=
 ⟨im h.row fun b c=>a b (.inl c),fun g d=>(h.rd g d).of (a g (.inl d)),fun j u l e f=>(h.el j u l e f).kept fun b c=>a b (.inr ⟨u,L7 e,c⟩),h.apart,h.out⟩
theorem Nest.ok(h:Nest w base v vs L):∀g,NB v vs g->base<=g/\g<w.heap.size/\NoDigB w g:=by
 rintro g (a|⟨u,c,a⟩)
 ·have:=h.row.lt g a;exact⟨this.1,this.2,h.rd g a⟩
 obtain⟨j,d,rfl⟩:=Nc c;have f:=h.len;obtain⟨e,b⟩:=h.el j _ (L[j]'(by omega)) (L3 d) (L3 (by omega));have:=e.lt g a;exact⟨this.1,this.2,b g a⟩
theorem Nest.later(h:Nest w base v vs L)(c:Below w.heap.size w w'):Nest w' base v vs L:=h.kept fun b a=>c.block b (h.ok b a).2.1
theorem pr:∀{es:List Tree},(∀e∈es,e.cells=[e])->flat es=es
 |[],_=>rfl
 |e::es,h=>by rw[eN,h e (Ml ..),pr fun x a=>h x (Ms _ a)];rfl
theorem Cq(w:World)(G:Nat->Prop):∀l:List Nat,PT w G (od l) (l.map fF)
 |[]=>.nil
 |_::l=>.sc _ (Cq w G l)
theorem FV{G:Nat->Prop}:∀{us:List Value} {ts:List Tree},us.length=ts.length->(∀(j:Nat) u t,us[j]? =some u->ts[j]? =some t->PT w G [u] [t])->PT w G us ts
 |[],[],_,_=>.nil
 |[],_::_,h,_=>by simp at h
 |_::_,[],h,_=>by simp at h
 |u::us,t::ts,hl,h=>(h 0 u t Z Z).cons (FV (by simpa using hl) fun j x y b a=>h (j+1) x y (by simpa using b) (by simpa using a))
theorem J7{G:Nat->Prop}{u:Value}{l:List Nat}(h:EIs w base u l)(d:∀g,u.ownBlock=some g->¬G g):PT w G [u] [jj l]:=by
 rcases h.1.2 with⟨rfl,b⟩|⟨g,a,cur,rfl,n,i,b,c,m,o⟩
 ·obtain rfl:l=[]:=Mr b;exact dk _ _
 refine .sl g 0 a _ (od l) (l.map fF) (MD.1 i).1 (d g Z) (fun j u f=>?_) (by simp) (by simpa using b) (by unfold maxLen at c;omega) ?_ .nil
 ·have:=World.ownsRow.cells h.1 (g:=g) Z j u f;rw[nA]at this;rw[MT];exact this
 rw[pr (fun e k=>by obtain⟨x,_,rfl⟩:=NA.1 k;rfl)];exact Cq w G l
theorem Nest.els(h:Nest w base v vs L){G:Nat->Prop}(c:∀g,NB v vs g->¬G g):PT w G vs (L.map jj):=
 FV (by rw[L5,h.len]) fun j u t a b=>by
  rw[MN]at b;obtain⟨l,e,rfl⟩:=Nb.1 b;exact J7 (h.el j u l a e) fun g d=>c g (.inr ⟨u,L7 a,d⟩)
theorem FW{G:Nat->Prop}{e:TypeId}{v:Value}{xs:List Value}{es:List Tree}(d:w.ownsRow base e 1 v es.length xs)(f:∀g,v.ownBlock=some g->¬G g)(k:PT w G xs (flat es)):PT w G [v] [.sl es]:=by
 rcases d.2 with⟨rfl,c⟩|⟨g,b,cur,rfl,m,i,c,a,l,n⟩
 ·obtain rfl:es=[]:=Mr c;exact dk _ _
 refine .sl g 0 b _ xs es (MD.1 i).1 (f g Z) (fun j u h=>?_) Z c (by unfold maxLen at a;omega) k .nil;have:=World.ownsRow.cells d (g:=g) Z j u h;rw[nA]at this;rw[MT];exact this
theorem FX(L:List (List Nat)):flat (L.map jj)=L.map jj:=pr fun e a=>by obtain⟨x,_,rfl⟩:=NA.1 a;rfl
theorem FY(K:List (List V)):flat (K.map jb)=K.map jb:=pr fun e a=>by obtain⟨x,_,rfl⟩:=NA.1 a;rfl
theorem Nest.pt(h:Nest w base v vs L){G:Nat->Prop}(a:∀g,NB v vs g->¬G g):PT w G [v] [.sl (L.map jj)]:=
 FW (base:=base) (e:=23) (xs:=vs) (by rw[L5];exact h.row) (fun g b=>a g (.inl b)) (by rw[FX];exact h.els a)
theorem nl{α:Type}(l:List α)(x:α){i:Nat}(d:i<=l.length)(j:Nat):(l.take i++[x]++l.drop i)[j]? =if j<i then l[j]? else if j=i then some x else l[j-1]? :=by
 have c:(l.take i).length=i:=by rw[Mf];omega
 rw[Mv];by_cases a:j<i
 ·rw[if_pos a,My (by omega),MU,if_pos a]
 rw[if_neg a,Mz (by omega),c];by_cases b:j=i
 ·subst b;rw[if_pos Z,M2];rfl
 rw[if_neg b,show j-i=(j-i-1)+1 by omega,Oi,OH,Nh];congr 1;omega
theorem eh{r:Option Nat}(d:w.grownBy w' r){b:Nat}(c:b<w.heap.size)(a:r≠some b):w'.heap[b]? =w.heap[b]? :=d.block b c fun e=>a e.symm
theorem Nest.add(h:Nest w base v vs L){i x:Nat}{u v':Value}(G:EIs w base u [x])(r:∀g,u.ownBlock=some g->¬NB v vs g)(N:w'.ownsRow base 23 1 v' (L.length+1) (vs.take i++[u]++vs.drop i))(J:w.grownBy w' v.ownBlock)(y:v'.ownBlock=v.ownBlock\/v'.ownBlock=some w.heap.size)(M:∀g,v'.ownBlock=some g->NoDigB w' g)(O:i<=L.length):
  Nest w' base v' (vs.take i++[u]++vs.drop i) (L.take i++[[x]]++L.drop i):=by
 have Q:=h.len;have E:∀b,u.ownBlock=some b->w'.heap[b]? =w.heap[b]? :=fun b n=>eh J (G.1.lt b n).2 fun e=>r b n (.inl e)
 have A:∀t∈vs,∀b,t.ownBlock=some b->w'.heap[b]? =w.heap[b]? :=fun t a b n=>eh J (h.ok b (.inr ⟨t,a,n⟩)).2.1 fun e=>h.out t a b n e
 have p:∀t∈vs.take i++[u]++vs.drop i,t∈vs\/t=u:=fun t a=>by
  simp only[Mw,Mm]at a;rcases a with(h|h)|h
  ·exact .inl (ME h)
  ·exact .inr h
  exact .inl (Nd h)
 have F:∀t∈vs.take i++[u]++vs.drop i,∀b,t.ownBlock=some b->b<w.heap.size:=fun t a b n=>by
  rcases p t a with o|rfl
  ·exact(h.ok b (.inr ⟨t,o,n⟩)).2.1
  exact(G.1.lt b n).2
 refine⟨by rw[show(L.take i++[[x]]++L.drop i).length=L.length+1 by simp;omega];exact N,M,fun j t l a f=>?_,fun j k s t b D m a d c=>?_,fun t a b n e=>?_⟩
 ·rw[nl _ _ (by omega)]at a;rw[nl _ _ O]at f;by_cases o:j<i
  ·rw[if_pos o]at a f;exact(h.el j t l a f).kept (A t (L7 a))
  rw[if_neg o]at a f;by_cases C:j=i
  ·rw[if_pos C]at a f;cases a;cases f;exact G.kept E
  rw[if_neg C]at a f;exact(h.el _ t l a f).kept (A t (L7 a))
 ·have key:∀(I:Nat) (B:Value),vs[I]? =some B->B.ownBlock=some b->u.ownBlock=some b->False:=fun I B o C P=>r b P (.inr ⟨B,L7 o,C⟩)
  rw[nl _ _ (by omega)]at m a;by_cases H:j<i
  ·rw[if_pos H]at m;by_cases q:k<i
   ·rw[if_pos q]at a;exact h.apart j k s t b D m a d c
   rw[if_neg q]at a;by_cases z:k=i
   ·rw[if_pos z]at a;cases a;exact key _ _ m d c
   rw[if_neg z]at a;exact h.apart j (k-1) s t b (by omega) m a d c
  rw[if_neg H]at m;by_cases K:j=i
  ·rw[if_pos K]at m;cases m;by_cases q:k<i
   ·rw[if_pos q]at a;exact key _ _ a c d
   rw[if_neg q,if_neg (by omega)]at a;exact key _ _ a c d
  rw[if_neg K]at m;by_cases q:k<i
  ·rw[if_pos q]at a;exact h.apart (j-1) k s t b (by omega) m a d c
  rw[if_neg q]at a;by_cases z:k=i
  ·rw[if_pos z]at a;cases a;exact key _ _ m d c
  rw[if_neg z]at a;exact h.apart (j-1) (k-1) s t b (by omega) m a d c
 rcases y with y|y
 ·rw[y]at e;rcases p t a with o|rfl
  ·exact h.out t o b n e
  exact r b n (.inl e)
 rw[y]at e;injection e with e
 have:=F t a b n;omega
theorem Nest.app(h:Nest w base v vs L){j x g c:Nat}{u i:Value}{l:List Nat}(M:vs[j]? =some u)(W:L[j]? =some l)(V:v=.slice (some ⟨g,0,none⟩) L.length c)(X:w'.ownsRow base 3 1 i (l.length+1) (od (l++[x])))(R:w.grownBy w' u.ownBlock)(S:i.ownBlock=u.ownBlock\/i.ownBlock=some w.heap.size)(T:∀g,i.ownBlock=some g->NoDigB w' g)(K:bQ i=true):
  Nest (w'.setCell ⟨g,j,none⟩ i) base v (vs.set j i) (L.set j (l++[x])):=by
 subst V;have O:=L7 M;have E:u.ownBlock≠some g:=fun e=>h.out u O g e Z
 have P:=(h.row.lt g Z).2;have I:w'.heap[g]? =w.heap[g]? :=eh R P E;have o:=im h.row (w':=w') fun b a=>by injection a with a;subst a;exact I
 have f:∀(k:Nat) (t:Value),(vs.set j i)[k]? =some t->(k=j/\t=i)\/(k≠j/\vs[k]? =some t):=fun k t d=>by
  rw[OP]at d;split at d
  ·next e=>
   subst e;split at d
   ·cases d;exact .inl ⟨Z,Z⟩
   cases d
  next e=>exact .inr ⟨fun e2=>e e2.symm,d⟩
 have C:i.ownBlock≠some g:=fun e=>by
  rcases S with A|A
  ·exact E (A▸e)
  rw[A]at e;injection e with e;omega
 have B:∀b,b≠g->(w'.setCell ⟨g,j,none⟩ i).heap[b]? =w'.heap[b]? :=fun b a=>by
  simp only[World.setCell];rw[NJ,if_neg (fun e=>a e.symm)]
 have Q:∀(k:Nat) (t:Value),k≠j->vs[k]? =some t->∀b,t.ownBlock=some b->(w'.setCell ⟨g,j,none⟩ i).heap[b]? =w.heap[b]? :=fun k t p d b a=>by
  have G:=L7 d;rw[B b fun e=>h.out t G b a (by rw[e];rfl)];exact eh R (h.ok b (.inr ⟨t,G,a⟩)).2.1 fun e=>h.apart k j t u b p d M a e
 have r:∀(k:Nat) (t:Value),k≠j->vs[k]? =some t->∀b,t.ownBlock=some b->i.ownBlock≠some b:=fun k t p d b a e=>by
  rcases S with A|A
  ·exact h.apart k j t u b p d M a (A▸e)
  rw[A]at e;injection e with e
  have:=(h.ok b (.inr ⟨t,L7 d,a⟩)).2.1;omega
 refine⟨by rw[MJ];exact jk o i,fun g' z=>?_,fun k t U d q=>?_,fun k m s t b H Y d D y=>?_,fun t d b a e=>?_⟩
 ·injection z with z
  subst z;exact uO o ((h.rd g Z).of I) K
 ·rcases f k t d with⟨rfl,rfl⟩|⟨p,n⟩
  ·have J:=(L6.1 W).1;rw[Nw J]at q;cases q;refine⟨?_,fun b a=>(T b a).of (B b fun e=>C (e▸a))⟩;rw[Mb,NL];exact im X fun b a=>B b fun e=>C (e▸a)
  rw[Nm (fun e=>p e.symm)]at q;exact(h.el k t U n q).kept (Q k t p n)
 ·rcases f k s Y with⟨rfl,rfl⟩|⟨p,F⟩
  ·rcases f m t d with⟨rfl,rfl⟩|⟨G,n⟩
   ·exact H Z
   exact r m t G n b y D
  rcases f m t d with⟨rfl,rfl⟩|⟨G,n⟩
  ·exact r k s p F b D y
  exact h.apart k m s t b H F n D y
 injection e with e
 subst e;obtain⟨k,p,rfl⟩:=Nc d;rcases f k _ (L3 p)with⟨_,N⟩|⟨_,N⟩
 ·rw[N]at a;exact C a
 exact h.out _ (L7 N) g a Z
structure KeyR (w:World) (base:Nat) (v:Value) (xs:List Value) (K:List (List V)) (G:Nat->Prop):Prop where
 row:w.ownsRow base 61 1 v K.length xs
 rd:∀g,v.ownBlock=some g->NoDigB w g
 els:PT w G xs (K.map jb)
theorem KeyR.nil(w:World)(base:Nat)(G:Nat->Prop):KeyR w base (.slice none 0 0) [] [] G:=⟨World.ownsRow_nil _ _ _ _,fun g a=>(by cases a),.nil⟩
theorem KeyR.turn{xs:List Value}{K:List (List V)}{G G':Nat->Prop}(h:KeyR w base v xs K G)(e:w.heap.size<=w'.heap.size)(a:∀b,v.ownBlock=some b->w'.heap[b]? =w.heap[b]?)(d:∀b,b<w.heap.size->¬G b->w'.heap[b]? =w.heap[b]? /\¬G' b):KeyR w' base v xs K G':=
 ⟨im h.row a,fun g c=>(h.rd g c).of (a g c),h.els.mono e d⟩
theorem KeyR.pt{xs:List Value}{K:List (List V)}{G G':Nat->Prop}(h:KeyR w base v xs K G)(a:∀b,¬G b->¬G' b)(c:∀g,v.ownBlock=some g->¬G' g):PT w G' [v] [.sl (K.map jb)]:=
 FW (base:=base) (e:=61) (xs:=xs) (by rw[L5];exact h.row) c (by rw[FY];exact h.els.sub a)
end
structure Side (w0:World) (G0:Nat->Prop) (w1:World) (G1:Nat->Prop) (vO:Value) (vs:List Value) (L:List (List Nat)) (vK:Value) (xs:List Value) (K:List (List V)):Prop where
 nest:Nest w1 w0.heap.size vO vs L
 keys:KeyR w1 w0.heap.size vK xs K G1
 kn:∀b,vK.ownBlock=some b->¬NB vO vs b
 g1:∀b,G1 b↔(G0 b\/NB vO vs b\/vK.ownBlock=some b)
 below:Below w0.heap.size w0 w1
 e0:Env w0
 ok0:wk G0 w0
def pu(G0:Nat->Prop)(vO:Value)(vs:List Value)(vK:Value)(b:Nat):Prop:=G0 b\/NB vO vs b\/vK.ownBlock=some b
section
variable {w0 w1 w w':World} {G0 G1:Nat->Prop} {vO vK:Value} {vs xs:List Value} {L:List (List Nat)} {K:List (List V)}
theorem Side.env(h:Side w0 G0 w1 G1 vO vs L vK xs K):Env w1:=h.e0.below h.below (L4 _)
theorem Side.key(h:Side w0 G0 w1 G1 vO vs L vK xs K):∀b,vK.ownBlock=some b->w0.heap.size<=b/\b<w1.heap.size/\NoDigB w1 b:=fun b a=>⟨(h.keys.row.lt b a).1,(h.keys.row.lt b a).2,h.keys.rd b a⟩
theorem Side.okw(h:Side w0 G0 w1 G1 vO vs L vK xs K):wk G1 w1:=fun g a=>by
 rcases(h.g1 g).1 a with a|a|a
 ·have b:=h.ok0 g a;exact⟨Mj b.1 h.below.size,b.2.of (h.below.block g b.1)⟩
 ·exact(h.nest.ok g a).2
 exact(h.key g a).2
theorem Side.later(h:Side w0 G0 w1 G1 vO vs L vK xs K)(a:Below w1.heap.size w1 w):Side w0 G0 w G1 vO vs L vK xs K:=
 ⟨h.nest.later a,h.keys.turn a.size (fun b d=>a.block b (h.key b d).2.1) (fun b c e=>⟨a.block b c,e⟩),h.kn,h.g1,aE h.below a h.below.size,h.e0,h.ok0⟩
theorem Side.ones(h:Side w0 G0 w1 G1 vO vs L vK xs K):(∀x∈vs,x.oneCell'=true)/\∀x∈xs,x.oneCell'=true:=by
 refine⟨fun x a=>?_,fun x a=>?_⟩
 ·obtain⟨j,b,rfl⟩:=Nc a;have f:=h.nest.len;obtain⟨d,_⟩:=h.nest.el j _ (L[j]'(by omega)) (L3 b) (L3 (by omega));obtain⟨A,c,e⟩:=cF d;rw[e];rfl
 exact lP h.keys.els (by
  rw[Qu];exact Mh.2 fun _ _=>rfl) x a
theorem jz{w0 w w':World}{r:Option Nat}(a:Below w0.heap.size w0 w)(c:w.grownBy w' r)(b:∀k,r=some k->w0.heap.size<=k):Below w0.heap.size w0 w':=a.grown c a.size b
theorem Side.insL(h:Side w0 G0 w1 G1 vO vs L vK xs K)(a:Below w1.heap.size w1 w){i x:Nat}{u v':Value}(I:EIs w w0.heap.size u [x])(o:∀g,u.ownBlock=some g->w1.heap.size<=g)(F:w'.ownsRow w0.heap.size 23 1 v' (L.length+1) (vs.take i++[u]++vs.drop i))(r:w.grownBy w' vO.ownBlock)(q:v'.ownBlock=vO.ownBlock\/v'.ownBlock=some w.heap.size)(D:∀g,v'.ownBlock=some g->NoDigB w' g)(H:i<=L.length):
  Side w0 G0 w' (pu G0 v' (vs.take i++[u]++vs.drop i) vK) v' (vs.take i++[u]++vs.drop i) (L.take i++[[x]]++L.drop i) vK xs K/\∀b,b<w.heap.size->¬(G1 b\/u.ownBlock=some b)->w'.heap[b]? =w.heap[b]? /\¬pu G0 v' (vs.take i++[u]++vs.drop i) vK b:=by
 have G:=h.okw;have C:=h.nest.later a;have E:=C.add I (fun g r l=>by have:=(h.nest.ok g l).2.1;have:=o g r;omega) F r q D H;have j:∀b,b<w.heap.size->¬NB vO vs b->w'.heap[b]? =w.heap[b]? :=fun b c l=>eh r c fun e=>l (.inl e)
 have y:∀b,NB v' (vs.take i++[u]++vs.drop i) b->NB vO vs b\/u.ownBlock=some b\/b=w.heap.size:=fun b a=>by
  rcases a with a|⟨t,s,a⟩
  ·rcases q with q|q
   ·exact .inl (.inl (q▸a))
   rw[q]at a;injection a with a;exact .inr (.inr a.symm)
  simp only[Mw,Mm]at s;rcases s with(s|rfl)|s
  ·exact .inl (.inr ⟨t,ME s,a⟩)
  ·exact .inr (.inl a)
  exact .inl (.inr ⟨t,Nd s,a⟩)
 have n:∀b,b<w.heap.size->¬(G1 b\/u.ownBlock=some b)->w'.heap[b]? =w.heap[b]? /\¬pu G0 v' (vs.take i++[u]++vs.drop i) vK b:=fun b c p=>by
  refine⟨j b c fun l=>p (.inl ((h.g1 b).2 (.inr (.inl l)))),fun d=>?_⟩;rcases d with d|d|d
  ·exact p (.inl ((h.g1 b).2 (.inl d)))
  ·rcases y b d with m|m|m
   ·exact p (.inl ((h.g1 b).2 (.inr (.inl m))))
   ·exact p (.inr m)
   omega
  exact p (.inl ((h.g1 b).2 (.inr (.inr d))))
 have A:∀b,b<w1.heap.size->¬NB vO vs b->w'.heap[b]? =w1.heap[b]? :=fun b c l=>(j b (Mj c a.size) l).trans (a.block b c)
 have v:∀b,vK.ownBlock=some b->w'.heap[b]? =w1.heap[b]? :=fun b f=>A b (h.key b f).2.1 (h.kn b f)
 have B:Below w0.heap.size w0 w':=jz (aE h.below a h.below.size) r fun k e=>(h.nest.ok k (.inl e)).1
 refine⟨⟨E,h.keys.turn (Ma a.size r.size) v fun b c p=>?_,fun b f l=>?_,fun b=>OT,B,h.e0,h.ok0⟩,n⟩
 ·have z:=n b (Mj c a.size) fun d=>by
   rcases d with d|d
   ·exact p d
   have:=o b d;omega
  exact⟨z.1.trans (a.block b c),z.2⟩
 have z:=(h.key b f).2.1;rcases y b l with m|m|m
 ·exact h.kn b f m
 ·have:=o b m;omega
 have:=a.size;omega
theorem Side.insK(h:Side w0 G0 w G1 vO vs L vK xs K){i:Nat}{k:List V}{u v':Value}(t:PT w G1 [u] [jb k])(x:w'.ownsRow w0.heap.size 61 1 v' (K.length+1) (xs.take i++[u]++xs.drop i))(p:w.grownBy w' vK.ownBlock)(d:v'.ownBlock=vK.ownBlock\/v'.ownBlock=some w.heap.size)(r:∀g,v'.ownBlock=some g->NoDigB w' g)(y:i<=K.length):
  Side w0 G0 w' (pu G0 vO vs v') vO vs L v' (xs.take i++[u]++xs.drop i) (K.take i++[k]++K.drop i)/\∀b,b<w.heap.size->¬G1 b->w'.heap[b]? =w.heap[b]? /\¬pu G0 vO vs v' b:=by
 have a:∀b,b<w.heap.size->vK.ownBlock≠some b->w'.heap[b]? =w.heap[b]? :=fun b l m=>eh p l m
 have j:∀b,b<w.heap.size->¬G1 b->w'.heap[b]? =w.heap[b]? /\¬pu G0 vO vs v' b:=fun b l n=>by
  refine⟨a b l fun m=>n ((h.g1 b).2 (.inr (.inr m))),fun c=>?_⟩;rcases c with c|c|c
  ·exact n ((h.g1 b).2 (.inl c))
  ·exact n ((h.g1 b).2 (.inr (.inl c)))
  rcases d with d|d
  ·exact n ((h.g1 b).2 (.inr (.inr (d▸c))))
  rw[d]at c;injection c with c;omega
 have o:Below w0.heap.size w0 w':=jz h.below p fun k e=>(h.key k e).1
 have v:=h.nest.kept (w':=w') fun b q=>a b (h.nest.ok b q).2.1 fun e=>h.kn b e q
 refine⟨⟨v,⟨by rw[show(K.take i++[k]++K.drop i).length=K.length+1 by simp;omega];exact x,r,?_⟩,fun b f m=>?_,fun b=>OT,o,h.e0,h.ok0⟩,j⟩
 ·have s:=((h.keys.els.take i).append t).append (h.keys.els.drop i);rw[MX,MX,O1,Po];exact s.mono p.size j
 rcases d with d|d
 ·exact h.kn b (d▸f) m
 rw[d]at f;injection f with f
 have:=(h.nest.ok b m).2.1;omega
theorem AP{j:Nat}{u a:Value}(f:vs[j]? =some u){b:Nat}(h:NB vO (vs.set j a) b):NB vO vs b\/a.ownBlock=some b:=by
 rcases h with h|⟨t,d,c⟩
 ·exact .inl (.inl h)
 rcases Ok d with e|rfl
 ·exact .inl (.inr ⟨t,e,c⟩)
 exact .inr c
theorem Side.app1(h:Side w0 G0 w G1 vO vs L vK xs K){j:Nat}{u m:Value}(v:vs[j]? =some u)(z:w.grownBy w' u.ownBlock)(q:m.ownBlock=u.ownBlock\/m.ownBlock=some w.heap.size)(A:∀g,m.ownBlock=some g->NoDigB w' g)(o:∀g,m.ownBlock=some g->g<w'.heap.size):
  wk (pu G0 vO (vs.set j m) vK) w'/\Env w'/\∀b,b<w.heap.size->¬G1 b->w'.heap[b]? =w.heap[b]? /\¬pu G0 vO (vs.set j m) vK b:=by
 have d:=L7 v;have f:∀b,b<w.heap.size->u.ownBlock≠some b->w'.heap[b]? =w.heap[b]? :=fun b l r=>eh z l r
 have x:=h.okw;have y:Below w0.heap.size w0 w':=jz h.below z fun k e=>(h.nest.ok k (.inr ⟨u,d,e⟩)).1
 refine⟨fun g a=>?_,h.e0.below y (L4 _),fun b l p=>⟨f b l fun r=>p ((h.g1 b).2 (.inr (.inl (.inr ⟨u,d,r⟩)))),fun i=>?_⟩⟩
 ·have fin:g<w.heap.size/\NoDigB w g->u.ownBlock≠some g->g<w'.heap.size/\NoDigB w' g:=fun s r=>⟨Mj s.1 z.size,s.2.of (f g s.1 r)⟩
  rcases a with a|a|a
  ·refine fin (x g ((h.g1 g).2 (.inl a))) fun e=>?_
   have s:=(h.nest.ok g (.inr ⟨u,d,e⟩)).1;have i:=(h.ok0 g a).1;omega
  ·rcases a with a|⟨t,C,a⟩
   ·exact fin (h.nest.ok g (.inl a)).2 fun e=>h.nest.out u d g e a
   obtain⟨k,B,rfl⟩:=Nc C;have c:=L3 B;rw[OP]at c;split at c
   ·split at c
    ·injection c with c
     rw[<-c]at a;exact⟨o g a,A g a⟩
    cases c
   next hne=>
   exact fin (h.nest.ok g (.inr ⟨_,L7 c,a⟩)).2 fun e=>h.nest.apart k j _ u g (fun D=>hne D.symm) c v a e
  exact fin (h.key g a).2 fun e=>h.kn g a (.inr ⟨u,d,e⟩)
 rcases i with i|i|i
 ·exact p ((h.g1 b).2 (.inl i))
 ·rcases AP v i with n|n
  ·exact p ((h.g1 b).2 (.inr (.inl n)))
  rcases q with q|q
  ·exact p ((h.g1 b).2 (.inr (.inl (.inr ⟨u,d,q▸n⟩))))
  rw[q]at n;injection n with n;omega
 exact p ((h.g1 b).2 (.inr (.inr i)))
theorem Side.app2(h:Side w0 G0 w G1 vO vs L vK xs K){j x g c:Nat}{u a:Value}{l:List Nat}{F d:World}(G:vs[j]? =some u)(T:L[j]? =some l)(Q:vO=.slice (some ⟨g,0,none⟩) L.length c)(M:F.ownsRow w0.heap.size 3 1 a (l.length+1) (od (l++[x])))(H:w.grownBy F u.ownBlock)(n:a.ownBlock=u.ownBlock\/a.ownBlock=some w.heap.size)(R:∀g,a.ownBlock=some g->NoDigB F g)(J:bQ a=true)(v:Below F.heap.size F d):
  Side w0 G0 (d.setCell ⟨g,j,none⟩ a) (pu G0 vO (vs.set j a) vK) vO (vs.set j a) (L.set j (l++[x])) vK xs K/\∀b,b<d.heap.size->¬pu G0 vO (vs.set j a) vK b->(d.setCell ⟨g,j,none⟩ a).heap[b]? =d.heap[b]? /\¬pu G0 vO (vs.set j a) vK b:=by
 have r:=L7 G;have q:w.grownBy d u.ownBlock:=H.trans (qo v);have I:=im M (w':=d) fun b y=>v.block b (M.lt b y).2
 have O:∀g,a.ownBlock=some g->NoDigB d g:=fun g H=>(R g H).of (v.block g (M.lt g H).2)
 have S:=h.nest.app G T Q I q n O J;have C:∀b,b≠g->(d.setCell ⟨g,j,none⟩ a).heap[b]? =d.heap[b]? :=fun b y=>by
  simp only[World.setCell];rw[NJ,if_neg (fun e=>y e.symm)]
 have A:vO.ownBlock=some g:=by rw[Q];rfl
 have E:NB vO vs g:=.inl A;have i:∀b,b<w.heap.size->¬NB vO vs b->(d.setCell ⟨g,j,none⟩ a).heap[b]? =w.heap[b]? :=fun b m z=>(C b fun e=>z (e▸E)).trans (eh q m fun e=>z (.inr ⟨u,r,e⟩))
 have B:∀b,vK.ownBlock=some b->(d.setCell ⟨g,j,none⟩ a).heap[b]? =w.heap[b]? :=fun b y=>i b (h.key b y).2.1 (h.kn b y)
 have P:(d.setCell ⟨g,j,none⟩ a).heap.size=d.heap.size:=by simp[World.setCell]
 have N:Below w0.heap.size w0 (d.setCell ⟨g,j,none⟩ a):=(jz h.below q fun k e=>(h.nest.ok k (.inr ⟨u,r,e⟩)).1).setCell (p:=⟨g,j,none⟩) (h.nest.ok g E).1 _;have D:∀b,b<w.heap.size->¬G1 b->¬pu G0 vO (vs.set j a) vK b:=fun b m o s=>by
  rcases s with s|s|s
  ·exact o ((h.g1 b).2 (.inl s))
  ·rcases AP G s with f|f
   ·exact o ((h.g1 b).2 (.inr (.inl f)))
   rcases n with n|n
   ·exact o ((h.g1 b).2 (.inr (.inl (.inr ⟨u,r,n▸f⟩))))
   rw[n]at f;injection f with f;omega
  exact o ((h.g1 b).2 (.inr (.inr s)))
 refine⟨⟨S,h.keys.turn (by rw[P];exact q.size) B fun b m o=>⟨i b m fun z=>o ((h.g1 b).2 (.inr (.inl z))),D b m o⟩,fun b t z=>?_,fun b=>OT,N,h.e0,h.ok0⟩,fun b _ o=>⟨C b fun e=>o (.inr (.inl (.inl (e▸A)))),o⟩⟩;rcases AP G z with f|f
 ·exact h.kn b t f
 rcases n with n|n
 ·exact h.kn b t (.inr ⟨u,r,n▸f⟩)
 rw[n]at f;injection f with f
 have:=(h.key b t).2.1;omega
theorem rH{w:World}{base b i:Nat}(h:w.heap[b]? =some (.cells #[.int .i64 (i:Nat)] 3 (0,0)))(c:base<=b):EIs w base (.slice (some ⟨b,0,none⟩) 1 1) [i]:=by
 refine⟨⟨Z,.inr ⟨b,1,_,Z,c,h,L4 _,by decide,Z,Z⟩⟩,fun g a=>?_⟩;injection a with a
 subst a;exact cH h Z
end
end Go.Proofs.YtfoejfohbkmmeaaGreatDoor
