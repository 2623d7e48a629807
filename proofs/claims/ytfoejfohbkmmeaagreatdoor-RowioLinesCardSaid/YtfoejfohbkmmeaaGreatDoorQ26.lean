import Derived.Test.YtfoejfohbkmmeaaGreatDoorQ24
import Derived.Test.YtfoejfohbkmmeaaGreatDoorQ25
import Derived.Test.YtfoejfohbkmmeaaGreatDoorQ00
import Derived.Test.YtfoejfohbkmmeaaGreatDoorQ11
namespace Go.Proofs.YtfoejfohbkmmeaaGreatDoor
open Go.RowKit
open Lib renaming hid→J
def ii(s:Sch)(k:List V):List Tp->Nat
 |[]=>0
 |t::ts=>if aO (aG s t.vals) k=0 then ii s k ts+1 else ii s k ts
def i7(s:Sch)(k:List V):List Tp->Rat
 |[]=>0
 |t::ts=>if aO (aG s t.vals) k=0 then t.prob+i7 s k ts else i7 s k ts
theorem sK(s:Sch)(k:List V):∀a b,ii s k (a++b)=ii s k a+ii s k b
 |[],b=>by simp[ii]
 |t::a,b=>by
  have:=sK s k a b;simp only[Ng,ii,this];split<;>omega
theorem sL(s:Sch)(k:List V):∀a b,i7 s k (a++b)=i7 s k a+i7 s k b
 |[],b=>by rw[M6,i7,Rat.zero_add]
 |t::a,b=>by
  have:=sL s k a b;simp only[Ng,i7,this];split
  ·rw[Rat.add_assoc]
  rfl
theorem iD(s:Sch)(k:List V):∀ts i,(bX s k ts i).length=ii s k ts
 |[],_=>rfl
 |t::ts,i=>by
  have:=iD s k ts (i+1);simp only[bX,ii];split
  ·rw[Mb,this]
  exact this
theorem sM(s:Sch)(k:List V):∀a b i,bX s k (a++b) i=bX s k a i++bX s k b (i+a.length)
 |[],b,i=>by simp[bX]
 |t::a,b,i=>by
  have:=sM s k a b (i+1);simp only[Ng,bX,this,Mb,show i+1+a.length=i+(a.length+1) by omega];split<;>rfl
theorem Af(a ts:List Tp)(t:Tp):gO (a++t::ts) a.length=t.prob:=by
 unfold gO;rw[Mw (L5 _),M4];rfl
theorem oV(s:Sch)(k:List V):∀(ts a:List Tp) (q:Rat),(bX s k ts a.length).foldl (fun q i=>q+gO (a++ts) i) q=q+i7 s k ts
 |[],a,q=>by simp[bX,i7];grind
 |t::ts,a,q=>by
  have b:=fun q=>oV s k ts (a++[t]) q
  simp only[Mc,NL,MG,Ps]at b;simp only[bX,i7];split
  ·rw[NH,b,Af,Rat.add_assoc]
  exact b q
theorem nG(s:Sch)(k:List V)(ts:List Tp):dR ts (bX s k ts 0)=i7 s k ts:=by
 have:=oV s k ts [] 0;simp only[Mo,M6]at this;unfold dR;rw[this];grind
theorem uB{s:Sch}{k:List V}:∀{ts:List Tp},(∀t∈ts,aO (aG s t.vals) k≠0)->ii s k ts=0/\∀i,bX s k ts i=[]
 |[],_=>⟨Z,fun _=>rfl⟩
 |t::ts,h=>by
  have b:=uB (s:=s) (k:=k) (ts:=ts) fun x c=>h x (MB _ c)
  have a:=h t (Mr ..);exact⟨by rw[ii,if_neg a,b.1],fun i=>by rw[bX,if_neg a,b.2]⟩
theorem nH{α:Type}(g:α->α)(x:α)(b:List α):∀a:List α,(a++x::b).modify a.length g=a++g x::b
 |[]=>rfl
 |y::a=>by
  have:=nH g x b a;simp[this]
theorem gh{α:Type}(x:α)(b:List α):∀a:List α,(a++b).insertIdx a.length x=a++x::b
 |[]=>by simp
 |y::a=>by
  have:=gh x b a;simp[this]
theorem uC{α:Type}(p:α->Bool)(l:List α):∃a b,l=a++b/\l.takeWhile p=a/\(∀x∈a,p x=true)/\∀y c,b=y::c->p y=false:=by
 induction l with
 |nil=>exact⟨[],[],Z,Z,fun x h=>(by cases h),fun y c h=>(by cases h)⟩
 |cons x l ih=>
  by_cases h:p x=true
  ·obtain⟨a,b,f,g,j,k⟩:=ih;refine⟨x::a,b,by rw[f];rfl,by rw[Nh,if_pos h,g],fun y d=>?_,k⟩;rcases Mi.1 d with rfl|d
   ·exact h
   exact j y d
  refine⟨[],x::l,Z,by rw[Nh,if_neg h],fun x h=>(by cases h),fun y c e=>?_⟩;injection e with i _
  rw[<-i];simpa using h
def Ky(l:List (List V)):Prop:=l.Pairwise fun a b=>aO a b<0
structure GInvP (s:Sch) (pre:List Tp) (st:List (List V)×List (List Nat)):Prop where
 bl:st.2=st.1.map fun k=>bX s k pre 0
 cov:∀t∈pre,aG s t.vals∈st.1
 src:∀k∈st.1,∃t∈pre,aG s t.vals=k
 srt:Ky st.1
theorem mi(s:Sch)(k:List V)(a:List Tp)(t:Tp):bX s k (a++[t]) 0=bX s k a 0++if aO (aG s t.vals) k=0 then [a.length]else []:=by
 rw[sM,M0];simp only[bX]
theorem BX{a b:List V}(h:¬aO a b<0)(c:aO a b≠0):aO b a<0:=by
 have:=mh a b;omega
theorem mS{a b:List V}(h:aO a b<0):aO a b≠0/\aO b a≠0:=by
 have:=mh a b;omega
theorem oW{s:Sch}{a:List Tp}{t:Tp}{l:List (List V)}(h:∀x∈l,aO (aG s t.vals) x≠0):l.map (fun k=>bX s k (a++[t]) 0)=l.map fun k=>bX s k a 0:=by
 refine PC fun x b=>?_
 rw[mi,if_neg (h x b),MA]
theorem xT{s:Sch}{c:List Tp}{t:Tp}{A B:List (List V)}{k:List V}(d:aG s t.vals=k)(g:∀t∈c,aG s t.vals∈A++B)(f:∀k∈A++B,∃t∈c,aG s t.vals=k)(m:Ky (A++B))(n:∀x∈A,aO x k<0)(r:∀x∈B,aO k x<0):
  GInvP s (c++[t]) (A++k::B,((A++B).map fun k=>bX s k c 0).insertIdx A.length [c.length]):=by
 have i:=Od.1 m;have v:∀e∈c,aO (aG s e.vals) k≠0:=fun e p=>by
  rcases My.1 (g e p)with h|h
  ·exact(mS (n _ h)).1
  exact(mS (r _ h)).2
 refine⟨?_,fun e p=>?_,fun x j=>?_,?_⟩
 ·have l:=gh [c.length] (B.map fun k=>bX s k c 0) (A.map fun k=>bX s k c 0);rw[L8]at l;simp only;rw[Nk,l,Nk,MX,oW (fun x j=>by rw[d];exact(mS (n x j)).2),oW (fun x j=>by rw[d];exact(mS (r x j)).1),mi,d,if_pos (kI k),(uB v).2];rfl
 ·simp only[My,Mi];rcases My.1 p with h|h
  ·rcases My.1 (g e h)with h|h
   ·exact .inl h
   exact .inr (.inr h)
  rw[Ml.1 h,d];exact .inr (.inl Z)
 ·simp only[My,Mi]at j;rcases j with h|rfl|h
  ·obtain⟨e,l,q⟩:=f x (Om _ h);exact⟨e,Om _ l,q⟩
  ·exact⟨t,by simp,d⟩
  obtain⟨e,l,q⟩:=f x (Pq _ h);exact⟨e,Om _ l,q⟩
 refine Od.2 ⟨i.1,Oc.2 ⟨r,i.2.1⟩,fun a u b o=>?_⟩;rcases Mi.1 o with rfl|o
 ·exact n a u
 exact i.2.2 a u b o
theorem Fk{s:Sch}{a:List Tp}{t:Tp}{A B:List (List V)}{k:List V}(b:aG s t.vals=k)(f:∀t∈a,aG s t.vals∈A++k::B)(e:∀x∈A++k::B,∃t∈a,aG s t.vals=x)(c:Ky (A++k::B)):
  GInvP s (a++[t]) (A++k::B,((A++k::B).map fun k=>bX s k a 0).modify A.length (· ++[a.length])):=by
 have g:=Od.1 c;have o:=(Oc.1 g.2.1).1;have l:∀x∈A,aO x k<0:=fun x d=>g.2.2 x d k (Mr ..)
 refine⟨?_,fun j m=>?_,fun x d=>?_,c⟩
 ·have i:=nH (· ++[a.length]) (bX s k a 0) (B.map fun k=>bX s k a 0) (A.map fun k=>bX s k a 0);rw[L8]at i;simp only;rw[Nk,MX,i,Nk,MX,oW (fun x d=>by rw[b];exact(mS (l x d)).2),oW (fun x d=>by rw[b];exact(mS (o x d)).1),mi,b,if_pos (kI k)]
 ·rcases My.1 m with h|h
  ·exact f j h
  rw[Ml.1 h,b];simp
 obtain⟨j,i,n⟩:=e x d;exact⟨j,Om _ i,n⟩
theorem C8{s:Sch}{i:List Tp}{t:Tp}{u:List (List V)×List (List Nat)}(h:GInvP s i u)(D:aG s t.vals≠ []):GInvP s (i++[t]) (gV s u i.length t):=by
 obtain⟨f,w⟩:=u;obtain⟨m,d,b,a⟩:=h;simp only at m d b a;subst m;unfold gV;rw[if_neg D];simp only;obtain⟨k,e⟩:∃k,aG s t.vals=k:=⟨_,rfl⟩;rw[e];obtain⟨A,B,r,j,C,z⟩:=uC (fun x=>decide (aO x k<0)) f;have v:bk f k=A.length:=by unfold bk;rw[j]
 rw[v];clear v j;subst r;have o:∀x∈A,aO x k<0:=fun x g=>of_decide_eq_true (C x g)
 have q:=Od.1 a;have l:(A++B)[A.length]? =B.head?:=by
  rw[Mw (L5 _),M4,P7]
 rw[l];cases B with
 |nil=>
  rw[if_neg (c:=(([]:List (List V)).head?.any fun x=>aO x k==0)=true) MR,gh];exact xT e d b a o (fun x g=>by cases g)
 |cons y B=>
  have E:¬aO y k<0:=of_decide_eq_false (z y B Z);by_cases p:aO y k=0
  ·rw[if_pos (c:=((y::B).head?.any fun x=>aO x k==0)=true) (show(aO y k==0)=true by rw[p];rfl)];obtain rfl:=(jZ y k).1 p;exact Fk e d b a
  rw[if_neg (c:=((y::B).head?.any fun x=>aO x k==0)=true) (show¬(aO y k==0)=true by simpa using p),gh];have n:=BX E p;refine xT e d b a o fun x g=>?_
  rcases Mi.1 g with rfl|g
  ·exact n
  exact iC n ((Oc.1 q.2.1).1 x g)
theorem i8{s:Sch}:∀(ts a:List Tp) (b:List (List V)×List (List Nat)),GInvP s a b->(∀t∈ts,aG s t.vals≠ [])->GInvP s (a++ts) (dh s b a.length ts)
 |[],a,b,h,_=>by rw[MA];exact h
 |t::ts,a,b,h,hk=>by
  have c:=i8 ts (a++[t]) _ (C8 h (hk t (Mr ..))) fun x d=>hk x (MB _ d)
  rw[MG,Mc]at c;exact c
theorem vZ{r:Rel}(d:r.sch.cert=false)(b:∀t∈r.tups,aG r.sch t.vals≠ []):∃a:List (List V),aP r=a.map (fun k=>bX r.sch k r.tups 0)/\(∀t∈r.tups,aG r.sch t.vals∈a)/\∀k∈a,∃t∈r.tups,aG r.sch t.vals=k:=by
 have h:=i8 (s:=r.sch) r.tups [] ([],[]) ⟨Z,fun t c=>(by cases c),fun k b=>(by cases b),List.Pairwise.nil⟩ b;rw[M6]at h;refine⟨_,?_,h.cov,h.src⟩;unfold aP;rw[if_neg (by rw[d];simp)];exact h.bl
theorem lJ{s:Sch}:∀(ts:List Tp) (a:List (List V)×List (List Nat)) (i:Nat),(∀t∈ts,aG s t.vals=[])->(dh s a i ts).2=a.2++(List.range' i ts.length).map ([·])
 |[],a,i,_=>by simp[dh]
 |t::ts,a,i,h=>by
  have d:=lJ ts (gV s a i t) (i+1) fun x b=>h x (MB _ b)
  have c:(gV s a i t).2=a.2++[[i]]:=by unfold gV;rw[if_pos (h t (Mr ..))]
  rw[dh,d,c,Mb,List.range'_succ,MX,MG];rfl
theorem nj(s:Sch)(t:Tp):∀(ts:List Tp) (a:List (List V)×List (List Nat)) (i:Nat),dh s a i (ts++[t])=gV s (dh s a i ts) (i+ts.length) t
 |[],a,i=>rfl
 |x::ts,a,i=>by
  rw[Ng,dh,nj s t ts,dh,Mb,show i+1+ts.length=i+(ts.length+1) by omega]
def mj(l:List Nat):List Value:=l.map fun i=>.int .i64 (i:Nat)
def NB(v:Value)(vs:List Value)(b:Nat):Prop:=v.ownBlock=some b\/∃u∈vs,u.ownBlock=some b
def EIs(w:World)(base:Nat)(u:Value)(l:List Nat):Prop:=w.ownsRow base 3 1 u l.length (mj l)/\∀g,u.ownBlock=some g->NoDigB w g
structure Nest (w:World) (base:Nat) (v:Value) (vs:List Value) (L:List (List Nat)):Prop where
 row:w.ownsRow base 23 1 v L.length vs
 rd:∀g,v.ownBlock=some g->NoDigB w g
 el:∀(j:Nat) (u:Value) (l:List Nat),vs[j]? =some u->L[j]? =some l->EIs w base u l
 apart:∀(j k:Nat) (u t:Value) (b:Nat),j≠k->vs[j]? =some u->vs[k]? =some t->u.ownBlock=some b->t.ownBlock=some b->False
 out:∀u∈vs,∀b,u.ownBlock=some b->v.ownBlock≠some b
section
variable {w w':World} {base:Nat} {v:Value} {vs:List Value} {L:List (List Nat)}
theorem Nest.len(h:Nest w base v vs L):vs.length=L.length:=by have:=h.row.1;omega
theorem Nest.nil(w:World)(base:Nat):Nest w base (.slice none 0 0) [] []:=⟨World.ownsRow_nil _ _ _ _,fun g a=>(by cases a),fun j u l h=>(by simp at h),fun j k u t b _ h=>(by simp at h),fun u h=>(by cases h)⟩
theorem gQ{e:TypeId}{sz n:Nat}{u:Value}{xs:List Value}(h:w.ownsRow base e sz u n xs)(j:∀b,u.ownBlock=some b->w'.heap[b]? =w.heap[b]?):w'.ownsRow base e sz u n xs:=by
 refine⟨h.1,?_⟩;rcases h.2 with d|⟨g,a,cur,rfl,c,f,i⟩
 ·exact .inl d
 exact .inr ⟨g,a,cur,Z,c,by rw[j g Z];exact f,i⟩
theorem EIs.kept{u:Value}{l:List Nat}(h:EIs w base u l)(c:∀b,u.ownBlock=some b->w'.heap[b]? =w.heap[b]?):EIs w' base u l:=⟨gQ h.1 c,fun g a=>(h.2 g a).of (c g a)⟩
theorem Nest.kept(h:Nest w base v vs L)(c:∀b,NB v vs b->w'.heap[b]? =w.heap[b]?):Nest w' base v vs L:=
 ⟨gQ h.row fun b a=>c b (.inl a),fun g e=>(h.rd g e).of (c g (.inl e)),fun j u l d f=>(h.el j u l d f).kept fun b a=>c b (.inr ⟨u,L9 d,a⟩),h.apart,h.out⟩
theorem Nest.ok(h:Nest w base v vs L):∀g,NB v vs g->base<=g/\g<w.heap.size/\NoDigB w g:=by
 rintro g (a|⟨u,d,a⟩)
 ·have:=h.row.lt g a;exact⟨this.1,this.2,h.rd g a⟩
 obtain⟨j,e,rfl⟩:=Nb d;have f:=h.len;obtain⟨b,c⟩:=h.el j _ (L[j]'(by omega)) (L4 e) (L4 (by omega));have:=b.lt g a;exact⟨this.1,this.2,c g a⟩
theorem Nest.later(h:Nest w base v vs L)(c:Below w.heap.size w w'):Nest w' base v vs L:=h.kept fun b a=>c.block b (h.ok b a).2.1
theorem oX:∀{es:List Tree},(∀e∈es,e.cells=[e])->flat es=es
 |[],_=>rfl
 |e::es,h=>by rw[ei,h e (Mr ..),oX fun x a=>h x (MB _ a)];rfl
theorem BY(w:World)(G:Nat->Prop):∀l:List Nat,PT w G (mj l) (l.map fw)
 |[]=>.nil
 |_::l=>.sc _ (BY w G l)
theorem Fl{G:Nat->Prop}:∀{us:List Value} {ts:List Tree},us.length=ts.length->(∀(j:Nat) u t,us[j]? =some u->ts[j]? =some t->PT w G [u] [t])->PT w G us ts
 |[],[],_,_=>.nil
 |[],_::_,h,_=>by simp at h
 |_::_,[],h,_=>by simp at h
 |u::us,t::ts,hl,h=>(h 0 u t Z Z).cons (Fl (by simpa using hl) fun j x y b a=>h (j+1) x y (by simpa using b) (by simpa using a))
theorem Jo{G:Nat->Prop}{u:Value}{l:List Nat}(h:EIs w base u l)(k:∀g,u.ownBlock=some g->¬G g):PT w G [u] [iQ l]:=by
 rcases h.1.2 with⟨rfl,b⟩|⟨g,a,cur,rfl,m,i,b,c,o,n⟩
 ·obtain rfl:l=[]:=Mk b;exact dI _ _
 refine .sl g 0 a _ (mj l) (l.map fw) (ML.1 i).1 (k g Z) (fun j u d=>?_) (by simp) (by simpa using b) (by unfold maxLen at c;omega) ?_ .nil
 ·have:=World.ownsRow.cells h.1 (g:=g) Z j u d;rw[m5]at this;rw[M0];exact this
 rw[oX (fun e f=>by obtain⟨x,_,rfl⟩:=Ny.1 f;rfl)];exact BY w G l
theorem Nest.els(h:Nest w base v vs L){G:Nat->Prop}(e:∀g,NB v vs g->¬G g):PT w G vs (L.map iQ):=
 Fl (by rw[L8,h.len]) fun j u t b a=>by
  rw[MQ]at a;obtain⟨l,c,rfl⟩:=Na.1 a;exact Jo (h.el j u l b c) fun g d=>e g (.inr ⟨u,L9 b,d⟩)
theorem Fm{G:Nat->Prop}{e:TypeId}{v:Value}{xs:List Value}{es:List Tree}(d:w.ownsRow base e 1 v es.length xs)(k:∀g,v.ownBlock=some g->¬G g)(f:PT w G xs (flat es)):PT w G [v] [.sl es]:=by
 rcases d.2 with⟨rfl,c⟩|⟨g,a,cur,rfl,l,i,c,b,n,m⟩
 ·obtain rfl:es=[]:=Mk c;exact dI _ _
 refine .sl g 0 a _ xs es (ML.1 i).1 (k g Z) (fun j u h=>?_) Z c (by unfold maxLen at b;omega) f .nil;have:=World.ownsRow.cells d (g:=g) Z j u h;rw[m5]at this;rw[M0];exact this
theorem Fn(L:List (List Nat)):flat (L.map iQ)=L.map iQ:=oX fun e a=>by obtain⟨x,_,rfl⟩:=Ny.1 a;rfl
theorem Fo(K:List (List V)):flat (K.map iK)=K.map iK:=oX fun e a=>by obtain⟨x,_,rfl⟩:=Ny.1 a;rfl
theorem Nest.pt(h:Nest w base v vs L){G:Nat->Prop}(a:∀g,NB v vs g->¬G g):PT w G [v] [.sl (L.map iQ)]:=
 Fm (base:=base) (e:=23) (xs:=vs) (by rw[L8];exact h.row) (fun g b=>a g (.inl b)) (by rw[Fn];exact h.els a)
theorem mT{α:Type}(l:List α)(x:α){i:Nat}(d:i<=l.length)(j:Nat):(l.take i++[x]++l.drop i)[j]? =if j<i then l[j]? else if j=i then some x else l[j-1]? :=by
 have c:(l.take i).length=i:=by rw[Mf];omega
 rw[MG];by_cases a:j<i
 ·rw[if_pos a,ME (by omega),MZ,if_pos a]
 rw[if_neg a,Mw (by omega),c];by_cases b:j=i
 ·subst b;rw[if_pos Z,M4];rfl
 rw[if_neg b,show j-i=(j-i-1)+1 by omega,Ps,Pd,Nd];congr 1;omega
theorem dV{r:Option Nat}(d:w.grownBy w' r){b:Nat}(c:b<w.heap.size)(a:r≠some b):w'.heap[b]? =w.heap[b]? :=d.block b c fun e=>a e.symm
theorem Nest.add(h:Nest w base v vs L){i x:Nat}{u v':Value}(D:EIs w base u [x])(r:∀g,u.ownBlock=some g->¬NB v vs g)(O:w'.ownsRow base 23 1 v' (L.length+1) (vs.take i++[u]++vs.drop i))(J:w.grownBy w' v.ownBlock)(y:v'.ownBlock=v.ownBlock\/v'.ownBlock=some w.heap.size)(P:∀g,v'.ownBlock=some g->NoDigB w' g)(M:i<=L.length):
  Nest w' base v' (vs.take i++[u]++vs.drop i) (L.take i++[[x]]++L.drop i):=by
 have Q:=h.len;have E:∀b,u.ownBlock=some b->w'.heap[b]? =w.heap[b]? :=fun b m=>dV J (D.1.lt b m).2 fun e=>r b m (.inl e)
 have A:∀t∈vs,∀b,t.ownBlock=some b->w'.heap[b]? =w.heap[b]? :=fun t a b m=>dV J (h.ok b (.inr ⟨t,a,m⟩)).2.1 fun e=>h.out t a b m e
 have o:∀t∈vs.take i++[u]++vs.drop i,t∈vs\/t=u:=fun t a=>by
  simp only[My,Ml]at a;rcases a with(h|h)|h
  ·exact .inl (MC h)
  ·exact .inr h
  exact .inl (M2 h)
 have G:∀t∈vs.take i++[u]++vs.drop i,∀b,t.ownBlock=some b->b<w.heap.size:=fun t a b m=>by
  rcases o t a with q|rfl
  ·exact(h.ok b (.inr ⟨t,q,m⟩)).2.1
  exact(D.1.lt b m).2
 refine⟨by rw[show(L.take i++[[x]]++L.drop i).length=L.length+1 by simp;omega];exact O,P,fun j t l a c=>?_,fun j k s t b F n a d f=>?_,fun t a b m e=>?_⟩
 ·rw[mT _ _ (by omega)]at a;rw[mT _ _ M]at c;by_cases q:j<i
  ·rw[if_pos q]at a c;exact(h.el j t l a c).kept (A t (L9 a))
  rw[if_neg q]at a c;by_cases B:j=i
  ·rw[if_pos B]at a c;cases a;cases c;exact D.kept E
  rw[if_neg B]at a c;exact(h.el _ t l a c).kept (A t (L9 a))
 ·have key:∀(H:Nat) (C:Value),vs[H]? =some C->C.ownBlock=some b->u.ownBlock=some b->False:=fun H C q B N=>r b N (.inr ⟨C,L9 q,B⟩)
  rw[mT _ _ (by omega)]at n a;by_cases I:j<i
  ·rw[if_pos I]at n;by_cases p:k<i
   ·rw[if_pos p]at a;exact h.apart j k s t b F n a d f
   rw[if_neg p]at a;by_cases z:k=i
   ·rw[if_pos z]at a;cases a;exact key _ _ n d f
   rw[if_neg z]at a;exact h.apart j (k-1) s t b (by omega) n a d f
  rw[if_neg I]at n;by_cases K:j=i
  ·rw[if_pos K]at n;cases n;by_cases p:k<i
   ·rw[if_pos p]at a;exact key _ _ a f d
   rw[if_neg p,if_neg (by omega)]at a;exact key _ _ a f d
  rw[if_neg K]at n;by_cases p:k<i
  ·rw[if_pos p]at a;exact h.apart (j-1) k s t b (by omega) n a d f
  rw[if_neg p]at a;by_cases z:k=i
  ·rw[if_pos z]at a;cases a;exact key _ _ n d f
  rw[if_neg z]at a;exact h.apart (j-1) (k-1) s t b (by omega) n a d f
 rcases y with y|y
 ·rw[y]at e;rcases o t a with q|rfl
  ·exact h.out t q b m e
  exact r b m (.inl e)
 rw[y]at e;injection e with e
 have:=G t a b m;omega
theorem Nest.app(h:Nest w base v vs L){j x g c:Nat}{u i:Value}{l:List Nat}(M:vs[j]? =some u)(W:L[j]? =some l)(U:v=.slice (some ⟨g,0,none⟩) L.length c)(X:w'.ownsRow base 3 1 i (l.length+1) (mj (l++[x])))(S:w.grownBy w' u.ownBlock)(R:i.ownBlock=u.ownBlock\/i.ownBlock=some w.heap.size)(hd:∀g,i.ownBlock=some g->NoDigB w' g)(Q:bL i=true):
  Nest (w'.setCell ⟨g,j,none⟩ i) base v (vs.set j i) (L.set j (l++[x])):=by
 subst U;have J:=L9 M;have F:u.ownBlock≠some g:=fun e=>h.out u J g e Z
 have K:=(h.row.lt g Z).2;have E:w'.heap[g]? =w.heap[g]? :=dV S K F;have o:=gQ h.row (w':=w') fun b a=>by injection a with a;subst a;exact E
 have f:∀(k:Nat) (t:Value),(vs.set j i)[k]? =some t->(k=j/\t=i)\/(k≠j/\vs[k]? =some t):=fun k t d=>by
  rw[OQ]at d;split at d
  ·next e=>
   subst e;split at d
   ·cases d;exact .inl ⟨Z,Z⟩
   cases d
  next e=>exact .inr ⟨fun T=>e T.symm,d⟩
 have A:i.ownBlock≠some g:=fun e=>by
  rcases R with C|C
  ·exact F (C▸e)
  rw[C]at e;injection e with e;omega
 have y:∀b,b≠g->(w'.setCell ⟨g,j,none⟩ i).heap[b]? =w'.heap[b]? :=fun b a=>by
  simp only[World.setCell];rw[NJ,if_neg (fun e=>a e.symm)]
 have O:∀(k:Nat) (t:Value),k≠j->vs[k]? =some t->∀b,t.ownBlock=some b->(w'.setCell ⟨g,j,none⟩ i).heap[b]? =w.heap[b]? :=fun k t p d b a=>by
  have H:=L9 d;rw[y b fun e=>h.out t H b a (by rw[e];rfl)];exact dV S (h.ok b (.inr ⟨t,H,a⟩)).2.1 fun e=>h.apart k j t u b p d M a e
 have r:∀(k:Nat) (t:Value),k≠j->vs[k]? =some t->∀b,t.ownBlock=some b->i.ownBlock≠some b:=fun k t p d b a e=>by
  rcases R with C|C
  ·exact h.apart k j t u b p d M a (C▸e)
  rw[C]at e;injection e with e
  have:=(h.ok b (.inr ⟨t,L9 d,a⟩)).2.1;omega
 refine⟨by rw[MU];exact iR o i,fun g' z=>?_,fun k t Y d q=>?_,fun k m s t b I V d B D=>?_,fun t d b a e=>?_⟩
 ·injection z with z
  subst z;exact uz o ((h.rd g Z).of E) Q
 ·rcases f k t d with⟨rfl,rfl⟩|⟨p,n⟩
  ·have P:=(L7.1 W).1;rw[NA P]at q;cases q;refine⟨?_,fun b a=>(hd b a).of (y b fun e=>A (e▸a))⟩;rw[Mc,NL];exact gQ X fun b a=>y b fun e=>A (e▸a)
  rw[Nm (fun e=>p e.symm)]at q;exact(h.el k t Y n q).kept (O k t p n)
 ·rcases f k s V with⟨rfl,rfl⟩|⟨p,G⟩
  ·rcases f m t d with⟨rfl,rfl⟩|⟨H,n⟩
   ·exact I Z
   exact r m t H n b D B
  rcases f m t d with⟨rfl,rfl⟩|⟨H,n⟩
  ·exact r k s p G b B D
  exact h.apart k m s t b I G n B D
 injection e with e
 subst e;obtain⟨k,p,rfl⟩:=Nb d;rcases f k _ (L4 p)with⟨_,N⟩|⟨_,N⟩
 ·rw[N]at a;exact A a
 exact h.out _ (L9 N) g a Z
structure KeyR (w:World) (base:Nat) (v:Value) (xs:List Value) (K:List (List V)) (G:Nat->Prop):Prop where
 row:w.ownsRow base 61 1 v K.length xs
 rd:∀g,v.ownBlock=some g->NoDigB w g
 els:PT w G xs (K.map iK)
theorem KeyR.nil(w:World)(base:Nat)(G:Nat->Prop):KeyR w base (.slice none 0 0) [] [] G:=⟨World.ownsRow_nil _ _ _ _,fun g a=>(by cases a),.nil⟩
theorem KeyR.turn{xs:List Value}{K:List (List V)}{G G':Nat->Prop}(h:KeyR w base v xs K G)(d:w.heap.size<=w'.heap.size)(c:∀b,v.ownBlock=some b->w'.heap[b]? =w.heap[b]?)(e:∀b,b<w.heap.size->¬G b->w'.heap[b]? =w.heap[b]? /\¬G' b):KeyR w' base v xs K G':=
 ⟨gQ h.row c,fun g a=>(h.rd g a).of (c g a),h.els.mono d e⟩
theorem KeyR.pt{xs:List Value}{K:List (List V)}{G G':Nat->Prop}(h:KeyR w base v xs K G)(c:∀b,¬G b->¬G' b)(a:∀g,v.ownBlock=some g->¬G' g):PT w G' [v] [.sl (K.map iK)]:=
 Fm (base:=base) (e:=61) (xs:=xs) (by rw[L8];exact h.row) a (by rw[Fo];exact h.els.sub c)
end
structure Side (w0:World) (G0:Nat->Prop) (w1:World) (G1:Nat->Prop) (vO:Value) (vs:List Value) (L:List (List Nat)) (vK:Value) (xs:List Value) (K:List (List V)):Prop where
 nest:Nest w1 w0.heap.size vO vs L
 keys:KeyR w1 w0.heap.size vK xs K G1
 kn:∀b,vK.ownBlock=some b->¬NB vO vs b
 g1:∀b,G1 b↔(G0 b\/NB vO vs b\/vK.ownBlock=some b)
 below:Below w0.heap.size w0 w1
 e0:Env w0
 ok0:Gt G0 w0
def oY(G0:Nat->Prop)(vO:Value)(vs:List Value)(vK:Value)(b:Nat):Prop:=G0 b\/NB vO vs b\/vK.ownBlock=some b
section
variable {w0 w1 w w':World} {G0 G1:Nat->Prop} {vO vK:Value} {vs xs:List Value} {L:List (List Nat)} {K:List (List V)}
theorem Side.env(h:Side w0 G0 w1 G1 vO vs L vK xs K):Env w1:=h.e0.below h.below (L5 _)
theorem Side.key(h:Side w0 G0 w1 G1 vO vs L vK xs K):∀b,vK.ownBlock=some b->w0.heap.size<=b/\b<w1.heap.size/\NoDigB w1 b:=fun b a=>⟨(h.keys.row.lt b a).1,(h.keys.row.lt b a).2,h.keys.rd b a⟩
theorem Side.okw(h:Side w0 G0 w1 G1 vO vs L vK xs K):Gt G1 w1:=fun g a=>by
 rcases(h.g1 g).1 a with a|a|a
 ·have b:=h.ok0 g a;exact⟨Mp b.1 h.below.size,b.2.of (h.below.block g b.1)⟩
 ·exact(h.nest.ok g a).2
 exact(h.key g a).2
theorem Side.later(h:Side w0 G0 w1 G1 vO vs L vK xs K)(a:Below w1.heap.size w1 w):Side w0 G0 w G1 vO vs L vK xs K:=
 ⟨h.nest.later a,h.keys.turn a.size (fun b c=>a.block b (h.key b c).2.1) (fun b d e=>⟨a.block b d,e⟩),h.kn,h.g1,ak h.below a h.below.size,h.e0,h.ok0⟩
theorem Side.ones(h:Side w0 G0 w1 G1 vO vs L vK xs K):(∀x∈vs,x.oneCell'=true)/\∀x∈xs,x.oneCell'=true:=by
 refine⟨fun x a=>?_,fun x a=>?_⟩
 ·obtain⟨j,b,rfl⟩:=Nb a;have f:=h.nest.len;obtain⟨d,_⟩:=h.nest.el j _ (L[j]'(by omega)) (L4 b) (L4 (by omega));obtain⟨A,c,e⟩:=cc d;rw[e];rfl
 exact lp h.keys.els (by
  rw[List.all_map];exact Mh.2 fun _ _=>rfl) x a
theorem ja{w0 w w':World}{r:Option Nat}(a:Below w0.heap.size w0 w)(b:w.grownBy w' r)(c:∀k,r=some k->w0.heap.size<=k):Below w0.heap.size w0 w':=a.grown b a.size c
theorem Side.insL(h:Side w0 G0 w1 G1 vO vs L vK xs K)(a:Below w1.heap.size w1 w){i x:Nat}{u v':Value}(D:EIs w w0.heap.size u [x])(o:∀g,u.ownBlock=some g->w1.heap.size<=g)(H:w'.ownsRow w0.heap.size 23 1 v' (L.length+1) (vs.take i++[u]++vs.drop i))(s:w.grownBy w' vO.ownBlock)(r:v'.ownBlock=vO.ownBlock\/v'.ownBlock=some w.heap.size)(I:∀g,v'.ownBlock=some g->NoDigB w' g)(F:i<=L.length):
  Side w0 G0 w' (oY G0 v' (vs.take i++[u]++vs.drop i) vK) v' (vs.take i++[u]++vs.drop i) (L.take i++[[x]]++L.drop i) vK xs K/\∀b,b<w.heap.size->¬(G1 b\/u.ownBlock=some b)->w'.heap[b]? =w.heap[b]? /\¬oY G0 v' (vs.take i++[u]++vs.drop i) vK b:=by
 have E:=h.okw;have z:=h.nest.later a;have G:=z.add D (fun g s m=>by have:=(h.nest.ok g m).2.1;have:=o g s;omega) H s r I F;have j:∀b,b<w.heap.size->¬NB vO vs b->w'.heap[b]? =w.heap[b]? :=fun b c m=>dV s c fun e=>m (.inl e)
 have y:∀b,NB v' (vs.take i++[u]++vs.drop i) b->NB vO vs b\/u.ownBlock=some b\/b=w.heap.size:=fun b a=>by
  rcases a with a|⟨t,q,a⟩
  ·rcases r with r|r
   ·exact .inl (.inl (r▸a))
   rw[r]at a;injection a with a;exact .inr (.inr a.symm)
  simp only[My,Ml]at q;rcases q with(q|rfl)|q
  ·exact .inl (.inr ⟨t,MC q,a⟩)
  ·exact .inr (.inl a)
  exact .inl (.inr ⟨t,M2 q,a⟩)
 have n:∀b,b<w.heap.size->¬(G1 b\/u.ownBlock=some b)->w'.heap[b]? =w.heap[b]? /\¬oY G0 v' (vs.take i++[u]++vs.drop i) vK b:=fun b c p=>by
  refine⟨j b c fun m=>p (.inl ((h.g1 b).2 (.inr (.inl m)))),fun d=>?_⟩;rcases d with d|d|d
  ·exact p (.inl ((h.g1 b).2 (.inl d)))
  ·rcases y b d with l|l|l
   ·exact p (.inl ((h.g1 b).2 (.inr (.inl l))))
   ·exact p (.inr l)
   omega
  exact p (.inl ((h.g1 b).2 (.inr (.inr d))))
 have A:∀b,b<w1.heap.size->¬NB vO vs b->w'.heap[b]? =w1.heap[b]? :=fun b c m=>(j b (Mp c a.size) m).trans (a.block b c)
 have v:∀b,vK.ownBlock=some b->w'.heap[b]? =w1.heap[b]? :=fun b f=>A b (h.key b f).2.1 (h.kn b f)
 have B:Below w0.heap.size w0 w':=ja (ak h.below a h.below.size) s fun k e=>(h.nest.ok k (.inl e)).1
 refine⟨⟨G,h.keys.turn (L6 a.size s.size) v fun b c p=>?_,fun b f m=>?_,fun b=>OU,B,h.e0,h.ok0⟩,n⟩
 ·have C:=n b (Mp c a.size) fun d=>by
   rcases d with d|d
   ·exact p d
   have:=o b d;omega
  exact⟨C.1.trans (a.block b c),C.2⟩
 have C:=(h.key b f).2.1;rcases y b m with l|l|l
 ·exact h.kn b f l
 ·have:=o b l;omega
 have:=a.size;omega
theorem Side.insK(h:Side w0 G0 w G1 vO vs L vK xs K){i:Nat}{k:List V}{u v':Value}(v:PT w G1 [u] [iK k])(t:w'.ownsRow w0.heap.size 61 1 v' (K.length+1) (xs.take i++[u]++xs.drop i))(p:w.grownBy w' vK.ownBlock)(c:v'.ownBlock=vK.ownBlock\/v'.ownBlock=some w.heap.size)(x:∀g,v'.ownBlock=some g->NoDigB w' g)(y:i<=K.length):
  Side w0 G0 w' (oY G0 vO vs v') vO vs L v' (xs.take i++[u]++xs.drop i) (K.take i++[k]++K.drop i)/\∀b,b<w.heap.size->¬G1 b->w'.heap[b]? =w.heap[b]? /\¬oY G0 vO vs v' b:=by
 have a:∀b,b<w.heap.size->vK.ownBlock≠some b->w'.heap[b]? =w.heap[b]? :=fun b l m=>dV p l m
 have j:∀b,b<w.heap.size->¬G1 b->w'.heap[b]? =w.heap[b]? /\¬oY G0 vO vs v' b:=fun b l n=>by
  refine⟨a b l fun m=>n ((h.g1 b).2 (.inr (.inr m))),fun d=>?_⟩;rcases d with d|d|d
  ·exact n ((h.g1 b).2 (.inl d))
  ·exact n ((h.g1 b).2 (.inr (.inl d)))
  rcases c with c|c
  ·exact n ((h.g1 b).2 (.inr (.inr (c▸d))))
  rw[c]at d;injection d with d;omega
 have o:Below w0.heap.size w0 w':=ja h.below p fun k e=>(h.key k e).1
 have r:=h.nest.kept (w':=w') fun b q=>a b (h.nest.ok b q).2.1 fun e=>h.kn b e q
 refine⟨⟨r,⟨by rw[show(K.take i++[k]++K.drop i).length=K.length+1 by simp;omega];exact t,x,?_⟩,fun b f m=>?_,fun b=>OU,o,h.e0,h.ok0⟩,j⟩
 ·have s:=((h.keys.els.take i).append v).append (h.keys.els.drop i);rw[Nk,Nk,OB,OL];exact s.mono p.size j
 rcases c with c|c
 ·exact h.kn b (c▸f) m
 rw[c]at f;injection f with f
 have:=(h.nest.ok b m).2.1;omega
theorem Ag{j:Nat}{u c:Value}(f:vs[j]? =some u){b:Nat}(h:NB vO (vs.set j c) b):NB vO vs b\/c.ownBlock=some b:=by
 rcases h with h|⟨t,e,a⟩
 ·exact .inl (.inl h)
 rcases OH e with d|rfl
 ·exact .inl (.inr ⟨t,d,a⟩)
 exact .inr a
theorem Side.app1(h:Side w0 G0 w G1 vO vs L vK xs K){j:Nat}{u o:Value}(y:vs[j]? =some u)(A:w.grownBy w' u.ownBlock)(p:o.ownBlock=u.ownBlock\/o.ownBlock=some w.heap.size)(E:∀g,o.ownBlock=some g->NoDigB w' g)(q:∀g,o.ownBlock=some g->g<w'.heap.size):
  Gt (oY G0 vO (vs.set j o) vK) w'/\Env w'/\∀b,b<w.heap.size->¬G1 b->w'.heap[b]? =w.heap[b]? /\¬oY G0 vO (vs.set j o) vK b:=by
 have d:=L9 y;have f:∀b,b<w.heap.size->u.ownBlock≠some b->w'.heap[b]? =w.heap[b]? :=fun b m s=>dV A m s
 have x:=h.okw;have z:Below w0.heap.size w0 w':=ja h.below A fun k e=>(h.nest.ok k (.inr ⟨u,d,e⟩)).1
 refine⟨fun g a=>?_,h.e0.below z (L5 _),fun b m r=>⟨f b m fun s=>r ((h.g1 b).2 (.inr (.inl (.inr ⟨u,d,s⟩)))),fun l=>?_⟩⟩
 ·have i:g<w.heap.size/\NoDigB w g->u.ownBlock≠some g->g<w'.heap.size/\NoDigB w' g:=fun v s=>⟨Mp v.1 A.size,v.2.of (f g v.1 s)⟩
  rcases a with a|a|a
  ·refine i (x g ((h.g1 g).2 (.inl a))) fun e=>?_
   have v:=(h.nest.ok g (.inr ⟨u,d,e⟩)).1;have l:=(h.ok0 g a).1;omega
  ·rcases a with a|⟨t,B,a⟩
   ·exact i (h.nest.ok g (.inl a)).2 fun e=>h.nest.out u d g e a
   obtain⟨k,D,rfl⟩:=Nb B;have c:=L4 D;rw[OQ]at c;split at c
   ·split at c
    ·injection c with c
     rw[<-c]at a;exact⟨q g a,E g a⟩
    cases c
   next hne=>
   exact i (h.nest.ok g (.inr ⟨_,L9 c,a⟩)).2 fun e=>h.nest.apart k j _ u g (fun C=>hne C.symm) c y a e
  exact i (h.key g a).2 fun e=>h.kn g a (.inr ⟨u,d,e⟩)
 rcases l with l|l|l
 ·exact r ((h.g1 b).2 (.inl l))
 ·rcases Ag y l with n|n
  ·exact r ((h.g1 b).2 (.inr (.inl n)))
  rcases p with p|p
  ·exact r ((h.g1 b).2 (.inr (.inl (.inr ⟨u,d,p▸n⟩))))
  rw[p]at n;injection n with n;omega
 exact r ((h.g1 b).2 (.inr (.inr l)))
theorem Side.app2(h:Side w0 G0 w G1 vO vs L vK xs K){j x g c:Nat}{u a:Value}{l:List Nat}{A d:World}(G:vs[j]? =some u)(S:L[j]? =some l)(Q:vO=.slice (some ⟨g,0,none⟩) L.length c)(O:A.ownsRow w0.heap.size 3 1 a (l.length+1) (mj (l++[x])))(H:w.grownBy A u.ownBlock)(i:a.ownBlock=u.ownBlock\/a.ownBlock=some w.heap.size)(T:∀g,a.ownBlock=some g->NoDigB A g)(P:bL a=true)(t:Below A.heap.size A d):
  Side w0 G0 (d.setCell ⟨g,j,none⟩ a) (oY G0 vO (vs.set j a) vK) vO (vs.set j a) (L.set j (l++[x])) vK xs K/\∀b,b<d.heap.size->¬oY G0 vO (vs.set j a) vK b->(d.setCell ⟨g,j,none⟩ a).heap[b]? =d.heap[b]? /\¬oY G0 vO (vs.set j a) vK b:=by
 have q:=L9 G;have r:w.grownBy d u.ownBlock:=H.trans (pQ t);have N:=gQ O (w':=d) fun b y=>t.block b (O.lt b y).2
 have J:∀g,a.ownBlock=some g->NoDigB d g:=fun g H=>(T g H).of (t.block g (O.lt g H).2)
 have R:=h.nest.app G S Q N r i J P;have B:∀b,b≠g->(d.setCell ⟨g,j,none⟩ a).heap[b]? =d.heap[b]? :=fun b y=>by
  simp only[World.setCell];rw[NJ,if_neg (fun e=>y e.symm)]
 have F:vO.ownBlock=some g:=by rw[Q];rfl
 have E:NB vO vs g:=.inl F;have m:∀b,b<w.heap.size->¬NB vO vs b->(d.setCell ⟨g,j,none⟩ a).heap[b]? =w.heap[b]? :=fun b n z=>(B b fun e=>z (e▸E)).trans (dV r n fun e=>z (.inr ⟨u,q,e⟩))
 have C:∀b,vK.ownBlock=some b->(d.setCell ⟨g,j,none⟩ a).heap[b]? =w.heap[b]? :=fun b y=>m b (h.key b y).2.1 (h.kn b y)
 have I:(d.setCell ⟨g,j,none⟩ a).heap.size=d.heap.size:=by simp[World.setCell]
 have M:Below w0.heap.size w0 (d.setCell ⟨g,j,none⟩ a):=(ja h.below r fun k e=>(h.nest.ok k (.inr ⟨u,q,e⟩)).1).setCell (p:=⟨g,j,none⟩) (h.nest.ok g E).1 _;have D:∀b,b<w.heap.size->¬G1 b->¬oY G0 vO (vs.set j a) vK b:=fun b n o v=>by
  rcases v with v|v|v
  ·exact o ((h.g1 b).2 (.inl v))
  ·rcases Ag G v with f|f
   ·exact o ((h.g1 b).2 (.inr (.inl f)))
   rcases i with i|i
   ·exact o ((h.g1 b).2 (.inr (.inl (.inr ⟨u,q,i▸f⟩))))
   rw[i]at f;injection f with f;omega
  exact o ((h.g1 b).2 (.inr (.inr v)))
 refine⟨⟨R,h.keys.turn (by rw[I];exact r.size) C fun b n o=>⟨m b n fun z=>o ((h.g1 b).2 (.inr (.inl z))),D b n o⟩,fun b s z=>?_,fun b=>OU,M,h.e0,h.ok0⟩,fun b _ o=>⟨B b fun e=>o (.inr (.inl (.inl (e▸F)))),o⟩⟩;rcases Ag G z with f|f
 ·exact h.kn b s f
 rcases i with i|i
 ·exact h.kn b s (.inr ⟨u,q,i▸f⟩)
 rw[i]at f;injection f with f
 have:=(h.key b s).2.1;omega
theorem rc{w:World}{base b i:Nat}(h:w.heap[b]? =some (.cells #[.int .i64 (i:Nat)] 3 (0,0)))(c:base<=b):EIs w base (.slice (some ⟨b,0,none⟩) 1 1) [i]:=by
 refine⟨⟨Z,.inr ⟨b,1,_,Z,c,h,L5 _,by decide,Z,Z⟩⟩,fun g a=>?_⟩;injection a with a
 subst a;exact cI h Z
end
structure GivenR (l:List Oper) (dsts:List (Option Nat)) (t:Array Value) (F:List (Value->World->Prop)) (cons:List (Option Nat)) (B:Nat) (w:World) (I0:World->Prop) (c0 i:Nat) (T:Nat->Value) (W:World):Prop extends GivenC l dsts t F cons B w i T W where
 ini:(c0==i||pB l c0 i)=true->I0 W
def Fp(P:Program)(l:List Oper)(dsts:List (Option Nat))(t:Array Value)(F:List (Value->World->Prop))(cons:List (Option Nat))(ap:List Nat)(B:Nat)(w:World)(I0:World->Prop)(c0:Nat)(i:Nat)(o:Oper):Prop:=
 vE l dsts F cons i o.guard/\∀(T:Nat->Value) (W:World),GivenR l dsts t F cons B w I0 c0 i T W->OpRuns P o T W fun v W'=>dQ F i v W'/\Bw B W W' (ap.contains i)
inductive StepsR (P:Program) (l:List Oper) (dsts:List (Option Nat)) (t:Array Value) (F:List (Value->World->Prop)) (cons:List (Option Nat)) (ap:List Nat) (B:Nat) (w:World) (I0:World->Prop) (c0:Nat):Nat->List Oper->Prop
 |nil {i:Nat}:StepsR P l dsts t F cons ap B w I0 c0 i []
 |cons' {i:Nat} {o:Oper} {r:List Oper} (h:Fp P l dsts t F cons ap B w I0 c0 i o) (hs:StepsR P l dsts t F cons ap B w I0 c0 (i+1) r):StepsR P l dsts t F cons ap B w I0 c0 i (o::r)
section
variable {P:Program} {l:List Oper} {dsts:List (Option Nat)} {t:Array Value} {F:List (Value->World->Prop)} {cs:List (Option Nat)} {ap:List Nat} {B:Nat} {w:World} {I0:World->Prop} {c0:Nat}
theorem StepsR.cons{i:Nat}{o:Oper}{r:List Oper}(a:vE l dsts F cs i o.guard)(h:∀(T:Nat->Value) (W:World),GivenR l dsts t F cs B w I0 c0 i T W->OpRuns P o T W fun v W'=>dQ F i v W'/\Bw B W W' (ap.contains i))
  (b:StepsR P l dsts t F cs ap B w I0 c0 (i+1) r):StepsR P l dsts t F cs ap B w I0 c0 i (o::r):=.cons' ⟨a,h⟩ b
theorem StepsR.at{n:Nat}{r:List Oper}(h:StepsR P l dsts t F cs ap B w I0 c0 n r):∀(k:Nat) (o:Oper),r[k]? =some o->Fp P l dsts t F cs ap B w I0 c0 (n+k) o:=by
 induction h with
 |nil=>intro k o h;simp at h
 |cons' h hs ih=>
  intro k o a;cases k with
  |zero=>
   simp only[MW,MN]at a;subst a;exact h
  |succ k=>
   have:=ih k o (by simpa using a);rwa[NT,NW 1 k]at this
theorem qL{id:Nat}{Q:Exit->Act->World->Prop}{a:Act}(dsts:List (Option Nat))(F:List (Value->World->Prop))(pf:List Bool)(cons:List (Option Nat))(ap:List Nat)(B:Nat)(I0:World->Prop)(c0:Nat)(a9:I0 w.drew)(hI:∀W W',I0 W->Below W.heap.size W W'->I0 W')(a2:(ap.all fun i=>i==c0||pB l i c0)=true)
  (hm:P.follows .mixedOrders=true) (a5:dM l.toArray=true) (hd:l.map (·.dst)=dsts) (z:bV a.tmps.size dsts=true) (hB:B<=w.heap.size) (V:∀W,Stab W F)
  (a0:PureF F pf) (M:(ap.all fun i=>(List.range l.length).all fun j=>pf.getD j true||Bx l cons i j)=true)
  (N:StepsR P l dsts a.tmps F cons ap B w I0 c0 0 l)
  (U:∀(us:List Value) (W:World),us.length=dsts.length->(∀j,j<l.length->cons.getD j none=none->dQ F j (us.getD j undef) W)->Below B w W->B<=W.heap.size->Q .normal ⟨b8 a.tmps (dsts.zip us),a.defers⟩ W):(Code.region id l.toArray true).wp P Q a w:=by
 have b2:dsts.length=l.length:=by rw[<-hd];simp
 refine dF (fun L a' W=>∃us,a'=⟨b8 a.tmps (dsts.zip us),a.defers⟩/\L.size=l.length/\Closed l.toArray L/\MonoC F cons B w (fZ a.tmps dsts) L us W/\(L.getD c0 false=false->I0 W)) hm a5 ⟨fZ a.tmps dsts,?_,by simp,eI l.toArray,⟨Z,fun j d=>absurd d dG,fun _ _=>rfl,(Below.refl _ _).drew,hB⟩,fun _=>a9⟩ ?_ ?_
 ·rw[gX]
 ·rintro L a' W i o X h2 h3 h4 ⟨us,rfl,_,hc,q,S⟩;have X:L.size=l.length:=by simpa using X
  have J:l[i]? =some o:=by simpa using h3
  have hi:i<l.length:=(L7.1 J).1;have b0:dsts[i]? =some o.dst:=by rw[<-hd,MQ,J];rfl
  have m:us.length=dsts.length:=by rw[q.len,dj]
  have u:L.getD i false=false:=getD_both h2;have t:=hc.step h3 h4;have O:∀j,j≠i->pB l i j=true->L.getD j false=true:=fun j d y=>by
   have:=t.anc y (cM (by omega));rwa[am (fun e=>d e.symm)]at this
  have D:∀j,pB l j i=true->L.getD j false=false:=fun j y=>by
   cases hl:L.getD j false with
   |false=>rfl
   |true=>
    have:=hc.anc y hl;rw[u]at this;cases this
  have G:GivenC l dsts a.tmps F cons B w i (fun s=>(b8 a.tmps (dsts.zip us)).getD s undef) W:=by
   refine⟨fun s g=>eC dsts us _ s g,fun j s g=>?_,fun j s g=>?_,q.below,q.size⟩
   ·simp only[Ma,bne_iff_ne,beq_iff_eq]at g;obtain⟨⟨⟨d,y⟩,r⟩,g⟩:=g;show dQ F j ((b8 a.tmps (dsts.zip us)).getD s undef) W
    rw[(cl dsts us _ j s z m g).1];refine q.fact j (O j d y) fun c k=>?_
    rw[zk,k]at r;simp only[M5,beq_iff_eq]at r;rcases r with rfl|r
    ·exact u
    exact D c r
   simp only[Ma,M5,beq_iff_eq]at g;obtain⟨y,g⟩:=g;show(b8 a.tmps (dsts.zip us)).getD s undef=_
   have d:L.getD j false=false:=by
    rcases y with rfl|y
    ·exact u
    exact D j y
   rw[(cl dsts us _ j s z m g).1,q.old j d,jg _ _ _ _ g]
  obtain⟨hg,x⟩:Fp P l dsts a.tmps F cons ap B w I0 c0 i o:=by
   have:=N.at i o J;rwa[M0]at this
  have x:=x _ W ⟨G,fun h=>S (by
   simp only[M5,beq_iff_eq]at h;rcases h with rfl|h
   ·exact u
   exact D _ h)⟩
  have hw:Region.wanted o (yielded l.toArray (b8 a.tmps (dsts.zip us)))=true:=by
   unfold Region.wanted;cases a1:o.guard with
   |none=>rfl
   |some p=>
    obtain⟨j,b⟩:=p;rw[a1]at hg;obtain⟨s,g,hR⟩:=hg;simp only[Ma,bne_iff_ne,beq_iff_eq]at g;obtain⟨⟨⟨d,y⟩,r⟩,g⟩:=g;have hv:=hR _ _ (q.fact j (O j d y) fun c k=>by rw[r]at k;cases k);rw[<-(cl dsts us _ j s z m g).1]at hv;have b1:=(cl dsts us a.tmps j s z m g).2;have a4:(l.toArray[j]?).bind (·.dst)=some s:=by
     rw[<-hd,MQ]at g;cases ho:l[j]? with
     |none=>simp[ho]at g
     |some oj=>simpa[ho]using g
    have:(b8 a.tmps (dsts.zip us))[s]? =some (.bool b):=by
     have hz:s<(b8 a.tmps (dsts.zip us)).size:=by rw[fy];exact b1
     simp only[MV,MH hz,MK]at hv;rw[MH hz,hv]
    simp only[yielded,a4,Nc,this];cases b<;>rfl
  simp only[wpList];rw[if_pos hw];refine .inl<|Oper.wp_mono ?_ x.wp;rintro b3 T ⟨v,e,hR,E⟩;have Y:Below B W T/\W.heap.size<=T.heap.size:=by
   cases H:ap.contains i with
   |true=>rw[H]at E;exact E
   |false=>
    rw[H]at E;exact⟨Below.mono E q.size,Below.size E⟩
  refine⟨us.set i v,?_,by simpa using X,t,⟨by simpa using q.len,fun j d k=>?_,fun j d=>?_,q.below.trans Y.1,L6 q.size Y.2⟩,fun d=>?_⟩
  ·rw[e];exact iE dsts us _ _ i _ v z m b0
  ·by_cases n:i=j
   ·subst n;have:(us.set i v).getD i undef=v:=by simp[List.getD,show i<us.length by omega]
    rw[this];exact hR
   have C:L.getD j false=true:=by rwa[am n]at d
   have:(us.set i v).getD j undef=us.getD j undef:=by simp[List.getD,n]
   rw[this];have hf:dQ F j (us.getD j undef) W:=q.fact j C fun c A=>by
    have:=k c A;by_cases R:i=c
    ·subst R;exact u
    rwa[am R]at this
   cases H:ap.contains i with
   |false=>
    rw[H]at E;exact(V W).get j _ _ _ (Below.refl _ _) hf E
   |true=>
    by_cases a3:j<l.length
    ·have I:=Mh.1 M i (by simpa using H);have f:=Mh.1 I j (N1.2 a3);rw[M5]at f;rcases f with f|f
     ·exact a0.get j _ _ _ f hf
     exfalso;unfold Bx at f;simp only[M5,beq_iff_eq]at f;rcases f with(f|f)|f
     ·exact n f.symm
     ·rw[D j f]at C;cases C
     cases A:cons.getD j none with
     |none=>rw[A]at f;cases f
     |some c=>
      rw[A]at f;simp only[M5,beq_iff_eq]at f;have h7:=k c A;rcases f with rfl|f
      ·rw[cM (by omega)]at h7;cases h7
      rw[t.anc f (cM (by omega))]at h7;cases h7
    have hL:L.getD j false=false:=by simp[OO (show L.size<=j by omega)]
    rw[hL]at C;cases C
  ·by_cases n:i=j
   ·subst n;rw[cM (by omega)]at d;cases d
   rw[am n]at d;have:(us.set i v).getD j undef=us.getD j undef:=by simp[List.getD,n]
   rw[this];exact q.old j d
  have K:i≠c0:=fun e=>by
   rw[e]at hi d;rw[cM (by omega)]at d;cases d
  rw[am K]at d;cases H:ap.contains i with
  |false=>rw[H]at E;exact hI _ _ (S d) E
  |true=>
   exfalso;have I:=Mh.1 a2 i (by simpa using H);simp only[M5,beq_iff_eq]at I;rcases I with I|I
   ·exact K I
   have f:=O c0 (fun e=>K e.symm) I;rw[d]at f;cases f
 rintro L a' W X ⟨us,rfl,_,_,q,_⟩;exact U us W (by rw[q.len,dj]) (fun j d k=>q.fact j (X j (by simpa using d)) fun c t=>by rw[k]at t;cases t) q.below q.size
end
end Go.Proofs.YtfoejfohbkmmeaaGreatDoor
