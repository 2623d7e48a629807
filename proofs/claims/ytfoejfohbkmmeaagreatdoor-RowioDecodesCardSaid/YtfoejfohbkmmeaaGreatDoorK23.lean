import Derived.Test.YtfoejfohbkmmeaaGreatDoorK22
set_option linter.defProp false
open Go.Proofs.Tryz
namespace Go.Proofs.YtfoejfohbkmmeaaGreatDoor
open Go.RowKit
open Lib renaming hid→J
variable{α:Type}
def BU(s:Sch)(k:List V):List Tp->Nat
 |[]=>0
 |t::ts=>if bw (aR s t.vals) k=0 then BU s k ts+1 else BU s k ts
def BV(s:Sch)(k:List V):List Tp->Rat
 |[]=>0
 |t::ts=>if bw (aR s t.vals) k=0 then t.prob+BV s k ts else BV s k ts
def lU(s:Sch)(k:List V):∀ts i,(cE s k ts i).length=BU s k ts
 |[],_=>rfl
 |t::ts,i=>by
  have:=lU s k ts (i+1);simp only[cE,BU];split
  ·rw[Q5,this]
  exact this
def vR(s:Sch)(k:List V):∀a b i,cE s k (a++b) i=cE s k a i++cE s k b (i+a.length)
 |[],b,i=>by simp[cE]
 |t::a,b,i=>by
  have:=vR s k a b (i+1);simp only[Sq,cE,this,Q5,show i+1+a.length=i+(a.length+1) by omega];split<;>rfl
def El(a ts:List Tp)(t:Tp):je (a++t::ts) a.length=t.prob:=by
 unfold je;rw[Ru (Q3 _),RW];rfl
def rj(s:Sch)(k:List V):∀(ts a:List Tp) (q:Rat),(cE s k ts a.length).foldl (λq i=>q+je (a++ts) i) q=q+BV s k ts
 |[],a,q=>by simp[cE,BV];grind
 |t::ts,a,q=>by
  have b:=λq=>rj s k ts (a++[t]) q
  simp only[Q4,Ss,RL,UF]at b;simp only[cE,BV];split
  ·rw[Th,b,El,Rat.add_assoc]
  exact b q
def vT(s:Sch)(k:List V)(ts:List Tp):gR ts (cE s k ts 0)=BV s k ts:=by
 have:=rj s k ts [] 0;simp only[Ra,Sc]at this;unfold gR;rw[this];grind
def yw{s:Sch}{k:List V}:∀{ts:List Tp},(∀t∈ts,bw (aR s t.vals) k≠0)->BU s k ts=0/\∀i,cE s k ts i=[]
 |[],_=>⟨Z,λ_=>rfl⟩
 |t::ts,h=>by
  have a:=yw (s:=s) (k:=k) (ts:=ts) λx c=>h x (RD _ c)
  have b:=h t (Rw ..);exact⟨by rw[BU,if_neg b,a.1],λi=>by rw[cE,if_neg b,a.2]⟩
def p6(g:α->α)(x:α)(b:List α):∀a:List α,(a++x::b).modify a.length g=a++g x::b
 |[]=>rfl
 |y::a=>by
  have:=p6 g x b a;simp[Vn,this]
def iD(x:α)(b:List α):∀a:List α,(a++b).insertIdx a.length x=a++x::b
 |[]=>F
 |y::a=>by
  have:=iD x b a;simp[this]
def Hf(p:α->Bool)(l:List α):∃a b,l=a++b/\l.takeWhile p=a/\(∀x∈a,p x=true)/\∀y c,b=y::c->p y=false:=by
 induction l with
 |nil=>exact⟨[],[],Z,Z,λx h=>(by cases h),λy c h=>(by cases h)⟩
 |cons x l ih=>
  by_cases h:p x=true
  ·obtain⟨a,b,g,i,j,k⟩:=ih;refine⟨x::a,b,by rw[g];rfl,by rw[SA,if_pos h,i],λy d=>?_,k⟩;rcases Ri.1 d with rfl|d
   ·exact h
   exact j y d
  refine⟨[],x::l,Z,by rw[SA,if_neg h],λx h=>(by cases h),λy c e=>?_⟩;injection e with f _
  rw[<-f];simpa using h
def PS(l:List (List V)):Prop:=l.Pairwise λa b=>bw a b<0
structure GInvP (s:Sch) (pre:List Tp) (st:List (List V)×List (List Nat)):Prop where
 bl:st.2=st.1.map λk=>cE s k pre 0
 cov:∀t∈pre,aR s t.vals∈st.1
 src:∀k∈st.1,∃t∈pre,aR s t.vals=k
 srt:PS st.1
def oz(s:Sch)(k:List V)(a:List Tp)(t:Tp):cE s k (a++[t]) 0=cE s k a 0++if bw (aR s t.vals) k=0 then [a.length]else []:=by
 rw[vR,R4];simp only[cE]
def MW{a b:List V}(h:¬bw a b<0)(c:bw a b≠0):bw b a<0:=by
 have:=rh a b;omega
def o8{a b:List V}(h:bw a b<0):bw a b≠0/\bw b a≠0:=by
 have:=rh a b;omega
def rk{s:Sch}{a:List Tp}{t:Tp}{l:List (List V)}(h:∀x∈l,bw (aR s t.vals) x≠0):l.map (λk=>cE s k (a++[t]) 0)=l.map λk=>cE s k a 0:=by
 refine SV λx b=>?_
 rw[oz,if_neg (h x b),RP]
def BW{s:Sch}{c:List Tp}{t:Tp}{A B:List (List V)}{k:List V}(d:aR s t.vals=k)(f:∀t∈c,aR s t.vals∈A++B)(g:∀k∈A++B,∃t∈c,aR s t.vals=k)(m:PS (A++B))(o:∀x∈A,bw x k<0)(p:∀x∈B,bw k x<0):
  GInvP s (c++[t]) (A++k::B,((A++B).map λk=>cE s k c 0).insertIdx A.length [c.length]):=by
 have i:=Uj.1 m;have v:∀e∈c,bw (aR s e.vals) k≠0:=λe r=>by
  rcases RI.1 (f e r)with h|h
  ·exact(o8 (o _ h)).1
  exact(o8 (p _ h)).2
 refine⟨?_,λe r=>?_,λx l=>?_,?_⟩
 ·have j:=iD [c.length] (B.map λk=>cE s k c 0) (A.map λk=>cE s k c 0);rw[Rn]at j;simp only;rw[Sn,j,Sn,Sb,rk (λx l=>by rw[d];exact(o8 (o x l)).2),rk (λx l=>by rw[d];exact(o8 (p x l)).1),oz,d,if_pos (yv k),(yw v).2];rfl
 ·simp only[RI,Ri];rcases RI.1 r with h|h
  ·rcases RI.1 (f e h)with h|h
   ·exact .inl h
   exact .inr (.inr h)
  rw[Rs.1 h,d];exact .inr (.inl Z)
 ·simp only[RI,Ri]at l;rcases l with h|rfl|h
  ·obtain⟨e,j,n⟩:=g x (TQ _ h);exact⟨e,TQ _ j,n⟩
  ·exact⟨t,F,d⟩
  obtain⟨e,j,n⟩:=g x (Vh _ h);exact⟨e,TQ _ j,n⟩
 refine Uj.2 ⟨i.1,T7.2 ⟨p,i.2.1⟩,λa u b q=>?_⟩;rcases Ri.1 q with rfl|q
 ·exact o a u
 exact i.2.2 a u b q
def Ki{s:Sch}{a:List Tp}{t:Tp}{A B:List (List V)}{k:List V}(b:aR s t.vals=k)(e:∀t∈a,aR s t.vals∈A++k::B)(g:∀x∈A++k::B,∃t∈a,aR s t.vals=x)(c:PS (A++k::B)):
  GInvP s (a++[t]) (A++k::B,((A++k::B).map λk=>cE s k a 0).modify A.length (· ++[a.length])):=by
 have f:=Uj.1 c;have n:=(T7.1 f.2.1).1;have m:∀x∈A,bw x k<0:=λx d=>f.2.2 x d k (Rw ..)
 refine⟨?_,λj o=>?_,λx d=>?_,c⟩
 ·have i:=p6 (· ++[a.length]) (cE s k a 0) (B.map λk=>cE s k a 0) (A.map λk=>cE s k a 0);rw[Rn]at i;simp only;rw[Sn,Sb,i,Sn,Sb,rk (λx d=>by rw[b];exact(o8 (m x d)).2),rk (λx d=>by rw[b];exact(o8 (n x d)).1),oz,b,if_pos (yv k)]
 ·rcases RI.1 o with h|h
  ·exact e j h
  rw[Rs.1 h,b];simp
 obtain⟨j,i,l⟩:=g x d;exact⟨j,TQ _ i,l⟩
def Hg{s:Sch}{i:List Tp}{t:Tp}{u:List (List V)×List (List Nat)}(h:GInvP s i u)(D:aR s t.vals≠ []):GInvP s (i++[t]) (jr s u i.length t):=by
 obtain⟨f,v⟩:=u;obtain⟨l,b,d,a⟩:=h;simp only at l b d a;subst l;unfold jr;rw[if_neg D];simp only;obtain⟨k,e⟩:∃k,aR s t.vals=k:=⟨_,Z⟩;rw[e];obtain⟨A,B,q,o,z,C⟩:=Hf (λx=>decide (bw x k<0)) f;have w:bU f k=A.length:=by unfold bU;rw[o]
 rw[w];clear w o;subst q;have j:∀x∈A,bw x k<0:=λx g=>of_decide_eq_true (z x g)
 have r:=Uj.1 a;have m:(A++B)[A.length]? =B.head?:=by
  rw[Ru (Q3 _),RW,List.head?_eq_getElem?]
 rw[m];cases B with
 |nil=>
  rw[if_neg (c:=(([]:List (List V)).head?.any λx=>bw x k==0)=true) R0,iD];exact BW e b d a j (λx g=>by cases g)
 |cons y B=>
  have E:¬bw y k<0:=of_decide_eq_false (C y B Z);by_cases p:bw y k=0
  ·rw[if_pos (c:=((y::B).head?.any λx=>bw x k==0)=true) (show(bw y k==0)=true by rw[p];rfl)];obtain rfl:=(o7 y k).1 p;exact Ki e b d a
  rw[if_neg (c:=((y::B).head?.any λx=>bw x k==0)=true) (show¬(bw y k==0)=true by simpa using p),iD];have n:=MW E p;refine BW e b d a j λx g=>?_
  rcases Ri.1 g with rfl|g
  ·exact n
  exact lT n ((T7.1 r.2.1).1 x g)
def kh{s:Sch}:∀(ts a:List Tp) (b:List (List V)×List (List Nat)),GInvP s a b->(∀t∈ts,aR s t.vals≠ [])->GInvP s (a++ts) (ei s b a.length ts)
 |[],a,b,h,_=>by rw[RP];exact h
 |t::ts,a,b,h,hk=>by
  have c:=kh ts (a++[t]) _ (Hg h (hk t (Rw ..))) λx d=>hk x (RD _ d)
  rw[RL,Q4]at c;exact c
def Aq{r:Rel}(c:r.sch.cert=false)(b:∀t∈r.tups,aR r.sch t.vals≠ []):∃a:List (List V),bF r=a.map (λk=>cE r.sch k r.tups 0)/\(∀t∈r.tups,aR r.sch t.vals∈a)/\∀k∈a,∃t∈r.tups,aR r.sch t.vals=k:=by
 have h:=kh (s:=r.sch) r.tups [] ([],[]) ⟨Z,λt d=>(by cases d),λk b=>(by cases b),List.Pairwise.nil⟩ b;rw[Sc]at h;refine⟨_,?_,h.cov,h.src⟩;unfold bF;rw[if_neg (by rw[c];simp)];exact h.bl
def nT{s:Sch}:∀(ts:List Tp) (a:List (List V)×List (List Nat)) (i:Nat),(∀t∈ts,aR s t.vals=[])->(ei s a i ts).2=a.2++(List.range' i ts.length).map ([·])
 |[],a,i,_=>by simp[ei]
 |t::ts,a,i,h=>by
  have b:=nT ts (jr s a i t) (i+1) λx d=>h x (RD _ d)
  have c:(jr s a i t).2=a.2++[[i]]:=by unfold jr;rw[if_pos (h t (Rw ..))]
  rw[ei,b,c,Q5,List.range'_succ,Sb,RL];rfl
def pK(s:Sch)(t:Tp):∀(ts:List Tp) (a:List (List V)×List (List Nat)) (i:Nat),ei s a i (ts++[t])=jr s (ei s a i ts) (i+ts.length) t
 |[],a,i=>rfl
 |x::ts,a,i=>by
  rw[Sq,ei,pK s t ts,ei,Q5,show i+1+ts.length=i+(ts.length+1) by omega]
def p7(l:List Nat):List Value:=l.map λi=>.int .i64 (i:Nat)
def NB(v:Value)(vs:List Value)(b:Nat):Prop:=v.ownBlock=some b\/∃u∈vs,u.ownBlock=some b
def EIs(w:World)(base:Nat)(u:Value)(l:List Nat):Prop:=w.ownsRow base 3 1 u l.length (p7 l)/\∀g,u.ownBlock=some g->NoDigB w g
structure Nest (w:World) (base:Nat) (v:Value) (vs:List Value) (L:List (List Nat)):Prop where
 row:w.ownsRow base 23 1 v L.length vs
 rd:∀g,v.ownBlock=some g->NoDigB w g
 el:∀(j:Nat) (u:Value) (l:List Nat),vs[j]? =some u->L[j]? =some l->EIs w base u l
 apart:∀(j k:Nat) (u t:Value) (b:Nat),j≠k->vs[j]? =some u->vs[k]? =some t->u.ownBlock=some b->t.ownBlock=some b->False
 out:∀u∈vs,∀b,u.ownBlock=some b->v.ownBlock≠some b
section
variable {w w':World} {base:Nat} {v:Value} {vs:List Value} {L:List (List Nat)}
def Nest.len(h:Nest w base v vs L):vs.length=L.length:=by have:=h.row.1;omega
def Nest.nil(w:World)(base:Nat):Nest w base (.slice none 0 0) [] []:=⟨World.ownsRow_nil _ _ _ _,λg a=>(by cases a),λj u l h=>(by simp at h),λj k u t b _ h=>(by simp at h),λu h=>(by cases h)⟩
def jl{e:TypeId}{sz n:Nat}{u:Value}{xs:List Value}(h:w.ownsRow base e sz u n xs)(j:∀b,u.ownBlock=some b->w'.heap[b]? =w.heap[b]?):w'.ownsRow base e sz u n xs:=by
 refine⟨h.1,?_⟩;rcases h.2 with c|⟨g,a,cur,rfl,f,i,d⟩
 ·exact .inl c
 exact .inr ⟨g,a,cur,Z,f,by rw[j g Z];exact i,d⟩
def EIs.kept{u:Value}{l:List Nat}(h:EIs w base u l)(c:∀b,u.ownBlock=some b->w'.heap[b]? =w.heap[b]?):EIs w' base u l:=⟨jl h.1 c,λg a=>(h.2 g a).of (c g a)⟩
def Nest.kept(h:Nest w base v vs L)(c:∀b,NB v vs b->w'.heap[b]? =w.heap[b]?):Nest w' base v vs L:=
 ⟨jl h.row λb a=>c b (.inl a),λg e=>(h.rd g e).of (c g (.inl e)),λj u l d f=>(h.el j u l d f).kept λb a=>c b (.inr ⟨u,Q8 d,a⟩),h.apart,h.out⟩
def Nest.ok(h:Nest w base v vs L):∀g,NB v vs g->base<=g/\g<w.heap.size/\NoDigB w g:=by
 rintro g (a|⟨u,e,a⟩)
 ·have:=h.row.lt g a;exact⟨this.1,this.2,h.rd g a⟩
 obtain⟨j,d,rfl⟩:=Sl e;have f:=h.len;obtain⟨b,c⟩:=h.el j _ (L[j]'O) (Q2 d) (Q2 O);have:=b.lt g a;exact⟨this.1,this.2,c g a⟩
def Nest.later(h:Nest w base v vs L)(c:Below w.heap.size w w'):Nest w' base v vs L:=h.kept λb a=>c.block b (h.ok b a).2.1
def rl:∀{es:List Tree},(∀e∈es,e.cells=[e])->flat es=es
 |[],_=>rfl
 |e::es,h=>by rw[fm,h e (Rw ..),rl λx a=>h x (RD _ a)];rfl
def F2(w:World)(G:Nat->Prop):∀l:List Nat,PT w G (p7 l) (l.map gO)
 |[]=>.nil
 |_::l=>.sc _ (F2 w G l)
def Kj{G:Nat->Prop}:∀{us:List Value} {ts:List Tree},us.length=ts.length->(∀(j:Nat) u t,us[j]? =some u->ts[j]? =some t->PT w G [u] [t])->PT w G us ts
 |[],[],_,_=>.nil
 |[],_::_,h,_=>by simp at h
 |_::_,[],h,_=>by simp at h
 |u::us,t::ts,hl,h=>(h 0 u t Z Z).cons (Kj (by simpa using hl) λj x y a b=>h (j+1) x y (by simpa using a) (by simpa using b))
def OQ{G:Nat->Prop}{u:Value}{l:List Nat}(h:EIs w base u l)(c:∀g,u.ownBlock=some g->¬G g):PT w G [u] [j0 l]:=by
 rcases h.1.2 with⟨rfl,b⟩|⟨g,a,cur,rfl,m,f,b,i,n,o⟩
 ·obtain rfl:l=[]:=Rj b;exact bS _ _
 refine .sl g 0 a _ (p7 l) (l.map gO) (RQ.1 f).1 (c g Z) (λj u k=>?_) F (by simpa using b) (by unfold maxLen at i;omega) ?_ .nil
 ·have:=World.ownsRow.cells h.1 (g:=g) Z j u k;rw[py]at this;rw[R4];exact this
 rw[rl (λe d=>by obtain⟨x,_,rfl⟩:=Sv.1 d;rfl)];exact F2 w G l
def Nest.els(h:Nest w base v vs L){G:Nat->Prop}(c:∀g,NB v vs g->¬G g):PT w G vs (L.map j0):=
 Kj (by rw[Rn,h.len]) λj u t b a=>by
  rw[RK]at a;obtain⟨l,e,rfl⟩:=R9.1 a;exact OQ (h.el j u l b e) λg d=>c g (.inr ⟨u,Q8 b,d⟩)
def Kk{G:Nat->Prop}{e:TypeId}{v:Value}{xs:List Value}{es:List Tree}(d:w.ownsRow base e 1 v es.length xs)(f:∀g,v.ownBlock=some g->¬G g)(k:PT w G xs (flat es)):PT w G [v] [.sl es]:=by
 rcases d.2 with⟨rfl,c⟩|⟨g,a,cur,rfl,l,h,c,b,m,n⟩
 ·obtain rfl:es=[]:=Rj c;exact bS _ _
 refine .sl g 0 a _ xs es (RQ.1 h).1 (f g Z) (λj u i=>?_) Z c (by unfold maxLen at b;omega) k .nil;have:=World.ownsRow.cells d (g:=g) Z j u i;rw[py]at this;rw[R4];exact this
def Kl(L:List (List Nat)):flat (L.map j0)=L.map j0:=rl λe a=>by obtain⟨x,_,rfl⟩:=Sv.1 a;rfl
def Km(K:List (List V)):flat (K.map j7)=K.map j7:=rl λe a=>by obtain⟨x,_,rfl⟩:=Sv.1 a;rfl
def Nest.pt(h:Nest w base v vs L){G:Nat->Prop}(a:∀g,NB v vs g->¬G g):PT w G [v] [.sl (L.map j0)]:=
 Kk (base:=base) (e:=23) (xs:=vs) (by rw[Rn];exact h.row) (λg b=>a g (.inl b)) (by rw[Kl];exact h.els a)
def o9(l:List α)(x:α){i:Nat}(d:i<=l.length)(j:Nat):(l.take i++[x]++l.drop i)[j]? =if j<i then l[j]? else if j=i then some x else l[j-1]? :=by
 have c:(l.take i).length=i:=by rw[Rb];omega
 rw[RL];by_cases a:j<i
 ·rw[if_pos a,Rv O,R7,if_pos a]
 rw[if_neg a,Ru O,c];by_cases b:j=i
 ·subst b;rw[if_pos Z,RW];rfl
 rw[if_neg b,show j-i=(j-i-1)+1 by omega,UF,Ur,Si];congr 1;omega
def eY{r:Option Nat}(d:w.grownBy w' r){b:Nat}(c:b<w.heap.size)(a:r≠some b):w'.heap[b]? =w.heap[b]? :=d.block b c λe=>a e.symm
def Nest.add(h:Nest w base v vs L){i x:Nat}{u v':Value}(G:EIs w base u [x])(r:∀g,u.ownBlock=some g->¬NB v vs g)(Q:w'.ownsRow base 23 1 v' (L.length+1) (vs.take i++[u]++vs.drop i))(J:w.grownBy w' v.ownBlock)(A:v'.ownBlock=v.ownBlock\/v'.ownBlock=some w.heap.size)(N:∀g,v'.ownBlock=some g->NoDigB w' g)(P:i<=L.length):
  Nest w' base v' (vs.take i++[u]++vs.drop i) (L.take i++[[x]]++L.drop i):=by
 have R:=h.len;have E:∀b,u.ownBlock=some b->w'.heap[b]? =w.heap[b]? :=λb m=>eY J (G.1.lt b m).2 λe=>r b m (.inl e)
 have z:∀t∈vs,∀b,t.ownBlock=some b->w'.heap[b]? =w.heap[b]? :=λt a b m=>eY J (h.ok b (.inr ⟨t,a,m⟩)).2.1 λe=>h.out t a b m e
 have q:∀t∈vs.take i++[u]++vs.drop i,t∈vs\/t=u:=λt a=>by
  simp only[RI,Rs]at a;rcases a with(h|h)|h
  ·exact .inl (RG h)
  ·exact .inr h
  exact .inl (Sf h)
 have F:∀t∈vs.take i++[u]++vs.drop i,∀b,t.ownBlock=some b->b<w.heap.size:=λt a b m=>by
  rcases q t a with p|rfl
  ·exact(h.ok b (.inr ⟨t,p,m⟩)).2.1
  exact(G.1.lt b m).2
 refine⟨by rw[show(L.take i++[[x]]++L.drop i).length=L.length+1 by simp;omega];exact Q,N,λj t l a c=>?_,λj k s t b D n a d f=>?_,λt a b m e=>?_⟩
 ·rw[o9 _ _ O]at a;rw[o9 _ _ P]at c;by_cases p:j<i
  ·rw[if_pos p]at a c;exact(h.el j t l a c).kept (z t (Q8 a))
  rw[if_neg p]at a c;by_cases B:j=i
  ·rw[if_pos B]at a c;cases a;cases c;exact G.kept E
  rw[if_neg B]at a c;exact(h.el _ t l a c).kept (z t (Q8 a))
 ·have key:∀(K:Nat) (C:Value),vs[K]? =some C->C.ownBlock=some b->u.ownBlock=some b->False:=λK C p B M=>r b M (.inr ⟨C,Q8 p,B⟩)
  rw[o9 _ _ O]at n a;by_cases H:j<i
  ·rw[if_pos H]at n;by_cases o:k<i
   ·rw[if_pos o]at a;exact h.apart j k s t b D n a d f
   rw[if_neg o]at a;by_cases y:k=i
   ·rw[if_pos y]at a;cases a;exact key _ _ n d f
   rw[if_neg y]at a;exact h.apart j (k-1) s t b O n a d f
  rw[if_neg H]at n;by_cases I:j=i
  ·rw[if_pos I]at n;cases n;by_cases o:k<i
   ·rw[if_pos o]at a;exact key _ _ a f d
   rw[if_neg o,if_neg O]at a;exact key _ _ a f d
  rw[if_neg I]at n;by_cases o:k<i
  ·rw[if_pos o]at a;exact h.apart (j-1) k s t b O n a d f
  rw[if_neg o]at a;by_cases y:k=i
  ·rw[if_pos y]at a;cases a;exact key _ _ n d f
  rw[if_neg y]at a;exact h.apart (j-1) (k-1) s t b O n a d f
 rcases A with A|A
 ·rw[A]at e;rcases q t a with p|rfl
  ·exact h.out t p b m e
  exact r b m (.inl e)
 rw[A]at e;injection e with e
 have:=F t a b m;omega
def Nest.app(h:Nest w base v vs L){j x g c:Nat}{u i:Value}{l:List Nat}(M:vs[j]? =some u)(V:L[j]? =some l)(Y:v=.slice (some ⟨g,0,none⟩) L.length c)(W:w'.ownsRow base 3 1 i (l.length+1) (p7 (l++[x])))(R:w.grownBy w' u.ownBlock)(S:i.ownBlock=u.ownBlock\/i.ownBlock=some w.heap.size)(U:∀g,i.ownBlock=some g->NoDigB w' g)(P:bR i=true):
  Nest (w'.setCell ⟨g,j,none⟩ i) base v (vs.set j i) (L.set j (l++[x])):=by
 subst Y;have Q:=Q8 M;have E:u.ownBlock≠some g:=λe=>h.out u Q g e Z
 have K:=(h.row.lt g Z).2;have F:w'.heap[g]? =w.heap[g]? :=eY R K E;have o:=jl h.row (w':=w') λb a=>by injection a with a;subst a;exact F
 have f:∀(k:Nat) (t:Value),(vs.set j i)[k]? =some t->(k=j/\t=i)\/(k≠j/\vs[k]? =some t):=λk t d=>by
  rw[Ua]at d;split at d
  ·next e=>
   subst e;split at d
   ·cases d;exact .inl ⟨Z,Z⟩
   cases d
  next e=>exact .inr ⟨λT=>e T.symm,d⟩
 have D:i.ownBlock≠some g:=λe=>by
  rcases S with y|y
  ·exact E (y▸e)
  rw[y]at e;injection e with e;omega
 have A:∀b,b≠g->(w'.setCell ⟨g,j,none⟩ i).heap[b]? =w'.heap[b]? :=λb a=>by
  simp only[World.setCell];rw[SX,if_neg (λe=>a e.symm)]
 have N:∀(k:Nat) (t:Value),k≠j->vs[k]? =some t->∀b,t.ownBlock=some b->(w'.setCell ⟨g,j,none⟩ i).heap[b]? =w.heap[b]? :=λk t p d b a=>by
  have H:=Q8 d;rw[A b λe=>h.out t H b a (by rw[e];rfl)];exact eY R (h.ok b (.inr ⟨t,H,a⟩)).2.1 λe=>h.apart k j t u b p d M a e
 have r:∀(k:Nat) (t:Value),k≠j->vs[k]? =some t->∀b,t.ownBlock=some b->i.ownBlock≠some b:=λk t p d b a e=>by
  rcases S with y|y
  ·exact h.apart k j t u b p d M a (y▸e)
  rw[y]at e;injection e with e
  have:=(h.ok b (.inr ⟨t,Q8 d,a⟩)).2.1;omega
 refine⟨by rw[RO];exact j1 o i,λg' z=>?_,λk t l' d q=>?_,λk m s t b G X d B C=>?_,λt d b a e=>?_⟩
 ·injection z with z
  subst z;exact yr o ((h.rd g Z).of F) P
 ·rcases f k t d with⟨rfl,rfl⟩|⟨p,n⟩
  ·have O:=(Q6.1 V).1;rw[So O]at q;cases q;refine⟨?_,λb a=>(U b a).of (A b λe=>D (e▸a))⟩;rw[Q4,Ss];exact jl W λb a=>A b λe=>D (e▸a)
  rw[Se (λe=>p e.symm)]at q;exact(h.el k t l' n q).kept (N k t p n)
 ·rcases f k s X with⟨rfl,rfl⟩|⟨p,I⟩
  ·rcases f m t d with⟨rfl,rfl⟩|⟨H,n⟩
   ·exact G Z
   exact r m t H n b C B
  rcases f m t d with⟨rfl,rfl⟩|⟨H,n⟩
  ·exact r k s p I b B C
  exact h.apart k m s t b G I n B C
 injection e with e
 subst e;obtain⟨k,p,rfl⟩:=Sl d;rcases f k _ (Q2 p)with⟨_,J⟩|⟨_,J⟩
 ·rw[J]at a;exact D a
 exact h.out _ (Q8 J) g a Z
structure KeyR (w:World) (base:Nat) (v:Value) (xs:List Value) (K:List (List V)) (G:Nat->Prop):Prop where
 row:w.ownsRow base 61 1 v K.length xs
 rd:∀g,v.ownBlock=some g->NoDigB w g
 els:PT w G xs (K.map j7)
def KeyR.nil(w:World)(base:Nat)(G:Nat->Prop):KeyR w base (.slice none 0 0) [] [] G:=⟨World.ownsRow_nil _ _ _ _,λg a=>(by cases a),.nil⟩
def KeyR.turn{xs:List Value}{K:List (List V)}{G G':Nat->Prop}(h:KeyR w base v xs K G)(e:w.heap.size<=w'.heap.size)(c:∀b,v.ownBlock=some b->w'.heap[b]? =w.heap[b]?)(d:∀b,b<w.heap.size->¬G b->w'.heap[b]? =w.heap[b]? /\¬G' b):KeyR w' base v xs K G':=
 ⟨jl h.row c,λg a=>(h.rd g a).of (c g a),h.els.mono e d⟩
def KeyR.pt{xs:List Value}{K:List (List V)}{G G':Nat->Prop}(h:KeyR w base v xs K G)(a:∀b,¬G b->¬G' b)(c:∀g,v.ownBlock=some g->¬G' g):PT w G' [v] [.sl (K.map j7)]:=
 Kk (base:=base) (e:=61) (xs:=xs) (by rw[Rn];exact h.row) c (by rw[Km];exact h.els.sub a)
end
structure Side (w0:World) (G0:Nat->Prop) (w1:World) (G1:Nat->Prop) (vO:Value) (vs:List Value) (L:List (List Nat)) (vK:Value) (xs:List Value) (K:List (List V)):Prop where
 nest:Nest w1 w0.heap.size vO vs L
 keys:KeyR w1 w0.heap.size vK xs K G1
 kn:∀b,vK.ownBlock=some b->¬NB vO vs b
 g1:∀b,G1 b↔(G0 b\/NB vO vs b\/vK.ownBlock=some b)
 below:Below w0.heap.size w0 w1
 e0:Env w0
 ok0:L1 G0 w0
def rm(G0:Nat->Prop)(vO:Value)(vs:List Value)(vK:Value)(b:Nat):Prop:=G0 b\/NB vO vs b\/vK.ownBlock=some b
section
variable {w0 w1 w w':World} {G0 G1:Nat->Prop} {vO vK:Value} {vs xs:List Value} {L:List (List Nat)} {K:List (List V)}
def Side.env(h:Side w0 G0 w1 G1 vO vs L vK xs K):Env w1:=h.e0.below h.below (Q3 _)
def Side.key(h:Side w0 G0 w1 G1 vO vs L vK xs K):∀b,vK.ownBlock=some b->w0.heap.size<=b/\b<w1.heap.size/\NoDigB w1 b:=λb a=>⟨(h.keys.row.lt b a).1,(h.keys.row.lt b a).2,h.keys.rd b a⟩
def Side.okw(h:Side w0 G0 w1 G1 vO vs L vK xs K):L1 G1 w1:=λg a=>by
 rcases(h.g1 g).1 a with a|a|a
 ·have b:=h.ok0 g a;exact⟨Rh b.1 h.below.size,b.2.of (h.below.block g b.1)⟩
 ·exact(h.nest.ok g a).2
 exact(h.key g a).2
def Side.later(h:Side w0 G0 w1 G1 vO vs L vK xs K)(a:Below w1.heap.size w1 w):Side w0 G0 w G1 vO vs L vK xs K:=
 ⟨h.nest.later a,h.keys.turn a.size (λb c=>a.block b (h.key b c).2.1) (λb d e=>⟨a.block b d,e⟩),h.kn,h.g1,aL h.below a h.below.size,h.e0,h.ok0⟩
def Side.ones(h:Side w0 G0 w1 G1 vO vs L vK xs K):(∀x∈vs,x.oneCell'=true)/\∀x∈xs,x.oneCell'=true:=by
 refine⟨λx a=>?_,λx a=>?_⟩
 ·obtain⟨j,d,rfl⟩:=Sl a;have f:=h.nest.len;obtain⟨b,_⟩:=h.nest.el j _ (L[j]'O) (Q2 d) (Q2 O);obtain⟨A,c,e⟩:=ce b;rw[e];rfl
 exact ny h.keys.els (by
  rw[List.all_map];exact Rl.2 λ_ _=>rfl) x a
def ki{w0 w w':World}{r:Option Nat}(a:Below w0.heap.size w0 w)(b:w.grownBy w' r)(c:∀k,r=some k->w0.heap.size<=k):Below w0.heap.size w0 w':=a.grown b a.size c
def Side.insL(h:Side w0 G0 w1 G1 vO vs L vK xs K)(a:Below w1.heap.size w1 w){i x:Nat}{u v':Value}(I:EIs w w0.heap.size u [x])(p:∀g,u.ownBlock=some g->w1.heap.size<=g)(G:w'.ownsRow w0.heap.size 23 1 v' (L.length+1) (vs.take i++[u]++vs.drop i))(q:w.grownBy w' vO.ownBlock)(s:v'.ownBlock=vO.ownBlock\/v'.ownBlock=some w.heap.size)(E:∀g,v'.ownBlock=some g->NoDigB w' g)(F:i<=L.length):
  Side w0 G0 w' (rm G0 v' (vs.take i++[u]++vs.drop i) vK) v' (vs.take i++[u]++vs.drop i) (L.take i++[[x]]++L.drop i) vK xs K/\∀b,b<w.heap.size->¬(G1 b\/u.ownBlock=some b)->w'.heap[b]? =w.heap[b]? /\¬rm G0 v' (vs.take i++[u]++vs.drop i) vK b:=by
 have H:=h.okw;have A:=h.nest.later a;have D:=A.add I (λg q m=>by have:=(h.nest.ok g m).2.1;have:=p g q;omega) G q s E F;have j:∀b,b<w.heap.size->¬NB vO vs b->w'.heap[b]? =w.heap[b]? :=λb c m=>eY q c λe=>m (.inl e)
 have y:∀b,NB v' (vs.take i++[u]++vs.drop i) b->NB vO vs b\/u.ownBlock=some b\/b=w.heap.size:=λb a=>by
  rcases a with a|⟨t,r,a⟩
  ·rcases s with s|s
   ·exact .inl (.inl (s▸a))
   rw[s]at a;injection a with a;exact .inr (.inr a.symm)
  simp only[RI,Rs]at r;rcases r with(r|rfl)|r
  ·exact .inl (.inr ⟨t,RG r,a⟩)
  ·exact .inr (.inl a)
  exact .inl (.inr ⟨t,Sf r,a⟩)
 have n:∀b,b<w.heap.size->¬(G1 b\/u.ownBlock=some b)->w'.heap[b]? =w.heap[b]? /\¬rm G0 v' (vs.take i++[u]++vs.drop i) vK b:=λb c o=>by
  refine⟨j b c λm=>o (.inl ((h.g1 b).2 (.inr (.inl m)))),λd=>?_⟩;rcases d with d|d|d
  ·exact o (.inl ((h.g1 b).2 (.inl d)))
  ·rcases y b d with l|l|l
   ·exact o (.inl ((h.g1 b).2 (.inr (.inl l))))
   ·exact o (.inr l)
   omega
  exact o (.inl ((h.g1 b).2 (.inr (.inr d))))
 have C:∀b,b<w1.heap.size->¬NB vO vs b->w'.heap[b]? =w1.heap[b]? :=λb c m=>(j b (Rh c a.size) m).trans (a.block b c)
 have v:∀b,vK.ownBlock=some b->w'.heap[b]? =w1.heap[b]? :=λb f=>C b (h.key b f).2.1 (h.kn b f)
 have B:Below w0.heap.size w0 w':=ki (aL h.below a h.below.size) q λk e=>(h.nest.ok k (.inl e)).1
 refine⟨⟨D,h.keys.turn (Q7 a.size q.size) v λb c o=>?_,λb f m=>?_,λb=>T1,B,h.e0,h.ok0⟩,n⟩
 ·have z:=n b (Rh c a.size) λd=>by
   rcases d with d|d
   ·exact o d
   have:=p b d;omega
  exact⟨z.1.trans (a.block b c),z.2⟩
 have z:=(h.key b f).2.1;rcases y b m with l|l|l
 ·exact h.kn b f l
 ·have:=p b l;omega
 have:=a.size;omega
def Side.insK(h:Side w0 G0 w G1 vO vs L vK xs K){i:Nat}{k:List V}{u v':Value}(x:PT w G1 [u] [j7 k])(v:w'.ownsRow w0.heap.size 61 1 v' (K.length+1) (xs.take i++[u]++xs.drop i))(p:w.grownBy w' vK.ownBlock)(d:v'.ownBlock=vK.ownBlock\/v'.ownBlock=some w.heap.size)(t:∀g,v'.ownBlock=some g->NoDigB w' g)(y:i<=K.length):
  Side w0 G0 w' (rm G0 vO vs v') vO vs L v' (xs.take i++[u]++xs.drop i) (K.take i++[k]++K.drop i)/\∀b,b<w.heap.size->¬G1 b->w'.heap[b]? =w.heap[b]? /\¬rm G0 vO vs v' b:=by
 have a:∀b,b<w.heap.size->vK.ownBlock≠some b->w'.heap[b]? =w.heap[b]? :=λb l m=>eY p l m
 have j:∀b,b<w.heap.size->¬G1 b->w'.heap[b]? =w.heap[b]? /\¬rm G0 vO vs v' b:=λb l n=>by
  refine⟨a b l λm=>n ((h.g1 b).2 (.inr (.inr m))),λc=>?_⟩;rcases c with c|c|c
  ·exact n ((h.g1 b).2 (.inl c))
  ·exact n ((h.g1 b).2 (.inr (.inl c)))
  rcases d with d|d
  ·exact n ((h.g1 b).2 (.inr (.inr (d▸c))))
  rw[d]at c;injection c with c;omega
 have o:Below w0.heap.size w0 w':=ki h.below p λk e=>(h.key k e).1
 have s:=h.nest.kept (w':=w') λb q=>a b (h.nest.ok b q).2.1 λe=>h.kn b e q
 refine⟨⟨s,⟨by rw[show(K.take i++[k]++K.drop i).length=K.length+1 by simp;omega];exact v,t,?_⟩,λb f m=>?_,λb=>T1,o,h.e0,h.ok0⟩,j⟩
 ·have r:=((h.keys.els.take i).append x).append (h.keys.els.drop i);rw[Sn,Sn,Tv,Tw];exact r.mono p.size j
 rcases d with d|d
 ·exact h.kn b (d▸f) m
 rw[d]at f;injection f with f
 have:=(h.nest.ok b m).2.1;omega
def Em{j:Nat}{u c:Value}(f:vs[j]? =some u){b:Nat}(h:NB vO (vs.set j c) b):NB vO vs b\/c.ownBlock=some b:=by
 rcases h with h|⟨t,e,a⟩
 ·exact .inl (.inl h)
 rcases TS e with d|rfl
 ·exact .inl (.inr ⟨t,d,a⟩)
 exact .inr a
def Side.app1(h:Side w0 G0 w G1 vO vs L vK xs K){j:Nat}{u n:Value}(y:vs[j]? =some u)(x:w.grownBy w' u.ownBlock)(r:n.ownBlock=u.ownBlock\/n.ownBlock=some w.heap.size)(B:∀g,n.ownBlock=some g->NoDigB w' g)(p:∀g,n.ownBlock=some g->g<w'.heap.size):
  L1 (rm G0 vO (vs.set j n) vK) w'/\Env w'/\∀b,b<w.heap.size->¬G1 b->w'.heap[b]? =w.heap[b]? /\¬rm G0 vO (vs.set j n) vK b:=by
 have d:=Q8 y;have f:∀b,b<w.heap.size->u.ownBlock≠some b->w'.heap[b]? =w.heap[b]? :=λb l q=>eY x l q
 have z:=h.okw;have v:Below w0.heap.size w0 w':=ki h.below x λk e=>(h.nest.ok k (.inr ⟨u,d,e⟩)).1
 refine⟨λg a=>?_,h.e0.below v (Q3 _),λb l o=>⟨f b l λq=>o ((h.g1 b).2 (.inr (.inl (.inr ⟨u,d,q⟩)))),λi=>?_⟩⟩
 ·have fin:g<w.heap.size/\NoDigB w g->u.ownBlock≠some g->g<w'.heap.size/\NoDigB w' g:=λs q=>⟨Rh s.1 x.size,s.2.of (f g s.1 q)⟩
  rcases a with a|a|a
  ·refine fin (z g ((h.g1 g).2 (.inl a))) λe=>?_
   have s:=(h.nest.ok g (.inr ⟨u,d,e⟩)).1;have i:=(h.ok0 g a).1;omega
  ·rcases a with a|⟨t,D,a⟩
   ·exact fin (h.nest.ok g (.inl a)).2 λe=>h.nest.out u d g e a
   obtain⟨k,C,rfl⟩:=Sl D;have c:=Q2 C;rw[Ua]at c;split at c
   ·split at c
    ·injection c with c
     rw[<-c]at a;exact⟨p g a,B g a⟩
    cases c
   next hne=>
   exact fin (h.nest.ok g (.inr ⟨_,Q8 c,a⟩)).2 λe=>h.nest.apart k j _ u g (λA=>hne A.symm) c y a e
  exact fin (h.key g a).2 λe=>h.kn g a (.inr ⟨u,d,e⟩)
 rcases i with i|i|i
 ·exact o ((h.g1 b).2 (.inl i))
 ·rcases Em y i with m|m
  ·exact o ((h.g1 b).2 (.inr (.inl m)))
  rcases r with r|r
  ·exact o ((h.g1 b).2 (.inr (.inl (.inr ⟨u,d,r▸m⟩))))
  rw[r]at m;injection m with m;omega
 exact o ((h.g1 b).2 (.inr (.inr i)))
def Side.app2(h:Side w0 G0 w G1 vO vs L vK xs K){j x g c:Nat}{u a:Value}{l:List Nat}{F d:World}(H:vs[j]? =some u)(T:L[j]? =some l)(Q:vO=.slice (some ⟨g,0,none⟩) L.length c)(N:F.ownsRow w0.heap.size 3 1 a (l.length+1) (p7 (l++[x])))(G:w.grownBy F u.ownBlock)(n:a.ownBlock=u.ownBlock\/a.ownBlock=some w.heap.size)(S:∀g,a.ownBlock=some g->NoDigB F g)(M:bR a=true)(t:Below F.heap.size F d):
  Side w0 G0 (d.setCell ⟨g,j,none⟩ a) (rm G0 vO (vs.set j a) vK) vO (vs.set j a) (L.set j (l++[x])) vK xs K/\∀b,b<d.heap.size->¬rm G0 vO (vs.set j a) vK b->(d.setCell ⟨g,j,none⟩ a).heap[b]? =d.heap[b]? /\¬rm G0 vO (vs.set j a) vK b:=by
 have r:=Q8 H;have q:w.grownBy d u.ownBlock:=G.trans (sJ t);have O:=jl N (w':=d) λb y=>t.block b (N.lt b y).2
 have J:∀g,a.ownBlock=some g->NoDigB d g:=λg G=>(S g G).of (t.block g (N.lt g G).2)
 have R:=h.nest.app H T Q O q n J M;have D:∀b,b≠g->(d.setCell ⟨g,j,none⟩ a).heap[b]? =d.heap[b]? :=λb y=>by
  simp only[World.setCell];rw[SX,if_neg (λe=>y e.symm)]
 have E:vO.ownBlock=some g:=by rw[Q];rfl
 have A:NB vO vs g:=.inl E;have i:∀b,b<w.heap.size->¬NB vO vs b->(d.setCell ⟨g,j,none⟩ a).heap[b]? =w.heap[b]? :=λb m z=>(D b λe=>z (e▸A)).trans (eY q m λe=>z (.inr ⟨u,r,e⟩))
 have B:∀b,vK.ownBlock=some b->(d.setCell ⟨g,j,none⟩ a).heap[b]? =w.heap[b]? :=λb y=>i b (h.key b y).2.1 (h.kn b y)
 have P:(d.setCell ⟨g,j,none⟩ a).heap.size=d.heap.size:=by simp[World.setCell]
 have I:Below w0.heap.size w0 (d.setCell ⟨g,j,none⟩ a):=(ki h.below q λk e=>(h.nest.ok k (.inr ⟨u,r,e⟩)).1).setCell (p:=⟨g,j,none⟩) (h.nest.ok g A).1 _;have C:∀b,b<w.heap.size->¬G1 b->¬rm G0 vO (vs.set j a) vK b:=λb m o s=>by
  rcases s with s|s|s
  ·exact o ((h.g1 b).2 (.inl s))
  ·rcases Em H s with f|f
   ·exact o ((h.g1 b).2 (.inr (.inl f)))
   rcases n with n|n
   ·exact o ((h.g1 b).2 (.inr (.inl (.inr ⟨u,r,n▸f⟩))))
   rw[n]at f;injection f with f;omega
  exact o ((h.g1 b).2 (.inr (.inr s)))
 refine⟨⟨R,h.keys.turn (by rw[P];exact q.size) B λb m o=>⟨i b m λz=>o ((h.g1 b).2 (.inr (.inl z))),C b m o⟩,λb v z=>?_,λb=>T1,I,h.e0,h.ok0⟩,λb _ o=>⟨D b λe=>o (.inr (.inl (.inl (e▸E)))),o⟩⟩;rcases Em H z with f|f
 ·exact h.kn b v f
 rcases n with n|n
 ·exact h.kn b v (.inr ⟨u,r,n▸f⟩)
 rw[n]at f;injection f with f
 have:=(h.key b v).2.1;omega
def uh{w:World}{base b i:Nat}(h:w.heap[b]? =some (.cells #[.int .i64 (i:Nat)] 3 (0,0)))(c:base<=b):EIs w base (.slice (some ⟨b,0,none⟩) 1 1) [i]:=by
 refine⟨⟨Z,.inr ⟨b,1,_,Z,c,h,Q3 _,I,Z,Z⟩⟩,λg a=>?_⟩;injection a with a
 subst a;exact cU h Z
end
