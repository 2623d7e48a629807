import Derived.Test.YtfoejfohbkmmeaaGreatDoorB21
import Derived.Test.YtfoejfohbkmmeaaGreatDoorB22
import Derived.Test.YtfoejfohbkmmeaaGreatDoorB00
import Derived.Test.YtfoejfohbkmmeaaGreatDoorB12
namespace Go.Proofs.YtfoejfohbkmmeaaGreatDoor
open Go.RowKit
open Lib renaming hid→J
def zH(s:Sch)(k:List V):List Tp->Nat
 |[]=>0
 |t::ts=>if bg (aJ s t.vals) k=0 then zH s k ts+1 else zH s k ts
def zI(s:Sch)(k:List V):List Tp->Rat
 |[]=>0
 |t::ts=>if bg (aJ s t.vals) k=0 then t.prob+zI s k ts else zI s k ts
theorem kP(s:Sch)(k:List V):∀ts i,(b8 s k ts i).length=zH s k ts
 |[],_=>rfl
 |t::ts,i=>by
  have:=kP s k ts (i+1);simp only[b8,zH];split
  ·rw[Oi,this]
  exact this
theorem tV(s:Sch)(k:List V):∀a b i,b8 s k (a++b) i=b8 s k a i++b8 s k b (i+a.length)
 |[],b,i=>by simp[b8]
 |t::a,b,i=>by
  have:=tV s k a b (i+1);simp only[PD,b8,this,Oi,show i+1+a.length=i+(a.length+1) by omega];split<;>rfl
theorem Cc(a ts:List Tp)(t:Tp):iw (a++t::ts) a.length=t.prob:=by
 unfold iw;rw[ON (Oh _),Pb];rfl
theorem pR(s:Sch)(k:List V):∀(ts a:List Tp) (q:Rat),(b8 s k ts a.length).foldl (fun q i=>q+iw (a++ts) i) q=q+zI s k ts
 |[],a,q=>by simp[b8,zI];grind
 |t::ts,a,q=>by
  have b:=fun q=>pR s k ts (a++[t]) q
  simp only[Oj,PO,O0,RH]at b;simp only[b8,zI];split
  ·rw[Qk,b,Cc,Rat.add_assoc]
  exact b q
theorem tW(s:Sch)(k:List V)(ts:List Tp):eJ ts (b8 s k ts 0)=zI s k ts:=by
 have:=pR s k ts [] 0;simp only[Ou,Py]at this;unfold eJ;rw[this];grind
theorem wg{s:Sch}{k:List V}:∀{ts:List Tp},(∀t∈ts,bg (aJ s t.vals) k≠0)->zH s k ts=0/\∀i,b8 s k ts i=[]
 |[],_=>⟨Z,fun _=>rfl⟩
 |t::ts,h=>by
  have b:=wg (s:=s) (k:=k) (ts:=ts) fun x c=>h x (OX _ c)
  have a:=h t (OR ..);exact⟨by rw[zH,if_neg a,b.1],fun i=>by rw[b8,if_neg a,b.2]⟩
theorem oH{α:Type}(g:α->α)(x:α)(b:List α):∀a:List α,(a++x::b).modify a.length g=a++g x::b
 |[]=>rfl
 |y::a=>by
  have:=oH g x b a;simp[Sv,this]
theorem gV{α:Type}(x:α)(b:List α):∀a:List α,(a++b).insertIdx a.length x=a++x::b
 |[]=>by simp
 |y::a=>by
  have:=gV x b a;simp[this]
theorem ET{α:Type}(p:α->Bool)(l:List α):∃a b,l=a++b/\l.takeWhile p=a/\(∀x∈a,p x=true)/\∀y c,b=y::c->p y=false:=by
 induction l with
 |nil=>exact⟨[],[],Z,Z,fun x h=>(by cases h),fun y c h=>(by cases h)⟩
 |cons x l ih=>
  by_cases h:p x=true
  ·obtain⟨a,b,f,k,g,i⟩:=ih;refine⟨x::a,b,by rw[f];rfl,by rw[PH,if_pos h,k],fun y d=>?_,i⟩;rcases OC.1 d with rfl|d
   ·exact h
   exact g y d
  refine⟨[],x::l,Z,by rw[PH,if_neg h],fun x h=>(by cases h),fun y c e=>?_⟩;injection e with j _
  rw[<-j];simpa using h
def Nd(l:List (List V)):Prop:=l.Pairwise fun a b=>bg a b<0
structure GInvP (s:Sch) (pre:List Tp) (st:List (List V)×List (List Nat)):Prop where
 bl:st.2=st.1.map fun k=>b8 s k pre 0
 cov:∀t∈pre,aJ s t.vals∈st.1
 src:∀k∈st.1,∃t∈pre,aJ s t.vals=k
 srt:Nd st.1
theorem nl(s:Sch)(k:List V)(a:List Tp)(t:Tp):b8 s k (a++[t]) 0=b8 s k a 0++if bg (aJ s t.vals) k=0 then [a.length]else []:=by
 rw[tV,Pk];simp only[b8]
theorem Kp{a b:List V}(h:¬bg a b<0)(c:bg a b≠0):bg b a<0:=by
 have:=pP a b;omega
theorem nO{a b:List V}(h:bg a b<0):bg a b≠0/\bg b a≠0:=by
 have:=pP a b;omega
theorem pS{s:Sch}{a:List Tp}{t:Tp}{l:List (List V)}(h:∀x∈l,bg (aJ s t.vals) x≠0):l.map (fun k=>b8 s k (a++[t]) 0)=l.map fun k=>b8 s k a 0:=by
 refine QK fun x b=>?_
 rw[nl,if_neg (h x b),O5]
theorem zJ{s:Sch}{c:List Tp}{t:Tp}{A B:List (List V)}{k:List V}(d:aJ s t.vals=k)(g:∀t∈c,aJ s t.vals∈A++B)(f:∀k∈A++B,∃t∈c,aJ s t.vals=k)(m:Nd (A++B))(q:∀x∈A,bg x k<0)(n:∀x∈B,bg k x<0):
  GInvP s (c++[t]) (A++k::B,((A++B).map fun k=>b8 s k c 0).insertIdx A.length [c.length]):=by
 have i:=Rn.1 m;have v:∀e∈c,bg (aJ s e.vals) k≠0:=fun e p=>by
  rcases OZ.1 (g e p)with h|h
  ·exact(nO (q _ h)).1
  exact(nO (n _ h)).2
 refine⟨?_,fun e p=>?_,fun x j=>?_,?_⟩
 ·have l:=gV [c.length] (B.map fun k=>b8 s k c 0) (A.map fun k=>b8 s k c 0);rw[Ol]at l;simp only;rw[PE,l,PE,Pt,pS (fun x j=>by rw[d];exact(nO (q x j)).2),pS (fun x j=>by rw[d];exact(nO (n x j)).1),nl,d,if_pos (wf k),(wg v).2];rfl
 ·simp only[OZ,OC];rcases OZ.1 p with h|h
  ·rcases OZ.1 (g e h)with h|h
   ·exact .inl h
   exact .inr (.inr h)
  rw[OG.1 h,d];exact .inr (.inl Z)
 ·simp only[OZ,OC]at j;rcases j with h|rfl|h
  ·obtain⟨e,l,r⟩:=f x (QV _ h);exact⟨e,QV _ l,r⟩
  ·exact⟨t,by simp,d⟩
  obtain⟨e,l,r⟩:=f x (Sq _ h);exact⟨e,QV _ l,r⟩
 refine Rn.2 ⟨i.1,Ra.2 ⟨n,i.2.1⟩,fun a u b o=>?_⟩;rcases OC.1 o with rfl|o
 ·exact q a u
 exact i.2.2 a u b o
theorem Hy{s:Sch}{a:List Tp}{t:Tp}{A B:List (List V)}{k:List V}(b:aJ s t.vals=k)(f:∀t∈a,aJ s t.vals∈A++k::B)(e:∀x∈A++k::B,∃t∈a,aJ s t.vals=x)(c:Nd (A++k::B)):
  GInvP s (a++[t]) (A++k::B,((A++k::B).map fun k=>b8 s k a 0).modify A.length (· ++[a.length])):=by
 have g:=Rn.1 c;have l:=(Ra.1 g.2.1).1;have n:∀x∈A,bg x k<0:=fun x d=>g.2.2 x d k (OR ..)
 refine⟨?_,fun j m=>?_,fun x d=>?_,c⟩
 ·have i:=oH (· ++[a.length]) (b8 s k a 0) (B.map fun k=>b8 s k a 0) (A.map fun k=>b8 s k a 0);rw[Ol]at i;simp only;rw[PE,Pt,i,PE,Pt,pS (fun x d=>by rw[b];exact(nO (n x d)).2),pS (fun x d=>by rw[b];exact(nO (l x d)).1),nl,b,if_pos (wf k)]
 ·rcases OZ.1 m with h|h
  ·exact f j h
  rw[OG.1 h,b];simp
 obtain⟨j,i,o⟩:=e x d;exact⟨j,QV _ i,o⟩
theorem EU{s:Sch}{g:List Tp}{t:Tp}{u:List (List V)×List (List Nat)}(h:GInvP s g u)(C:aJ s t.vals≠ []):GInvP s (g++[t]) (iI s u g.length t):=by
 obtain⟨f,w⟩:=u;obtain⟨m,d,b,a⟩:=h;simp only at m d b a;subst m;unfold iI;rw[if_neg C];simp only;obtain⟨k,e⟩:∃k,aJ s t.vals=k:=⟨_,rfl⟩;rw[e];obtain⟨A,B,r,o,D,E⟩:=ET (fun x=>decide (bg x k<0)) f;have v:bF f k=A.length:=by unfold bF;rw[o]
 rw[v];clear v o;subst r;have j:∀x∈A,bg x k<0:=fun x i=>of_decide_eq_true (D x i)
 have q:=Rn.1 a;have l:(A++B)[A.length]? =B.head?:=by
  rw[ON (Oh _),Pb,List.head?_eq_getElem?]
 rw[l];cases B with
 |nil=>
  rw[if_neg (c:=(([]:List (List V)).head?.any fun x=>bg x k==0)=true) Pd,gV];exact zJ e d b a j (fun x i=>by cases i)
 |cons y B=>
  have z:¬bg y k<0:=of_decide_eq_false (E y B Z);by_cases p:bg y k=0
  ·rw[if_pos (c:=((y::B).head?.any fun x=>bg x k==0)=true) (show(bg y k==0)=true by rw[p];rfl)];obtain rfl:=(nN y k).1 p;exact Hy e d b a
  rw[if_neg (c:=((y::B).head?.any fun x=>bg x k==0)=true) (show¬(bg y k==0)=true by simpa using p),gV];have n:=Kp z p;refine zJ e d b a j fun x i=>?_
  rcases OC.1 i with rfl|i
  ·exact n
  exact kO n ((Ra.1 q.2.1).1 x i)
theorem jx{s:Sch}:∀(ts a:List Tp) (b:List (List V)×List (List Nat)),GInvP s a b->(∀t∈ts,aJ s t.vals≠ [])->GInvP s (a++ts) (dP s b a.length ts)
 |[],a,b,h,_=>by rw[O5];exact h
 |t::ts,a,b,h,hk=>by
  have c:=jx ts (a++[t]) _ (EU h (hk t (OR ..))) fun x d=>hk x (OX _ d)
  rw[O0,Oj]at c;exact c
theorem xW{r:Rel}(c:r.sch.cert=false)(b:∀t∈r.tups,aJ r.sch t.vals≠ []):∃a:List (List V),bf r=a.map (fun k=>b8 r.sch k r.tups 0)/\(∀t∈r.tups,aJ r.sch t.vals∈a)/\∀k∈a,∃t∈r.tups,aJ r.sch t.vals=k:=by
 have h:=jx (s:=r.sch) r.tups [] ([],[]) ⟨Z,fun t d=>(by cases d),fun k b=>(by cases b),List.Pairwise.nil⟩ b;rw[Py]at h;refine⟨_,?_,h.cov,h.src⟩;unfold bf;rw[if_neg (by rw[c];simp)];exact h.bl
theorem mO{s:Sch}:∀(ts:List Tp) (a:List (List V)×List (List Nat)) (i:Nat),(∀t∈ts,aJ s t.vals=[])->(dP s a i ts).2=a.2++(List.range' i ts.length).map ([·])
 |[],a,i,_=>by simp[dP]
 |t::ts,a,i,h=>by
  have c:=mO ts (iI s a i t) (i+1) fun x d=>h x (OX _ d)
  have b:(iI s a i t).2=a.2++[[i]]:=by unfold iI;rw[if_pos (h t (OR ..))]
  rw[dP,c,b,Oi,List.range'_succ,Pt,O0];rfl
theorem oh(s:Sch)(t:Tp):∀(ts:List Tp) (a:List (List V)×List (List Nat)) (i:Nat),dP s a i (ts++[t])=iI s (dP s a i ts) (i+ts.length) t
 |[],a,i=>rfl
 |x::ts,a,i=>by
  rw[PD,dP,oh s t ts,dP,Oi,show i+1+ts.length=i+(ts.length+1) by omega]
def oI(l:List Nat):List Value:=l.map fun i=>.int .i64 (i:Nat)
def NB(v:Value)(vs:List Value)(b:Nat):Prop:=v.ownBlock=some b\/∃u∈vs,u.ownBlock=some b
def EIs(w:World)(base:Nat)(u:Value)(l:List Nat):Prop:=w.ownsRow base 3 1 u l.length (oI l)/\∀g,u.ownBlock=some g->NoDigB w g
structure Nest (w:World) (base:Nat) (v:Value) (vs:List Value) (L:List (List Nat)):Prop where
 row:w.ownsRow base 23 1 v L.length vs
 rd:∀g,v.ownBlock=some g->NoDigB w g
 el:∀(j:Nat) (u:Value) (l:List Nat),vs[j]? =some u->L[j]? =some l->EIs w base u l
 apart:∀(j k:Nat) (u t:Value) (b:Nat),j≠k->vs[j]? =some u->vs[k]? =some t->u.ownBlock=some b->t.ownBlock=some b->False
 out:∀u∈vs,∀b,u.ownBlock=some b->v.ownBlock≠some b
section
variable {w w':World} {base:Nat} {v:Value} {vs:List Value} {L:List (List Nat)}
theorem Nest.len(h:Nest w base v vs L):vs.length=L.length:=by have:=h.row.1;omega
theorem Nest.nil(w:World)(base:Nat):Nest w base (.slice none 0 0) [] []:=⟨World.ownsRow_nil _ _ _ _,fun g a=>(by cases a),fun j u l h=>(by simp at h),fun j k u t b _ h=>(by simp at h),fun u h=>(by cases h)⟩
theorem iB{e:TypeId}{sz n:Nat}{u:Value}{xs:List Value}(h:w.ownsRow base e sz u n xs)(f:∀b,u.ownBlock=some b->w'.heap[b]? =w.heap[b]?):w'.ownsRow base e sz u n xs:=by
 refine⟨h.1,?_⟩;rcases h.2 with j|⟨g,a,cur,rfl,d,c,i⟩
 ·exact .inl j
 exact .inr ⟨g,a,cur,Z,d,by rw[f g Z];exact c,i⟩
theorem EIs.kept{u:Value}{l:List Nat}(h:EIs w base u l)(a:∀b,u.ownBlock=some b->w'.heap[b]? =w.heap[b]?):EIs w' base u l:=⟨iB h.1 a,fun g c=>(h.2 g c).of (a g c)⟩
theorem Nest.kept(h:Nest w base v vs L)(c:∀b,NB v vs b->w'.heap[b]? =w.heap[b]?):Nest w' base v vs L:=
 ⟨iB h.row fun b a=>c b (.inl a),fun g d=>(h.rd g d).of (c g (.inl d)),fun j u l e f=>(h.el j u l e f).kept fun b a=>c b (.inr ⟨u,Om e,a⟩),h.apart,h.out⟩
theorem Nest.ok(h:Nest w base v vs L):∀g,NB v vs g->base<=g/\g<w.heap.size/\NoDigB w g:=by
 rintro g (a|⟨u,c,a⟩)
 ·have:=h.row.lt g a;exact⟨this.1,this.2,h.rd g a⟩
 obtain⟨j,d,rfl⟩:=Pv c;have f:=h.len;obtain⟨b,e⟩:=h.el j _ (L[j]'(by omega)) (Og d) (Og (by omega));have:=b.lt g a;exact⟨this.1,this.2,e g a⟩
theorem Nest.later(h:Nest w base v vs L)(c:Below w.heap.size w w'):Nest w' base v vs L:=h.kept fun b a=>c.block b (h.ok b a).2.1
theorem pT:∀{es:List Tree},(∀e∈es,e.cells=[e])->flat es=es
 |[],_=>rfl
 |e::es,h=>by rw[eN,h e (OR ..),pT fun x a=>h x (OX _ a)];rfl
theorem DU(w:World)(G:Nat->Prop):∀l:List Nat,PT w G (oI l) (l.map fV)
 |[]=>.nil
 |_::l=>.sc _ (DU w G l)
theorem Hz{G:Nat->Prop}:∀{us:List Value} {ts:List Tree},us.length=ts.length->(∀(j:Nat) u t,us[j]? =some u->ts[j]? =some t->PT w G [u] [t])->PT w G us ts
 |[],[],_,_=>.nil
 |[],_::_,h,_=>by simp at h
 |_::_,[],h,_=>by simp at h
 |u::us,t::ts,hl,h=>(h 0 u t Z Z).cons (Hz (by simpa using hl) fun j x y a b=>h (j+1) x y (by simpa using a) (by simpa using b))
theorem Mf{G:Nat->Prop}{u:Value}{l:List Nat}(h:EIs w base u l)(f:∀g,u.ownBlock=some g->¬G g):PT w G [u] [jo l]:=by
 rcases h.1.2 with⟨rfl,a⟩|⟨g,b,cur,rfl,m,d,a,k,o,n⟩
 ·obtain rfl:l=[]:=OB a;exact bQ _ _
 refine .sl g 0 b _ (oI l) (l.map fV) (O3.1 d).1 (f g Z) (fun j u i=>?_) (by simp) (by simpa using a) (by unfold maxLen at k;omega) ?_ .nil
 ·have:=World.ownsRow.cells h.1 (g:=g) Z j u i;rw[nY]at this;rw[Pk];exact this
 rw[pT (fun e c=>by obtain⟨x,_,rfl⟩:=PX.1 c;rfl)];exact DU w G l
theorem Nest.els(h:Nest w base v vs L){G:Nat->Prop}(d:∀g,NB v vs g->¬G g):PT w G vs (L.map jo):=
 Hz (by rw[Ol,h.len]) fun j u t b a=>by
  rw[O2]at a;obtain⟨l,c,rfl⟩:=Ps.1 a;exact Mf (h.el j u l b c) fun g e=>d g (.inr ⟨u,Om b,e⟩)
theorem HH{G:Nat->Prop}{e:TypeId}{v:Value}{xs:List Value}{es:List Tree}(d:w.ownsRow base e 1 v es.length xs)(h:∀g,v.ownBlock=some g->¬G g)(i:PT w G xs (flat es)):PT w G [v] [.sl es]:=by
 rcases d.2 with⟨rfl,b⟩|⟨g,c,cur,rfl,l,f,b,a,n,m⟩
 ·obtain rfl:es=[]:=OB b;exact bQ _ _
 refine .sl g 0 c _ xs es (O3.1 f).1 (h g Z) (fun j u k=>?_) Z b (by unfold maxLen at a;omega) i .nil;have:=World.ownsRow.cells d (g:=g) Z j u k;rw[nY]at this;rw[Pk];exact this
theorem H0(L:List (List Nat)):flat (L.map jo)=L.map jo:=pT fun e a=>by obtain⟨x,_,rfl⟩:=PX.1 a;rfl
theorem H1(K:List (List V)):flat (K.map jf)=K.map jf:=pT fun e a=>by obtain⟨x,_,rfl⟩:=PX.1 a;rfl
theorem Nest.pt(h:Nest w base v vs L){G:Nat->Prop}(a:∀g,NB v vs g->¬G g):PT w G [v] [.sl (L.map jo)]:=
 HH (base:=base) (e:=23) (xs:=vs) (by rw[Ol];exact h.row) (fun g b=>a g (.inl b)) (by rw[H0];exact h.els a)
theorem nP{α:Type}(l:List α)(x:α){i:Nat}(d:i<=l.length)(j:Nat):(l.take i++[x]++l.drop i)[j]? =if j<i then l[j]? else if j=i then some x else l[j-1]? :=by
 have c:(l.take i).length=i:=by rw[Ox];omega
 rw[O0];by_cases a:j<i
 ·rw[if_pos a,OJ (by omega),Ph,if_pos a]
 rw[if_neg a,ON (by omega),c];by_cases b:j=i
 ·subst b;rw[if_pos Z,Pb];rfl
 rw[if_neg b,show j-i=(j-i-1)+1 by omega,RH,Ru,PB];congr 1;omega
theorem eC{r:Option Nat}(c:w.grownBy w' r){b:Nat}(d:b<w.heap.size)(a:r≠some b):w'.heap[b]? =w.heap[b]? :=c.block b d fun e=>a e.symm
theorem Nest.add(h:Nest w base v vs L){i x:Nat}{u v':Value}(F:EIs w base u [x])(r:∀g,u.ownBlock=some g->¬NB v vs g)(N:w'.ownsRow base 23 1 v' (L.length+1) (vs.take i++[u]++vs.drop i))(I:w.grownBy w' v.ownBlock)(z:v'.ownBlock=v.ownBlock\/v'.ownBlock=some w.heap.size)(O:∀g,v'.ownBlock=some g->NoDigB w' g)(M:i<=L.length):
  Nest w' base v' (vs.take i++[u]++vs.drop i) (L.take i++[[x]]++L.drop i):=by
 have Q:=h.len;have E:∀b,u.ownBlock=some b->w'.heap[b]? =w.heap[b]? :=fun b m=>eC I (F.1.lt b m).2 fun e=>r b m (.inl e)
 have y:∀t∈vs,∀b,t.ownBlock=some b->w'.heap[b]? =w.heap[b]? :=fun t a b m=>eC I (h.ok b (.inr ⟨t,a,m⟩)).2.1 fun e=>h.out t a b m e
 have p:∀t∈vs.take i++[u]++vs.drop i,t∈vs\/t=u:=fun t a=>by
  simp only[OZ,OG]at a;rcases a with(h|h)|h
  ·exact .inl (OV h)
  ·exact .inr h
  exact .inl (Pq h)
 have G:∀t∈vs.take i++[u]++vs.drop i,∀b,t.ownBlock=some b->b<w.heap.size:=fun t a b m=>by
  rcases p t a with q|rfl
  ·exact(h.ok b (.inr ⟨t,q,m⟩)).2.1
  exact(F.1.lt b m).2
 refine⟨by rw[show(L.take i++[[x]]++L.drop i).length=L.length+1 by simp;omega];exact N,O,fun j t l a c=>?_,fun j k s t b D n a d f=>?_,fun t a b m e=>?_⟩
 ·rw[nP _ _ (by omega)]at a;rw[nP _ _ M]at c;by_cases q:j<i
  ·rw[if_pos q]at a c;exact(h.el j t l a c).kept (y t (Om a))
  rw[if_neg q]at a c;by_cases B:j=i
  ·rw[if_pos B]at a c;cases a;cases c;exact F.kept E
  rw[if_neg B]at a c;exact(h.el _ t l a c).kept (y t (Om a))
 ·have key:∀(K:Nat) (C:Value),vs[K]? =some C->C.ownBlock=some b->u.ownBlock=some b->False:=fun K C q B P=>r b P (.inr ⟨C,Om q,B⟩)
  rw[nP _ _ (by omega)]at n a;by_cases H:j<i
  ·rw[if_pos H]at n;by_cases o:k<i
   ·rw[if_pos o]at a;exact h.apart j k s t b D n a d f
   rw[if_neg o]at a;by_cases A:k=i
   ·rw[if_pos A]at a;cases a;exact key _ _ n d f
   rw[if_neg A]at a;exact h.apart j (k-1) s t b (by omega) n a d f
  rw[if_neg H]at n;by_cases J:j=i
  ·rw[if_pos J]at n;cases n;by_cases o:k<i
   ·rw[if_pos o]at a;exact key _ _ a f d
   rw[if_neg o,if_neg (by omega)]at a;exact key _ _ a f d
  rw[if_neg J]at n;by_cases o:k<i
  ·rw[if_pos o]at a;exact h.apart (j-1) k s t b (by omega) n a d f
  rw[if_neg o]at a;by_cases A:k=i
  ·rw[if_pos A]at a;cases a;exact key _ _ n d f
  rw[if_neg A]at a;exact h.apart (j-1) (k-1) s t b (by omega) n a d f
 rcases z with z|z
 ·rw[z]at e;rcases p t a with q|rfl
  ·exact h.out t q b m e
  exact r b m (.inl e)
 rw[z]at e;injection e with e
 have:=G t a b m;omega
theorem Nest.app(h:Nest w base v vs L){j x g c:Nat}{u i:Value}{l:List Nat}(P:vs[j]? =some u)(T:L[j]? =some l)(W:v=.slice (some ⟨g,0,none⟩) L.length c)(U:w'.ownsRow base 3 1 i (l.length+1) (oI (l++[x])))(R:w.grownBy w' u.ownBlock)(S:i.ownBlock=u.ownBlock\/i.ownBlock=some w.heap.size)(X:∀g,i.ownBlock=some g->NoDigB w' g)(O:bG i=true):
  Nest (w'.setCell ⟨g,j,none⟩ i) base v (vs.set j i) (L.set j (l++[x])):=by
 subst W;have M:=Om P;have G:u.ownBlock≠some g:=fun e=>h.out u M g e Z
 have J:=(h.row.lt g Z).2;have I:w'.heap[g]? =w.heap[g]? :=eC R J G;have o:=iB h.row (w':=w') fun b a=>by injection a with a;subst a;exact I
 have f:∀(k:Nat) (t:Value),(vs.set j i)[k]? =some t->(k=j/\t=i)\/(k≠j/\vs[k]? =some t):=fun k t d=>by
  rw[Re]at d;split at d
  ·next e=>
   subst e;split at d
   ·cases d;exact .inl ⟨Z,Z⟩
   cases d
  next e=>exact .inr ⟨fun V=>e V.symm,d⟩
 have A:i.ownBlock≠some g:=fun e=>by
  rcases S with C|C
  ·exact G (C▸e)
  rw[C]at e;injection e with e;omega
 have z:∀b,b≠g->(w'.setCell ⟨g,j,none⟩ i).heap[b]? =w'.heap[b]? :=fun b a=>by
  simp only[World.setCell];rw[P4,if_neg (fun e=>a e.symm)]
 have K:∀(k:Nat) (t:Value),k≠j->vs[k]? =some t->∀b,t.ownBlock=some b->(w'.setCell ⟨g,j,none⟩ i).heap[b]? =w.heap[b]? :=fun k t p d b a=>by
  have H:=Om d;rw[z b fun e=>h.out t H b a (by rw[e];rfl)];exact eC R (h.ok b (.inr ⟨t,H,a⟩)).2.1 fun e=>h.apart k j t u b p d P a e
 have r:∀(k:Nat) (t:Value),k≠j->vs[k]? =some t->∀b,t.ownBlock=some b->i.ownBlock≠some b:=fun k t p d b a e=>by
  rcases S with C|C
  ·exact h.apart k j t u b p d P a (C▸e)
  rw[C]at e;injection e with e
  have:=(h.ok b (.inr ⟨t,Om d,a⟩)).2.1;omega
 refine⟨by rw[O4];exact jp o i,fun g' y=>?_,fun k t Y d q=>?_,fun k m s t b E hs d B D=>?_,fun t d b a e=>?_⟩
 ·injection y with y
  subst y;exact wd o ((h.rd g Z).of I) O
 ·rcases f k t d with⟨rfl,rfl⟩|⟨p,n⟩
  ·have Q:=(Ok.1 T).1;rw[PA Q]at q;cases q;refine⟨?_,fun b a=>(X b a).of (z b fun e=>A (e▸a))⟩;rw[Oj,PO];exact iB U fun b a=>z b fun e=>A (e▸a)
  rw[Pp (fun e=>p e.symm)]at q;exact(h.el k t Y n q).kept (K k t p n)
 ·rcases f k s hs with⟨rfl,rfl⟩|⟨p,F⟩
  ·rcases f m t d with⟨rfl,rfl⟩|⟨H,n⟩
   ·exact E Z
   exact r m t H n b D B
  rcases f m t d with⟨rfl,rfl⟩|⟨H,n⟩
  ·exact r k s p F b B D
  exact h.apart k m s t b E F n B D
 injection e with e
 subst e;obtain⟨k,p,rfl⟩:=Pv d;rcases f k _ (Og p)with⟨_,N⟩|⟨_,N⟩
 ·rw[N]at a;exact A a
 exact h.out _ (Om N) g a Z
structure KeyR (w:World) (base:Nat) (v:Value) (xs:List Value) (K:List (List V)) (G:Nat->Prop):Prop where
 row:w.ownsRow base 61 1 v K.length xs
 rd:∀g,v.ownBlock=some g->NoDigB w g
 els:PT w G xs (K.map jf)
theorem KeyR.nil(w:World)(base:Nat)(G:Nat->Prop):KeyR w base (.slice none 0 0) [] [] G:=⟨World.ownsRow_nil _ _ _ _,fun g a=>(by cases a),.nil⟩
theorem KeyR.turn{xs:List Value}{K:List (List V)}{G G':Nat->Prop}(h:KeyR w base v xs K G)(e:w.heap.size<=w'.heap.size)(c:∀b,v.ownBlock=some b->w'.heap[b]? =w.heap[b]?)(d:∀b,b<w.heap.size->¬G b->w'.heap[b]? =w.heap[b]? /\¬G' b):KeyR w' base v xs K G':=
 ⟨iB h.row c,fun g a=>(h.rd g a).of (c g a),h.els.mono e d⟩
theorem KeyR.pt{xs:List Value}{K:List (List V)}{G G':Nat->Prop}(h:KeyR w base v xs K G)(a:∀b,¬G b->¬G' b)(c:∀g,v.ownBlock=some g->¬G' g):PT w G' [v] [.sl (K.map jf)]:=
 HH (base:=base) (e:=61) (xs:=xs) (by rw[Ol];exact h.row) c (by rw[H1];exact h.els.sub a)
end
structure Side (w0:World) (G0:Nat->Prop) (w1:World) (G1:Nat->Prop) (vO:Value) (vs:List Value) (L:List (List Nat)) (vK:Value) (xs:List Value) (K:List (List V)):Prop where
 nest:Nest w1 w0.heap.size vO vs L
 keys:KeyR w1 w0.heap.size vK xs K G1
 kn:∀b,vK.ownBlock=some b->¬NB vO vs b
 g1:∀b,G1 b↔(G0 b\/NB vO vs b\/vK.ownBlock=some b)
 below:Below w0.heap.size w0 w1
 e0:Env w0
 ok0:Js G0 w0
def pU(G0:Nat->Prop)(vO:Value)(vs:List Value)(vK:Value)(b:Nat):Prop:=G0 b\/NB vO vs b\/vK.ownBlock=some b
section
variable {w0 w1 w w':World} {G0 G1:Nat->Prop} {vO vK:Value} {vs xs:List Value} {L:List (List Nat)} {K:List (List V)}
theorem Side.env(h:Side w0 G0 w1 G1 vO vs L vK xs K):Env w1:=h.e0.below h.below (Oh _)
theorem Side.key(h:Side w0 G0 w1 G1 vO vs L vK xs K):∀b,vK.ownBlock=some b->w0.heap.size<=b/\b<w1.heap.size/\NoDigB w1 b:=fun b a=>⟨(h.keys.row.lt b a).1,(h.keys.row.lt b a).2,h.keys.rd b a⟩
theorem Side.okw(h:Side w0 G0 w1 G1 vO vs L vK xs K):Js G1 w1:=fun g a=>by
 rcases(h.g1 g).1 a with a|a|a
 ·have b:=h.ok0 g a;exact⟨Oz b.1 h.below.size,b.2.of (h.below.block g b.1)⟩
 ·exact(h.nest.ok g a).2
 exact(h.key g a).2
theorem Side.later(h:Side w0 G0 w1 G1 vO vs L vK xs K)(a:Below w1.heap.size w1 w):Side w0 G0 w G1 vO vs L vK xs K:=
 ⟨h.nest.later a,h.keys.turn a.size (fun b d=>a.block b (h.key b d).2.1) (fun b c e=>⟨a.block b c,e⟩),h.kn,h.g1,aF h.below a h.below.size,h.e0,h.ok0⟩
theorem Side.ones(h:Side w0 G0 w1 G1 vO vs L vK xs K):(∀x∈vs,x.oneCell'=true)/\∀x∈xs,x.oneCell'=true:=by
 refine⟨fun x a=>?_,fun x a=>?_⟩
 ·obtain⟨j,b,rfl⟩:=Pv a;have f:=h.nest.len;obtain⟨d,_⟩:=h.nest.el j _ (L[j]'(by omega)) (Og b) (Og (by omega));obtain⟨A,c,e⟩:=bX d;rw[e];rfl
 exact mn h.keys.els (by
  rw[List.all_map];exact OD.2 fun _ _=>rfl) x a
theorem jy{w0 w w':World}{r:Option Nat}(a:Below w0.heap.size w0 w)(c:w.grownBy w' r)(b:∀k,r=some k->w0.heap.size<=k):Below w0.heap.size w0 w':=a.grown c a.size b
theorem Side.insL(h:Side w0 G0 w1 G1 vO vs L vK xs K)(a:Below w1.heap.size w1 w){i x:Nat}{u v':Value}(H:EIs w w0.heap.size u [x])(p:∀g,u.ownBlock=some g->w1.heap.size<=g)(G:w'.ownsRow w0.heap.size 23 1 v' (L.length+1) (vs.take i++[u]++vs.drop i))(r:w.grownBy w' vO.ownBlock)(s:v'.ownBlock=vO.ownBlock\/v'.ownBlock=some w.heap.size)(I:∀g,v'.ownBlock=some g->NoDigB w' g)(E:i<=L.length):
  Side w0 G0 w' (pU G0 v' (vs.take i++[u]++vs.drop i) vK) v' (vs.take i++[u]++vs.drop i) (L.take i++[[x]]++L.drop i) vK xs K/\∀b,b<w.heap.size->¬(G1 b\/u.ownBlock=some b)->w'.heap[b]? =w.heap[b]? /\¬pU G0 v' (vs.take i++[u]++vs.drop i) vK b:=by
 have D:=h.okw;have C:=h.nest.later a;have F:=C.add H (fun g r l=>by have:=(h.nest.ok g l).2.1;have:=p g r;omega) G r s I E;have f:∀b,b<w.heap.size->¬NB vO vs b->w'.heap[b]? =w.heap[b]? :=fun b c l=>eC r c fun e=>l (.inl e)
 have y:∀b,NB v' (vs.take i++[u]++vs.drop i) b->NB vO vs b\/u.ownBlock=some b\/b=w.heap.size:=fun b a=>by
  rcases a with a|⟨t,q,a⟩
  ·rcases s with s|s
   ·exact .inl (.inl (s▸a))
   rw[s]at a;injection a with a;exact .inr (.inr a.symm)
  simp only[OZ,OG]at q;rcases q with(q|rfl)|q
  ·exact .inl (.inr ⟨t,OV q,a⟩)
  ·exact .inr (.inl a)
  exact .inl (.inr ⟨t,Pq q,a⟩)
 have n:∀b,b<w.heap.size->¬(G1 b\/u.ownBlock=some b)->w'.heap[b]? =w.heap[b]? /\¬pU G0 v' (vs.take i++[u]++vs.drop i) vK b:=fun b c o=>by
  refine⟨f b c fun l=>o (.inl ((h.g1 b).2 (.inr (.inl l)))),fun d=>?_⟩;rcases d with d|d|d
  ·exact o (.inl ((h.g1 b).2 (.inl d)))
  ·rcases y b d with m|m|m
   ·exact o (.inl ((h.g1 b).2 (.inr (.inl m))))
   ·exact o (.inr m)
   omega
  exact o (.inl ((h.g1 b).2 (.inr (.inr d))))
 have A:∀b,b<w1.heap.size->¬NB vO vs b->w'.heap[b]? =w1.heap[b]? :=fun b c l=>(f b (Oz c a.size) l).trans (a.block b c)
 have v:∀b,vK.ownBlock=some b->w'.heap[b]? =w1.heap[b]? :=fun b j=>A b (h.key b j).2.1 (h.kn b j)
 have z:Below w0.heap.size w0 w':=jy (aF h.below a h.below.size) r fun k e=>(h.nest.ok k (.inl e)).1
 refine⟨⟨F,h.keys.turn (Oq a.size r.size) v fun b c o=>?_,fun b j l=>?_,fun b=>Rh,z,h.e0,h.ok0⟩,n⟩
 ·have B:=n b (Oz c a.size) fun d=>by
   rcases d with d|d
   ·exact o d
   have:=p b d;omega
  exact⟨B.1.trans (a.block b c),B.2⟩
 have B:=(h.key b j).2.1;rcases y b l with m|m|m
 ·exact h.kn b j m
 ·have:=p b m;omega
 have:=a.size;omega
theorem Side.insK(h:Side w0 G0 w G1 vO vs L vK xs K){i:Nat}{k:List V}{u v':Value}(t:PT w G1 [u] [jf k])(r:w'.ownsRow w0.heap.size 61 1 v' (K.length+1) (xs.take i++[u]++xs.drop i))(o:w.grownBy w' vK.ownBlock)(c:v'.ownBlock=vK.ownBlock\/v'.ownBlock=some w.heap.size)(v:∀g,v'.ownBlock=some g->NoDigB w' g)(y:i<=K.length):
  Side w0 G0 w' (pU G0 vO vs v') vO vs L v' (xs.take i++[u]++xs.drop i) (K.take i++[k]++K.drop i)/\∀b,b<w.heap.size->¬G1 b->w'.heap[b]? =w.heap[b]? /\¬pU G0 vO vs v' b:=by
 have a:∀b,b<w.heap.size->vK.ownBlock≠some b->w'.heap[b]? =w.heap[b]? :=fun b l m=>eC o l m
 have j:∀b,b<w.heap.size->¬G1 b->w'.heap[b]? =w.heap[b]? /\¬pU G0 vO vs v' b:=fun b l n=>by
  refine⟨a b l fun m=>n ((h.g1 b).2 (.inr (.inr m))),fun d=>?_⟩;rcases d with d|d|d
  ·exact n ((h.g1 b).2 (.inl d))
  ·exact n ((h.g1 b).2 (.inr (.inl d)))
  rcases c with c|c
  ·exact n ((h.g1 b).2 (.inr (.inr (c▸d))))
  rw[c]at d;injection d with d;omega
 have p:Below w0.heap.size w0 w':=jy h.below o fun k e=>(h.key k e).1
 have x:=h.nest.kept (w':=w') fun b q=>a b (h.nest.ok b q).2.1 fun e=>h.kn b e q
 refine⟨⟨x,⟨by rw[show(K.take i++[k]++K.drop i).length=K.length+1 by simp;omega];exact r,v,?_⟩,fun b f m=>?_,fun b=>Rh,p,h.e0,h.ok0⟩,j⟩
 ·have s:=((h.keys.els.take i).append t).append (h.keys.els.drop i);rw[PE,PE,Q4,QS];exact s.mono o.size j
 rcases c with c|c
 ·exact h.kn b (c▸f) m
 rw[c]at f;injection f with f
 have:=(h.nest.ok b m).2.1;omega
theorem Cd{j:Nat}{u c:Value}(f:vs[j]? =some u){b:Nat}(h:NB vO (vs.set j c) b):NB vO vs b\/c.ownBlock=some b:=by
 rcases h with h|⟨t,e,a⟩
 ·exact .inl (.inl h)
 rcases QW e with d|rfl
 ·exact .inl (.inr ⟨t,d,a⟩)
 exact .inr a
theorem Side.app1(h:Side w0 G0 w G1 vO vs L vK xs K){j:Nat}{u m:Value}(z:vs[j]? =some u)(y:w.grownBy w' u.ownBlock)(q:m.ownBlock=u.ownBlock\/m.ownBlock=some w.heap.size)(D:∀g,m.ownBlock=some g->NoDigB w' g)(p:∀g,m.ownBlock=some g->g<w'.heap.size):
  Js (pU G0 vO (vs.set j m) vK) w'/\Env w'/\∀b,b<w.heap.size->¬G1 b->w'.heap[b]? =w.heap[b]? /\¬pU G0 vO (vs.set j m) vK b:=by
 have d:=Om z;have f:∀b,b<w.heap.size->u.ownBlock≠some b->w'.heap[b]? =w.heap[b]? :=fun b l o=>eC y l o
 have v:=h.okw;have x:Below w0.heap.size w0 w':=jy h.below y fun k e=>(h.nest.ok k (.inr ⟨u,d,e⟩)).1
 refine⟨fun g a=>?_,h.e0.below x (Oh _),fun b l r=>⟨f b l fun o=>r ((h.g1 b).2 (.inr (.inl (.inr ⟨u,d,o⟩)))),fun i=>?_⟩⟩
 ·have fin:g<w.heap.size/\NoDigB w g->u.ownBlock≠some g->g<w'.heap.size/\NoDigB w' g:=fun s o=>⟨Oz s.1 y.size,s.2.of (f g s.1 o)⟩
  rcases a with a|a|a
  ·refine fin (v g ((h.g1 g).2 (.inl a))) fun e=>?_
   have s:=(h.nest.ok g (.inr ⟨u,d,e⟩)).1;have i:=(h.ok0 g a).1;omega
  ·rcases a with a|⟨t,A,a⟩
   ·exact fin (h.nest.ok g (.inl a)).2 fun e=>h.nest.out u d g e a
   obtain⟨k,B,rfl⟩:=Pv A;have c:=Og B;rw[Re]at c;split at c
   ·split at c
    ·injection c with c
     rw[<-c]at a;exact⟨p g a,D g a⟩
    cases c
   next hne=>
   exact fin (h.nest.ok g (.inr ⟨_,Om c,a⟩)).2 fun e=>h.nest.apart k j _ u g (fun C=>hne C.symm) c z a e
  exact fin (h.key g a).2 fun e=>h.kn g a (.inr ⟨u,d,e⟩)
 rcases i with i|i|i
 ·exact r ((h.g1 b).2 (.inl i))
 ·rcases Cd z i with n|n
  ·exact r ((h.g1 b).2 (.inr (.inl n)))
  rcases q with q|q
  ·exact r ((h.g1 b).2 (.inr (.inl (.inr ⟨u,d,q▸n⟩))))
  rw[q]at n;injection n with n;omega
 exact r ((h.g1 b).2 (.inr (.inr i)))
theorem Side.app2(h:Side w0 G0 w G1 vO vs L vK xs K){j x g c:Nat}{u a:Value}{l:List Nat}{B d:World}(H:vs[j]? =some u)(R:L[j]? =some l)(Q:vO=.slice (some ⟨g,0,none⟩) L.length c)(M:B.ownsRow w0.heap.size 3 1 a (l.length+1) (oI (l++[x])))(G:w.grownBy B u.ownBlock)(i:a.ownBlock=u.ownBlock\/a.ownBlock=some w.heap.size)(T:∀g,a.ownBlock=some g->NoDigB B g)(O:bG a=true)(t:Below B.heap.size B d):
  Side w0 G0 (d.setCell ⟨g,j,none⟩ a) (pU G0 vO (vs.set j a) vK) vO (vs.set j a) (L.set j (l++[x])) vK xs K/\∀b,b<d.heap.size->¬pU G0 vO (vs.set j a) vK b->(d.setCell ⟨g,j,none⟩ a).heap[b]? =d.heap[b]? /\¬pU G0 vO (vs.set j a) vK b:=by
 have q:=Om H;have r:w.grownBy d u.ownBlock:=G.trans (rb t);have N:=iB M (w':=d) fun b z=>t.block b (M.lt b z).2
 have P:∀g,a.ownBlock=some g->NoDigB d g:=fun g G=>(T g G).of (t.block g (M.lt g G).2)
 have S:=h.nest.app H R Q N r i P O;have C:∀b,b≠g->(d.setCell ⟨g,j,none⟩ a).heap[b]? =d.heap[b]? :=fun b z=>by
  simp only[World.setCell];rw[P4,if_neg (fun e=>z e.symm)]
 have E:vO.ownBlock=some g:=by rw[Q];rfl
 have F:NB vO vs g:=.inl E;have m:∀b,b<w.heap.size->¬NB vO vs b->(d.setCell ⟨g,j,none⟩ a).heap[b]? =w.heap[b]? :=fun b n y=>(C b fun e=>y (e▸F)).trans (eC r n fun e=>y (.inr ⟨u,q,e⟩))
 have A:∀b,vK.ownBlock=some b->(d.setCell ⟨g,j,none⟩ a).heap[b]? =w.heap[b]? :=fun b z=>m b (h.key b z).2.1 (h.kn b z)
 have J:(d.setCell ⟨g,j,none⟩ a).heap.size=d.heap.size:=by simp[World.setCell]
 have I:Below w0.heap.size w0 (d.setCell ⟨g,j,none⟩ a):=(jy h.below r fun k e=>(h.nest.ok k (.inr ⟨u,q,e⟩)).1).setCell (p:=⟨g,j,none⟩) (h.nest.ok g F).1 _;have D:∀b,b<w.heap.size->¬G1 b->¬pU G0 vO (vs.set j a) vK b:=fun b n o s=>by
  rcases s with s|s|s
  ·exact o ((h.g1 b).2 (.inl s))
  ·rcases Cd H s with f|f
   ·exact o ((h.g1 b).2 (.inr (.inl f)))
   rcases i with i|i
   ·exact o ((h.g1 b).2 (.inr (.inl (.inr ⟨u,q,i▸f⟩))))
   rw[i]at f;injection f with f;omega
  exact o ((h.g1 b).2 (.inr (.inr s)))
 refine⟨⟨S,h.keys.turn (by rw[J];exact r.size) A fun b n o=>⟨m b n fun y=>o ((h.g1 b).2 (.inr (.inl y))),D b n o⟩,fun b v y=>?_,fun b=>Rh,I,h.e0,h.ok0⟩,fun b _ o=>⟨C b fun e=>o (.inr (.inl (.inl (e▸E)))),o⟩⟩;rcases Cd H y with f|f
 ·exact h.kn b v f
 rcases i with i|i
 ·exact h.kn b v (.inr ⟨u,q,i▸f⟩)
 rw[i]at f;injection f with f
 have:=(h.key b v).2.1;omega
theorem so{w:World}{base b i:Nat}(h:w.heap[b]? =some (.cells #[.int .i64 (i:Nat)] 3 (0,0)))(c:base<=b):EIs w base (.slice (some ⟨b,0,none⟩) 1 1) [i]:=by
 refine⟨⟨Z,.inr ⟨b,1,_,Z,c,h,Oh _,by decide,Z,Z⟩⟩,fun g a=>?_⟩;injection a with a
 subst a;exact cD h Z
end
structure GivenR (l:List Oper) (dsts:List (Option Nat)) (t:Array Value) (F:List (Value->World->Prop)) (cons:List (Option Nat)) (B:Nat) (w:World) (I0:World->Prop) (c0 i:Nat) (T:Nat->Value) (W:World):Prop extends GivenC l dsts t F cons B w i T W where
 ini:(c0==i||tj l c0 i)=true->I0 W
def H2(P:Program)(l:List Oper)(dsts:List (Option Nat))(t:Array Value)(F:List (Value->World->Prop))(cons:List (Option Nat))(ap:List Nat)(B:Nat)(w:World)(I0:World->Prop)(c0:Nat)(i:Nat)(o:Oper):Prop:=
 BJ l dsts F cons i o.guard/\∀(T:Nat->Value) (W:World),GivenR l dsts t F cons B w I0 c0 i T W->OpRuns P o T W fun v W'=>fx F i v W'/\GP B W W' (ap.contains i)
inductive StepsR (P:Program) (l:List Oper) (dsts:List (Option Nat)) (t:Array Value) (F:List (Value->World->Prop)) (cons:List (Option Nat)) (ap:List Nat) (B:Nat) (w:World) (I0:World->Prop) (c0:Nat):Nat->List Oper->Prop
 |nil {i:Nat}:StepsR P l dsts t F cons ap B w I0 c0 i []
 |cons' {i:Nat} {o:Oper} {r:List Oper} (h:H2 P l dsts t F cons ap B w I0 c0 i o) (hs:StepsR P l dsts t F cons ap B w I0 c0 (i+1) r):StepsR P l dsts t F cons ap B w I0 c0 i (o::r)
section
variable {P:Program} {l:List Oper} {dsts:List (Option Nat)} {t:Array Value} {F:List (Value->World->Prop)} {cs:List (Option Nat)} {ap:List Nat} {B:Nat} {w:World} {I0:World->Prop} {c0:Nat}
theorem StepsR.cons{i:Nat}{o:Oper}{r:List Oper}(a:BJ l dsts F cs i o.guard)(h:∀(T:Nat->Value) (W:World),GivenR l dsts t F cs B w I0 c0 i T W->OpRuns P o T W fun v W'=>fx F i v W'/\GP B W W' (ap.contains i))
  (b:StepsR P l dsts t F cs ap B w I0 c0 (i+1) r):StepsR P l dsts t F cs ap B w I0 c0 i (o::r):=.cons' ⟨a,h⟩ b
theorem StepsR.at{n:Nat}{r:List Oper}(h:StepsR P l dsts t F cs ap B w I0 c0 n r):∀(k:Nat) (o:Oper),r[k]? =some o->H2 P l dsts t F cs ap B w I0 c0 (n+k) o:=by
 induction h with
 |nil=>intro k o h;simp at h
 |cons' h hs ih=>
  intro k o a;cases k with
  |zero=>
   simp only[Pa,OI]at a;subst a;exact h
  |succ k=>
   have:=ih k o (by simpa using a);rwa[P9,P0 1 k]at this
theorem rZ{id:Nat}{Q:Exit->Act->World->Prop}{a:Act}(dsts:List (Option Nat))(F:List (Value->World->Prop))(pf:List Bool)(cons:List (Option Nat))(ap:List Nat)(B:Nat)(I0:World->Prop)(c0:Nat)(b1:I0 w.drew)(hI:∀W W',I0 W->Below W.heap.size W W'->I0 W')(a1:(ap.all fun i=>i==c0||tj l i c0)=true)
  (hm:P.follows .mixedOrders=true) (a3:fE l.toArray=true) (hd:l.map (·.dst)=dsts) (C:b7 a.tmps.size dsts=true) (hB:B<=w.heap.size) (R:∀W,Stab W F)
  (a4:PureF F pf) (O:(ap.all fun i=>(List.range l.length).all fun j=>pf.getD j true||Lg l cons i j)=true)
  (M:StepsR P l dsts a.tmps F cons ap B w I0 c0 0 l)
  (T:∀(us:List Value) (W:World),us.length=dsts.length->(∀j,j<l.length->cons.getD j none=none->fx F j (us.getD j undef) W)->Below B w W->B<=W.heap.size->Q .normal ⟨cM a.tmps (dsts.zip us),a.defers⟩ W):(Code.region id l.toArray true).wp P Q a w:=by
 have b3:dsts.length=l.length:=by rw[<-hd];simp
 refine gR (fun L a' W=>∃us,a'=⟨cM a.tmps (dsts.zip us),a.defers⟩/\L.size=l.length/\Closed l.toArray L/\MonoC F cons B w (iq a.tmps dsts) L us W/\(L.getD c0 false=false->I0 W)) hm a3 ⟨iq a.tmps dsts,?_,by simp,ip l.toArray,⟨Z,fun j d=>absurd d lI,fun _ _=>rfl,(Below.refl _ _).drew,hB⟩,fun _=>b1⟩ ?_ ?_
 ·rw[jC]
 ·rintro L a' W i o X h2 h3 h4 ⟨us,rfl,_,hc,n,V⟩;have X:L.size=l.length:=by simpa using X
  have K:l[i]? =some o:=by simpa using h3
  have hi:i<l.length:=(Ok.1 K).1;have a0:dsts[i]? =some o.dst:=by rw[<-hd,O2,K];rfl
  have q:us.length=dsts.length:=by rw[n.len,eF]
  have y:L.getD i false=false:=getD_both h2;have t:=hc.step h3 h4;have N:∀j,j≠i->tj l i j=true->L.getD j false=true:=fun j d x=>by
   have:=t.anc x (fh (by omega));rwa[dd (fun e=>d e.symm)]at this
  have D:∀j,tj l j i=true->L.getD j false=false:=fun j x=>by
   cases hl:L.getD j false with
   |false=>rfl
   |true=>
    have:=hc.anc x hl;rw[y]at this;cases this
  have G:GivenC l dsts a.tmps F cons B w i (fun s=>(cM a.tmps (dsts.zip us)).getD s undef) W:=by
   refine⟨fun s g=>fH dsts us _ s g,fun j s g=>?_,fun j s g=>?_,n.below,n.size⟩
   ·simp only[Oo,bne_iff_ne,beq_iff_eq]at g;obtain⟨⟨⟨d,x⟩,r⟩,g⟩:=g;show fx F j ((cM a.tmps (dsts.zip us)).getD s undef) W
    rw[(dn dsts us _ j s C q g).1];refine n.fact j (N j d x) fun c k=>?_
    rw[GQ,k]at r;simp only[Px,beq_iff_eq]at r;rcases r with rfl|r
    ·exact y
    exact D c r
   simp only[Oo,Px,beq_iff_eq]at g;obtain⟨x,g⟩:=g;show(cM a.tmps (dsts.zip us)).getD s undef=_
   have d:L.getD j false=false:=by
    rcases x with rfl|x
    ·exact y
    exact D j x
   rw[(dn dsts us _ j s C q g).1,n.old j d,kU _ _ _ _ g]
  obtain⟨hg,z⟩:H2 P l dsts a.tmps F cons ap B w I0 c0 i o:=by
   have:=M.at i o K;rwa[Pk]at this
  have z:=z _ W ⟨G,fun h=>V (by
   simp only[Px,beq_iff_eq]at h;rcases h with rfl|h
   ·exact y
   exact D _ h)⟩
  have hw:Region.wanted o (yielded l.toArray (cM a.tmps (dsts.zip us)))=true:=by
   unfold Region.wanted;cases a2:o.guard with
   |none=>rfl
   |some p=>
    obtain⟨j,b⟩:=p;rw[a2]at hg;obtain⟨s,g,hR⟩:=hg;simp only[Oo,bne_iff_ne,beq_iff_eq]at g;obtain⟨⟨⟨d,x⟩,r⟩,g⟩:=g;have hv:=hR _ _ (n.fact j (N j d x) fun c k=>by rw[r]at k;cases k);rw[<-(dn dsts us _ j s C q g).1]at hv;have a9:=(dn dsts us a.tmps j s C q g).2;have a5:(l.toArray[j]?).bind (·.dst)=some s:=by
     rw[<-hd,O2]at g;cases ho:l[j]? with
     |none=>simp[ho]at g
     |some oj=>simpa[ho]using g
    have:(cM a.tmps (dsts.zip us))[s]? =some (.bool b):=by
     have hz:s<(cM a.tmps (dsts.zip us)).size:=by rw[gI];exact a9
     simp only[O7,O1 hz,OW]at hv;rw[O1 hz,hv]
    simp only[yielded,a5,PC,this];cases b<;>rfl
  simp only[wpList];rw[if_pos hw];refine .inl<|Oper.wp_mono ?_ z.wp;rintro b2 U ⟨v,e,hR,E⟩;have Y:Below B W U/\W.heap.size<=U.heap.size:=by
   cases H:ap.contains i with
   |true=>rw[H]at E;exact E
   |false=>
    rw[H]at E;exact⟨Below.mono E n.size,Below.size E⟩
  refine⟨us.set i v,?_,by simpa using X,t,⟨by simpa using n.len,fun j d k=>?_,fun j d=>?_,n.below.trans Y.1,Oq n.size Y.2⟩,fun d=>?_⟩
  ·rw[e];exact jL dsts us _ _ i _ v C q a0
  ·by_cases m:i=j
   ·subst m;have:(us.set i v).getD i undef=v:=by simp[List.getD,show i<us.length by omega]
    rw[this];exact hR
   have u:L.getD j false=true:=by rwa[dd m]at d
   have:(us.set i v).getD j undef=us.getD j undef:=by simp[List.getD,m]
   rw[this];have hf:fx F j (us.getD j undef) W:=n.fact j u fun c A=>by
    have:=k c A;by_cases S:i=c
    ·subst S;exact y
    rwa[dd S]at this
   cases H:ap.contains i with
   |false=>
    rw[H]at E;exact(R W).get j _ _ _ (Below.refl _ _) hf E
   |true=>
    by_cases b0:j<l.length
    ·have I:=OD.1 O i (by simpa using H);have f:=OD.1 I j (Qs.2 b0);rw[Px]at f;rcases f with f|f
     ·exact a4.get j _ _ _ f hf
     exfalso;unfold Lg at f;simp only[Px,beq_iff_eq]at f;rcases f with(f|f)|f
     ·exact m f.symm
     ·rw[D j f]at u;cases u
     cases A:cons.getD j none with
     |none=>rw[A]at f;cases f
     |some c=>
      rw[A]at f;simp only[Px,beq_iff_eq]at f;have h7:=k c A;rcases f with rfl|f
      ·rw[fh (by omega)]at h7;cases h7
      rw[t.anc f (fh (by omega))]at h7;cases h7
    have hL:L.getD j false=false:=by simp[RA (show L.size<=j by omega)]
    rw[hL]at u;cases u
  ·by_cases m:i=j
   ·subst m;rw[fh (by omega)]at d;cases d
   rw[dd m]at d;have:(us.set i v).getD j undef=us.getD j undef:=by simp[List.getD,m]
   rw[this];exact n.old j d
  have J:i≠c0:=fun e=>by
   rw[e]at hi d;rw[fh (by omega)]at d;cases d
  rw[dd J]at d;cases H:ap.contains i with
  |false=>rw[H]at E;exact hI _ _ (V d) E
  |true=>
   exfalso;have I:=OD.1 a1 i (by simpa using H);simp only[Px,beq_iff_eq]at I;rcases I with I|I
   ·exact J I
   have f:=N c0 (fun e=>J e.symm) I;rw[d]at f;cases f
 rintro L a' W X ⟨us,rfl,_,_,n,_⟩;exact T us W (by rw[n.len,eF]) (fun j d k=>n.fact j (X j (by simpa using d)) fun c t=>by rw[k]at t;cases t) n.below n.size
end
end Go.Proofs.YtfoejfohbkmmeaaGreatDoor
