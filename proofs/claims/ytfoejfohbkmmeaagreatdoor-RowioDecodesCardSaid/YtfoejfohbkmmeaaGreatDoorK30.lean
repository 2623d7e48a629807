import Derived.Test.YtfoejfohbkmmeaaGreatDoorK29
set_option linter.defProp false
open Go.Proofs.Tryz
namespace Go.Proofs.YtfoejfohbkmmeaaGreatDoor
open Go.RowKit
open Lib renaming hid→J
def Ge(w0:World)(G0:Bse)(o:Oper)(S:St)(t:Tree):Prop:=∀(bx:List Nat) (rv:List Value) (w:World) (T:Nat->Value),Mem w0 G0 S.bs S.rs bx rv w->
 (∀s,(fd o.op).contains s=true->FT (en w G0 bx rv S.rs) [T s] [S.get s])->OpRuns prog o T w λv w'=>FT (en w' G0 bx rv S.rs) [v] [t]/\Below w.heap.size w w'
inductive ChainB (w0:World) (G0:Bse) (ops:Array Oper) (dsts:List (Option Nat)) (n:Nat):Nat->St->List Oper->List Tree->Prop
 |nil {i:Nat} {S:St}:ChainB w0 G0 ops dsts n i S [] []
 |op {i:Nat} {S:St} {o:Oper} {os:List Oper} {t:Tree} {ts:List Tree} (hg:o.guard=none) (h:Ge w0 G0 o S t) (hs:ChainB w0 G0 ops dsts n (i+1) (S.put o.dst t) os ts):ChainB w0 G0 ops dsts n i S (o::os) (t::ts)
 |cnd {i:Nat} {S:St} {o:Oper} {os:List Oper} {t:Tree} {ts:List Tree} (j:Nat) (b:Bool) (s:Nat) (C:Prop) [Decidable C] (hg:o.guard=some (j,b)) (hj:(j !=i&&reach ops n i j&&decide (j<i)&&dsts[j]? ==some (some s))=true) (hG:∃gv,S.get s=.sc gv/\(C↔gv=.bool b)) (h:C->Ge w0 G0 o S t) (hs:ChainB w0 G0 ops dsts n (i+1) (S.put o.dst (if C then t else .sc undef)) os ts):ChainB w0 G0 ops dsts n i S (o::os) ((if C then t else .sc undef)::ts)
def ChainB.length{w0:World}{G0:Bse}{ops:Array Oper}{a:List (Option Nat)}{n i:Nat}{S:St}{b:List Oper}{ts:List Tree}(h:ChainB w0 G0 ops a n i S b ts):b.length=ts.length:=by induction h<;>simp_all
section
variable {w0:World} {G0:Bse} {Q:Exit->St->Prop} {S:St}
def ko{ops:Array Oper}{c:List (Option Nat)}{n:Nat}{a:Act}{w:World}{bx:List Nat}{rv:List Value}(r:cD a.tmps.size c=true)(m:n9 ops c n=true)(u:ops.toList.map (·.dst)=c)(B:∀i,FT (en w G0 bx rv S.rs) [a.tmps.getD i undef] [S.get i])(ts:List Tree):
  ∀(E:List Oper) (i:Nat) (us:List Tree) (S':St),ChainB w0 G0 ops c n i S' E us->(∀(k:Nat) (o:Oper),E[k]? =some o->ops[i+k]? =some o)->us=ts.drop i->S'=gm S (c.take i) (ts.take i)->i+E.length<=ops.size->i<=ts.length->StepsT prog ops c a.tmps (RT G0 bx rv S.rs ts) (λ_=>none) (WT w0 w G0 S bx rv) (λ_ W W'=>Below W.heap.size W W') i E
 |[],i,us,S',h,_,_,_,_,_=>trivial
 |o::E,i,us,S',h,hops,hus,hS',hlen,hle=>by
  have a3:ops[i]? =some o:=hops 0 o Z;have a5:i<ops.size:=by simp only[Q5]at hlen;omega
  have b1:c.length=ops.size:=by rw[<-u];simp
  have a4:c[i]? =some o.dst:=by
   rw[<-u,RK];simp only[SC,a3,Sr]
  have d:=mV (c.take i) (ts.take i) S;rw[<-hS']at d;have z:∀t G,us=t::G->G=ts.drop (i+1)/\ts[i]? =some t/\S'.put o.dst t=gm S (c.take (i+1)) (ts.take (i+1))/\i+1<=ts.length:=λt G e=>by
   have q:ts.drop i=t::G:=by rw[<-hus,e]
   have p:i<ts.length:=by
    rcases RE i ts.length with h|h
    ·exact h
    rw[Rc h]at q;cases q
   rw[Re p]at q;injection q with R U
   refine⟨U.symm,by rw[Q2 p,R],?_,p⟩;obtain⟨a0,Y⟩:=Q6.1 a4;rw[Rz a0,Rz p,lp _ _ _ _ _ (by simp only[Rb];omega),Y,R,hS']
  have H:∀s,(∀j,c[j]? =some (some s)->i<=j)->S'.get s=S.get s:=λs K=>by
   rw[hS'];refine kJ _ _ _ s ?_;cases M:(c.take i).contains (some s)with
   |false=>rfl
   |true=>
    obtain⟨j,f,b0⟩:=Sl (RX.1 M);have q:(c.take i)[j]? =some (some s):=by rw[Q2 f,b0]
    obtain⟨R,U⟩:=f6 q;have:=K j U;omega
  have y:∀s j,c[j]? =some (some s)->j<i->∃t,ts[j]? =some t/\S'.get s=t:=λs j f a1=>by
   have a2:j<ts.length:=O
   refine⟨ts[j],Q2 a2,?_⟩;rw[hS'];have V:=lm i r;exact oQ _ _ S a.tmps.size j s _ V (jQ f a1) (jQ (Q2 a2) a1)
  have L:∀(T:Nat->Value) (W:World),Given ops c a.tmps (RT G0 bx rv S.rs ts) (λ_=>none) (WT w0 w G0 S bx rv) i T W->∀s,(fd o.op).contains s=true->FT (en W G0 bx rv S'.rs) [T s] [S'.get s]:=λT W D s K=>by
   rw[d.2.1];have X:AY ops c n i s=true:=by
    have q:=Rl.1 m i (Tr.2 a5);simp only[a3]at q;exact Rl.1 q s (RX.1 K)
   unfold AY at X;cases hx:fD s c with
   |none=>
    have I:=gW hx;rw[D.keep s I,H s (λj f=>by
     have:=RX.2 (Q8 f);rw[I]at this;cases this)]
    exact(B s).later D.wi.2
   |some j=>
    have f:=fQ hx;simp only[hx]at X;split at X
    ·next p=>
     obtain⟨t,ht,he⟩:=y s j f p;have:=D.fact n j s (by simp only[Q9,bne_iff_ne,beq_iff_eq];exact⟨⟨⟨O,X⟩,Z⟩,f⟩);unfold RT at this;rw[Rr,ht,RH]at this;rw[he];exact this
    next hge=>
    rw[D.old n j s (by simp only[Q9,beq_iff_eq];exact⟨X,f⟩),H s (λj' a9=>by
     rw[iS r a9 f];omega)]
    exact(B s).later D.wi.2
  have l:∀(k:Nat) (o:Oper),E[k]? =some o->ops[i+1+k]? =some o:=λk x hx=>by have:=hops (k+1) x (by simpa using hx);rw[show i+1+k=i+(k+1) by omega,this]
  have g:i+1+E.length<=ops.size:=by simp only[Q5]at hlen;omega
  have J:∀t,Ge w0 G0 o S' t->ts[i]? =some t->∀(T:Nat->Value) (W:World),Given ops c a.tmps (RT G0 bx rv S.rs ts) (λ_=>none) (WT w0 w G0 S bx rv) i T W->OpRuns prog o T W λv W'=>RT G0 bx rv S.rs ts i v W'/\Below W.heap.size W W':=λt A ht T W D=>by
   have:=A bx rv W T (by rw[d.1,d.2.1];exact D.wi.1) (L T W D);rw[d.2.1]at this;unfold RT;rw[Rr,ht,RH];exact this
  have F:∀j s Q,(j !=i&&reach ops n i j&&decide (j<i)&&c[j]? ==some (some s))=true->S'.get s=.sc Q->(j !=i&&reach ops n i j&&(none:Option Nat)==none&&c[j]? ==some (some s))=true/\∀v W,RT G0 bx rv S.rs ts j v W->v=Q:=λj s Q f hS=>by
   simp only[Q9,bne_iff_ne,beq_iff_eq,decide_eq_true_eq]at f⊢;obtain⟨⟨⟨q,R⟩,U⟩,h4⟩:=f;refine⟨⟨⟨⟨q,R⟩,trivial⟩,h4⟩,λv W N=>?_⟩;obtain⟨t,ht,he⟩:=y s j h4 U;unfold RT at N;rw[Rr,ht,RH,<-he,hS]at N;exact N.isSc
  cases h with
  | @op _ _ _ _ t ts' hg A K=>
   obtain⟨e1,P,e3,e4⟩:=z t ts' Z;exact .cons (by rw[hg];trivial) (J t A P) (ko r m u B ts E (i+1) ts' _ K l e1 e3 g e4)
  | @cnd _ _ _ _ t ts' j b s C _ hg f D A K=>
   obtain⟨Q,hS,hC⟩:=D;obtain⟨e1,P,e3,e4⟩:=z _ ts' Z;obtain⟨g1,g2⟩:=F j s Q f hS;by_cases M:C
   ·rw[if_pos M]at P;exact .cons (by rw[hg];exact⟨n,s,g1,λv W N=>(g2 v W N).trans (hC.1 M)⟩) (J t (A M) P) (ko r m u B ts E (i+1) ts' _ K l e1 e3 g e4)
   rw[if_neg M]at P;refine .skip n s hg g1 (λv W N e=>M (hC.2 ((g2 v W N).symm.trans e))) (λW=>?_) (ko r m u B ts E (i+1) ts' _ K l e1 e3 g e4);unfold RT;rw[Rr,P,RH];exact .pure (.sc _ .nil) .nil
def H4{id n:Nat}{ops:List Oper}{b:List (Option Nat)}{ts:List Tree}(l:fY ops.toArray=true)(m:ops.map (·.dst)=b)(c:cD S.n b=true)(e:n9 ops.toArray b n=true)(d:ChainB w0 G0 ops.toArray b n 0 S ops ts)(k:Q .normal (gm S b ts)):AWP w0 G0 (.region id ops.toArray true) Q S:=by
 rintro a w ⟨bx,rv,z,r,p,f⟩;have q:b.length=ops.length:=by rw[<-m];simp
 have s:=ko (w0:=w0) (G0:=G0) (S:=S) (w:=w) (bx:=bx) (rv:=rv) (a:=a) (by rw[r];exact c) e (by simpa using m) f ts ops 0 ts S d (λk o A=>by simpa using A) Z Z F (Rg _);refine n8 b (RT G0 bx rv S.rs ts) (λ_=>none) (WT w0 w G0 S bx rv) (λ_ W W'=>Below W.heap.size W W') U l (by simpa using m) (by rw[r];exact c)
  (λ_ W W' g u=>⟨g.1.later u,g.2.trans (u.mono g.2.size)⟩) (λ_ j v W W' _ _ h y=>FT.later h y) ⟨z.later (Below.refl _ _).drew,(Below.refl _ _).drew⟩ (by simpa using s) ?_
 intro us W t h x;exact⟨_,k,zF c r p t (by rw[q];exact d.length.symm) x.1 (λi=>(f i).later x.2) (λj B=>h j (by simp;omega) Z)⟩
def ec{ops:Array Oper}{a:List (Option Nat)}{n i:Nat}{S:St}{o:Oper}{b:List Oper}{t:Tree}{ts:List Tree}(c:o.guard=none)(h:OpOK o S t)(d:ChainB w0 G0 ops a n (i+1) (S.put o.dst t) b ts):ChainB w0 G0 ops a n i S (o::b) (t::ts):=.op c (h w0 G0) d
def EB{id fu n:Nat}{sl:List (Nat×Tree)}{bs:List (TypeId×List Tree)}{rs:List (Option Row)}{ops:List Oper}(a:List (Option Nat))(ts:List Tree){sl':List (Nat×Tree)}(c:fY ops.toArray=true)(g:ops.map (·.dst)=a)(d:cD n a=true)(b:n9 ops.toArray a fu=true)(f:j3 sl a ts=sl')(e:ChainB w0 G0 ops.toArray a fu 0 ⟨n,sl,bs,rs⟩ ops ts)(k:Q .normal ⟨n,sl',bs,rs⟩):AWP w0 G0 (.region id ops.toArray true) Q ⟨n,sl,bs,rs⟩:=
 H4 c g d b e (by rw[mc,f];exact k)
def Cn{G:Nat->Prop}{o:Oper}{t:TypeId}{s b off:Nat}{u:Value}(d:o.op=.load t (.tmp s))(i:S.get s=.sc (.pointer (some ⟨b,off,none⟩)))(j:jP prog t=true)(f:b<w0.heap.size)(g:w0.cell? ⟨b,off,none⟩=some u):Ge w0 (pln G) o S (.sc u):=by
 intro bx rv w T h e;have k:T s=.pointer (some ⟨b,off,none⟩):=by
  have c:=e s (by rw[d];simp[fd,Op.operands]);rw[i]at c;exact c.isSc
 have a:w.cell? ⟨b,off,none⟩=some u:=by rw[<-g];exact World.cell?_of_block (h.below.block b f id)
 exact aE (v:=u) (W':=w) (vz d k j a) ⟨.pure (.sc _ .nil) .nil,Below.refl _ _⟩
def KY{c:World}{b:Nat->Prop}{Q:Exit->World->(Nat->Prop)->St->Prop}{S:St}{x y:Code}(I:St->Prop)(g:AWP c (pln b) x (λe S=>e=.normal/\I S) S)(h:∀S,I S->BWP y Q c b S):BWP (.seq x y) Q c b S:=dK λa w j=>wp_mono (g a w j) λe k w' ⟨S',⟨f,i⟩,d⟩=>⟨c,b,S',by subst f;exact h S' i,d⟩
def pz(A:Option Addr)(l c:Nat):Option Addr:=if c=l then A else A.map (·.add (l*1))
def H5{o:Oper}{x:Operand}{lo a:Option Operand}{t e:TypeId}{l h n c:Nat}{A:Option Addr}(i:o.op=.slice t x lo a none)(z:gQ prog t=some (e,1))(B:S.ev x=.sc (.slice A n c))(f:N9 S lo l)(b:Oa S n a h)(q:l<=h)(r:h<=n)(s:n<=c):OpOK o S (.sc (.slice (pz A l c) (h-l) (c-l))):=by
 intro w0 G0 bx rv w T C j;have p:=(bP j B (by rw[i];simp[Op.operands])).isSc;have g:(lo.map (dG T)=none/\l=0)\/∃k,lo.map (dG T)=some (.int k l):=by
  cases lo with
  |none=>exact .inl ⟨Z,f⟩
  |some y=>
   obtain⟨k,m⟩:=f;exact .inr ⟨k,by rw[Sr,(bP j m (by rw[i];simp[Op.operands])).isSc]⟩
 have d:(a.map (dG T)=none/\h=n)\/∃k,a.map (dG T)=some (.int k h):=by
  cases a with
  |none=>exact .inl ⟨Z,b⟩
  |some y=>
   obtain⟨k,m⟩:=b;exact .inr ⟨k,by rw[Sr,(bP j m (by rw[i];simp[Op.operands])).isSc]⟩
 have u:=jb (P:=prog) (w:=w) (A:=A) z (lo.map (dG T)) (a.map (dG T)) g d q r s;exact aE (v:=.slice (pz A l c) (h-l) (c-l)) (W':=w) (by simp[execOp,i,p,u,pz]) ⟨.pure (.sc _ .nil) .nil,Below.refl _ _⟩
def wn{w:World}{base:Nat}{e:TypeId}{A:Option Addr}{n c l h:Nat}{xs:List Value}(m:w.ownsRow base e 1 (.slice A n c) n xs)(q:l<=h)(r:h<=n):
  n<=c/\(pz A l c=none->h-l=0/\c-l=0)/\∀a,pz A l c=some a->∀j u,((xs.take h).drop l)[j]? =some u->w.cell? (a.add j)=some u:=by
 have z:=m.1;rcases m.2 with⟨d,k⟩|⟨g,o,cur,d,s,t,k,v,x,y⟩
 ·injection d with d _ i
  subst d i k;have p:∀l,pz none l 0=none:=λl=>by unfold pz;split<;>rfl
  exact⟨Q3 _,λ_=>O,λa b=>by rw[p]at b;cases b⟩
 injection d with d _ i
 subst d i;refine⟨k,λb=>?_,λa b j u f=>?_⟩
 ·unfold pz at b;split at b<;>cases b
 rw[Si,R7]at f;split at f
 ·unfold pz at b;split at b
  ·omega
  rw[Sr,Addr.add_mid]at b;injection b with b
  subst b;rw[Addr.add_mid];have:=World.ownsRow.cells m (g:=g) Z _ _ f;rw[py]at this;rw[show 0+l*1+j=l+j by omega];exact this
 cases f
def P1:Tree->Bool
 | .sc _=>true
 |_=>false
def yF:∀{sl:List (Nat×Tree)},sl.all (λp=>P1 p.2)=true->∀i,look sl i=.any\/∃v,look sl i=.sc v
 |[],_,_=>.inl Z
 |(j,t)::sl,h,i=>by
  simp only[SJ,Q9]at h;rw[dX];split
  ·cases t<;>first|exact .inr ⟨_,Z⟩|cases h.1
  exact yF h.2 i
def nG{E:En}{x v:Value}(h:x=v):FT E [x] [.sc v]:=by subst h;exact .pure (.sc _ .nil) .nil
def Sim.lits{o w w':World}{c:Nat->Prop}{n:Nat}{sl:List (Nat×Tree)}{a:Act}(h:Sim o (pln c) ⟨n,sl,[],[]⟩ a w)(d:Env w')(k:sl.all (λp=>P1 p.2)=true):Sim w' (pln λ_=>False) ⟨n,sl,[],[]⟩ a w':=by
 obtain⟨_,_,_,l,f,m⟩:=h.facts;refine Sim.mk d (λg j=>j.elim) l f λi=>?_
 have b:=m i;rcases yF k i with e|⟨v,e⟩
 ·rw[e];exact .any _ .nil
 rw[e]at b⊢;exact nG b.isSc
def EC{w:World}{base:Nat}{e i:TypeId}{sz n d:Nat}{v:Value}{xs:List Value}{c:Array Value}{f:Nat×Nat}(o:w.ownsRow base e sz v n xs)(a:w.heap[d]? =some (.cells c i f))(b:e≠i):v.ownBlock≠some d:=λh=>by
 rcases o.2 with⟨rfl,_⟩|⟨g,j,cur,rfl,_,m,_⟩
 ·cases h
 injection h with h
 have k:g=d:=h;subst k;rw[m]at a;injection a with a
 injection a with _ l
 exact b l
end
def p9:∀{cs:List Col} {vs:List V},vs.length=cs.length->(eT cs vs=[]↔eZ cs=false)
 |[],[],_=>by simp[eT,eZ]
 |[],_::_,h=>by simp at h
 |_::_,[],h=>by simp at h
 |c::cs,v::vs,h=>by
  have a:=p9 (cs:=cs) (vs:=vs) (by simpa using h);unfold eZ at a⊢;rw[eT,UA];cases b:c.key
  ·rw[if_neg F,a];simp
  rw[if_pos Z];simp
def wt{s:Sch}{vs:List V}(h:vs.length=s.cols.length):aR s vs=[]↔eZ s.cols=false:=by
 unfold aR;rw[if_pos h,p9 h]
def wu{k:List V}:∀{K:List (List V)} {j:Nat},j<=K.length->(∀x y,x<j->K[x]? =some y->bw y k<0)->(∀y,K[j]? =some y->¬bw y k<0)->bU K k=j
 |[],j,hj,_,_=>by
  obtain rfl:j=0:=by simpa using hj
  rfl
 |y::K,0,_,_,h=>by
  unfold bU;rw[SA,if_neg (by simpa using h y Z)];rfl
 |y::K,j+1,hj,h1,h2=>by
  have b:=wu (k:=k) (K:=K) (j:=j) (by simpa using hj) (λx z c a=>h1 (x+1) z O (by simpa using a)) (λz a=>h2 z (by simpa using a));unfold bU at b⊢;rw[SA,if_pos (by simpa using h1 0 y O Z),Q5,b]
def tA(s:Sch)(k:List V):∀(ts:List Tp) (i:Nat) (l:List Nat) (h:Nat),cE s k ts i=h::l->∃t,i<=h/\ts[h-i]? =some t/\aR s t.vals=k
 |[],i,l,h,e=>by simp[cE]at e
 |t::ts,i,l,h,e=>by
  rw[cE]at e;split at e
  ·next hc=>
   injection e with a f
   subst a;exact⟨t,Q3 _,F,(o7 _ _).1 hc⟩
  obtain⟨d,g,b,c⟩:=tA s k ts (i+1) l h e;refine⟨d,O,?_,c⟩;rw[show h-i=(h-(i+1))+1 by omega,Ur];exact b
def yG{s:Sch}{k:List V}{t:Tp}(a:aR s t.vals=k):∀{ts:List Tp} {i:Nat},t∈ts->cE s k ts i≠ []
 |[],_,h=>by cases h
 |u::ts,i,h=>by
  rw[cE];split
  ·simp
  next hc=>
  rcases Ri.1 h with rfl|h
  ·exact absurd ((o7 _ _).2 a) hc
  exact yG a h
def KZ{s:Sch}{ts:List Tp}{i j:Nat}{K:List (List V)}{L:List (List Nat)}{l:List Nat}(n:ei s ([],[]) 0 (ts.take i)=(K,L))(h:∀t∈ts,aR s t.vals≠ [])(o:L[j]? =some l):∃d tl f,l=d::tl/\ts[d]? =some f/\K[j]? =some (aR s f.vals):=by
 have g:=kh (s:=s) (ts.take i) [] ([],[]) ⟨Z,λt c=>(by cases c),λk h=>(by cases h),List.Pairwise.nil⟩ λt c=>h t (RG c)
 rw[Ra,n,Sc]at g;have q:L=K.map λk=>cE s k (ts.take i) 0:=g.bl
 rw[q,RK]at o;obtain⟨k,b,rfl⟩:=R9.1 o;obtain⟨t,c,m⟩:=g.src k (Q8 b);cases a:cE s k (ts.take i) 0 with
 |nil=>exact absurd a (yG m c)
 |cons d tl=>
  obtain⟨f,_,e,p⟩:=tA s k _ _ _ _ a;rw[TW,R7]at e;split at e
  ·exact⟨d,tl,f,Z,e,by rw[b,p]⟩
  cases e
section
variable {w W:World} {base:Nat} {v v':Value} {vs:List Value} {L:List (List Nat)}
def Nest.new(h:Nest w base v vs L)(M:Below w.heap.size w W)(y:base<=w.heap.size){i x:Nat}{u:Value}(A:EIs W w.heap.size u [x])(D:W.ownsRow w.heap.size 23 1 v' (L.length+1) (vs.take i++[u]++vs.drop i))(N:∀g,v'.ownBlock=some g->NoDigB W g)(Q:i<=L.length):
  Nest W base v' (vs.take i++[u]++vs.drop i) (L.take i++[[x]]++L.drop i):=by
 have R:=h.len;have p:∀t∈vs,∀b,t.ownBlock=some b->b<w.heap.size:=λt a b c=>(h.ok b (.inr ⟨t,a,c⟩)).2.1
 have G:=h.later M;refine⟨by rw[show(L.take i++[[x]]++L.drop i).length=L.length+1 by simp;omega];exact kg D y,N,λj t l a d=>?_,λj k s t b C n a f m=>?_,λt a b c e=>?_⟩
 ·rw[o9 _ _ O]at a;rw[o9 _ _ Q]at d;by_cases z:j<i
  ·rw[if_pos z]at a d;exact G.el j t l a d
  rw[if_neg z]at a d;by_cases q:j=i
  ·rw[if_pos q]at a d;cases a;cases d;exact⟨kg A.1 y,A.2⟩
  rw[if_neg q]at a d;exact G.el _ t l a d
 ·have key:∀(H:Nat) (B:Value),vs[H]? =some B->B.ownBlock=some b->u.ownBlock=some b->False:=λH B z q K=>by
   have:=p B (Q8 z) b q;have:=(A.1.lt b K).1;omega
  rw[o9 _ _ O]at n a;by_cases E:j<i
  ·rw[if_pos E]at n;by_cases o:k<i
   ·rw[if_pos o]at a;exact h.apart j k s t b C n a f m
   rw[if_neg o]at a;by_cases r:k=i
   ·rw[if_pos r]at a;cases a;exact key _ _ n f m
   rw[if_neg r]at a;exact h.apart j (k-1) s t b O n a f m
  rw[if_neg E]at n;by_cases F:j=i
  ·rw[if_pos F]at n;cases n;by_cases o:k<i
   ·rw[if_pos o]at a;exact key _ _ a m f
   rw[if_neg o,if_neg O]at a;exact key _ _ a m f
  rw[if_neg F]at n;by_cases o:k<i
  ·rw[if_pos o]at a;exact h.apart (j-1) k s t b O n a f m
  rw[if_neg o]at a;by_cases r:k=i
  ·rw[if_pos r]at a;cases a;exact key _ _ n f m
  rw[if_neg r]at a;exact h.apart (j-1) (k-1) s t b O n a f m
 simp only[RI,Rs]at a;have S:=(D.lt b e).1;rcases a with(a|rfl)|a
 ·have:=p t (RG a) b c;omega
 ·rcases A.1.2 with⟨rfl,_⟩|⟨g,J,cur,rfl,_,P,_⟩
  ·cases c
  injection c with c
  have q:g=b:=c;subst q;exact EC D P I e
 have:=p t (Sf a) b c;omega
def Nest.ones(h:Nest w base v vs L):∀u∈vs,u.oneCell'=true/\bR u=true:=λu d=>by
 obtain⟨j,b,rfl⟩:=Sl d;have f:=h.len;obtain⟨a,_⟩:=h.el j _ (L[j]'O) (Q2 b) (Q2 O);obtain⟨A,c,e⟩:=ce a;rw[e];exact⟨Z,Z⟩
end
section
variable {w0 w1 W:World} {G0 G1:Nat->Prop} {vO v' u:Value} {vs:List Value} {L:List (List Nat)} {i x:Nat}
def Side.newL(h:Side w0 G0 w1 G1 vO vs L (.slice none 0 0) [] [])(d:Below w1.heap.size w1 W)(k:EIs W w1.heap.size u [x])(j:W.ownsRow w1.heap.size 23 1 v' (L.length+1) (vs.take i++[u]++vs.drop i))(l:∀g,v'.ownBlock=some g->NoDigB W g)(m:i<=L.length):
  Side w0 G0 W (rm G0 v' (vs.take i++[u]++vs.drop i) (.slice none 0 0)) v' (vs.take i++[u]++vs.drop i) (L.take i++[[x]]++L.drop i) (.slice none 0 0) [] []/\∀b,b<w1.heap.size->¬G1 b->W.heap[b]? =w1.heap[b]? /\¬rm G0 v' (vs.take i++[u]++vs.drop i) (.slice none 0 0) b:=by
 refine⟨⟨h.nest.new d h.below.size k j l m,KeyR.nil _ _ _,λb d=>(by cases d),λb=>T1,aL h.below d h.below.size,h.e0,h.ok0⟩,λb f e=>⟨d.block b f,λa=>?_⟩⟩;rcases a with a|a|a
 ·exact e ((h.g1 b).2 (.inl a))
 ·rcases a with a|⟨t,c,a⟩
  ·have:=(j.lt b a).1;omega
  simp only[RI,Rs]at c;rcases c with(c|rfl)|c
  ·exact e ((h.g1 b).2 (.inr (.inl (.inr ⟨t,RG c,a⟩))))
  ·have:=(k.1.lt b a).1;omega
  exact e ((h.g1 b).2 (.inr (.inl (.inr ⟨t,Sf c,a⟩))))
 cases a
end
def PcR(B i n:Nat)(f:Value->List Value)(r:Value)(W:World):Prop:=∃d,B<=d/\W.heap[d]? =some (.cells #[.int .i64 (i:Nat)] 3 (0,0))/\W.ownsRow B 23 1 r n (f (.slice (some ⟨d,0,none⟩) 1 1))/\∀g,r.ownBlock=some g->NoDigB W g
def k8{W W':World}(a:Below W.heap.size W W'){d:Nat}{x:Obj}(h:W.heap[d]? =some x):W'.heap[d]? =some x:=by
 rw[a.block d (RQ.1 h).1];exact h
def PcR.later{B i n:Nat}{f:Value->List Value}{r:Value}{W W':World}(h:PcR B i n f r W)(a:Below W.heap.size W W'):PcR B i n f r W':=by
 obtain⟨d,e,j,b,k⟩:=h;exact⟨d,e,k8 a j,eF b a,λg c=>(k g c).of (a.block g (b.lt g c).2)⟩
def OW(B p i n:Nat)(vs:List Value)(O vS vP:Value):List (Value->World->Prop):=[
 λr _=>r=O,
 λr _=>r=.int .i64 (i:Nat),
 λr W=>∃b,r=.slice (some ⟨b,0,none⟩) 1 1/\B<=b/\W.heap[b]? =some (.cells #[.int .i64 (i:Nat)] 3 (0,0)),
 λr W=>∃b d,r=.slice (some ⟨b,0,none⟩) 1 1/\B<=d/\W.heap[d]? =some (.cells #[.int .i64 (i:Nat)] 3 (0,0))/\W.heap[b]? =some (.cells #[.slice (some ⟨d,0,none⟩) 1 1] 23 (0,0)),
 λr W=>PcR B i (p+1) (λu=>vs.take p++[u]) r W,
 λr _=>r=vS,
 λr _=>r=.int .i64 (p:Nat),
 λr _=>r=vP,
 λr W=>PcR B i (n+1) (λu=>vs.take p++[u]++vs.drop p) r W,
 λr W=>PcR B i (n+1) (λu=>vs.take p++[u]++vs.drop p) r W]
def H6(B p i n:Nat)(vs:List Value)(O k j:Value)(W:World):Stab W (OW B p i n vs O k j):=
 .eq<|.eq<|.cons (λ_ _ _ _ ⟨b,c,e,f⟩ a=>⟨b,c,e,k8 a f⟩)<|.cons (λ_ _ _ _ ⟨b,d,c,e,f,g⟩ a=>⟨b,d,c,e,k8 a f,k8 a g⟩)<|.cons (λ_ _ _ _ h a=>h.later a)<|.eq<|.eq<|.eq<|.cons (λ_ _ _ _ h a=>h.later a)<|.cons (λ_ _ _ _ h a=>h.later a)<|.nil
def H7(B p i n:Nat)(vs:List Value)(O b a:Value):PureF (OW B p i n vs O b a) [true,true,false,false,false,true,true,true,false,false]:=
 .eq<|.eq<|.any<|.any<|.any<|.eq<|.eq<|.eq<|.any<|.any<|.nil
def ED:(prog.info? 23).map (λi=>(i.zero,i.size,i.bytes))=some (some (.slice none 0 0),1,24):=U
def rF{W:World}{B n m c:Nat}{v:Value}{xs news:List Value}{A:Option Addr}(r:W.ownsRow B 23 1 v n xs)(d:A=none->m=0/\c=0)(b:∀a,A=some a->∀j u,news[j]? =some u->W.cell? (a.add j)=some u)(q:news.length=m)(l:∀u∈news,u.oneCell'=true/\bR u=true)(t:n+m<=1000000)(o:B<=W.heap.size)(p:∀g,v.ownBlock=some g->NoDigB W g):
  ∃v' W',(Builtin.append_ #[98,98] 98 #[v,.slice A m c]).run prog W=.ok v' W'/\W'.ownsRow B 23 1 v' (n+m) (xs++news)/\W.grownBy W' v.ownBlock/\(v'.ownBlock=v.ownBlock\/v'.ownBlock=some W.heap.size)/\∀g,v'.ownBlock=some g->NoDigB W' g:=by
 obtain⟨s,e,h,i,k⟩:=info_parts ED;exact mU (P:=prog) W B 98 98 23 s (.slice none 0 0) 1 24 underlying98 e h i k Z I v n xs r A m c news (by rw[q,ST]) d b (λu f=>(l u f).1) (by unfold maxLen;omega) O o I (Rl.2 λu f=>(l u f).2) p
def EE(t:Tp):Prop:=∀v∈t.vals,v.s.size<=9223372036854775807
def xD(r:Rel):Prop:=∀t∈r.tups,EE t
def wv{ts:List Tp}(h:∀t∈ts,0<=t.prob):∀(l:List Nat) (q:Rat),0<=q->0<=l.foldl (λq i=>q+je ts i) q
 |[],q,hq=>hq
 |i::l,q,hq=>by
  rw[Th];refine wv h l _ ?_;have:0<=je ts i:=by
   unfold je;cases a:ts[i]? with
   |none=>simp
   |some t=>exact h t (Q8 a)
  grind
def Co{r:Rel}(h:ci r.sch none r.tups=0)(b:List Nat):(!Av (gR r.tups b))=decide (dk (1-gR r.tups b)<0):=by
 have a:0<=gR r.tups b:=wv (λt c=>(lS (iV (g9 h t c)).2.1).1) b 0 I;unfold Av;rw[decide_eq_true (by rw[<-Int.not_lt,kW,Rat.not_lt];exact a),Tx,<-decide_not];exact decide_eq_decide.2 O
def dW(r:Rel)(t:Tp):Int:=
 if bK r≠0 then bK r else if ch r.sch t≠0 then ch r.sch t else if(nS t.vals r.tups 0).isSome then 8 else bK (g8 r t)
def nV(r:Rel)(t:Tp):Tree:=.tup [if dW r t=0 then(g8 r t).tree else ug,.sc (.int .i64 (dW r t))]
def qa{r:Rel}(h:bK r=0):r.tups.length<=64:=by
 unfold bK at h;split at h
 ·cases h
 split at h
 ·cases h
 omega
def jU(r:Rel)(t:Tp):(nV r t).plain=true:=by unfold nV;split<;>rfl
def Cp{r:Rel}{t:Tp}(d:FitR r)(b:FitT t)(c:t.vals.length<=65536)(i:r.tups.length<=64):FitR (g8 r t)/\(xD r->EE t->xD (g8 r t)):=by
 have e:∀x∈(g8 r t).tups,x∈r.tups\/x=t:=λx a=>by
  unfold g8 at a;simp only[RI,Rs]at a;rcases a with(h|h)|h
  ·exact .inl (RG h)
  ·exact .inr h
  exact .inl (Sf h)
 refine⟨⟨d.cols,?_,λx a=>?_⟩,λf g x a=>?_⟩
 ·unfold g8;simp only[Q4,Rb,Rm,Ss];omega
 ·rcases e x a with h|rfl
  ·exact d.tup x h
  exact⟨b,c⟩
 rcases e x a with h|rfl
 ·exact f x h
 exact g
