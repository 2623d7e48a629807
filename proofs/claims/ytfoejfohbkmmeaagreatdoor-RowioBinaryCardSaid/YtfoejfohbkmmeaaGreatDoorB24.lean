import Derived.Test.YtfoejfohbkmmeaaGreatDoorB23
import Derived.Test.YtfoejfohbkmmeaaGreatDoorB00
import Derived.Test.YtfoejfohbkmmeaaGreatDoorB20
import Derived.Test.YtfoejfohbkmmeaaGreatDoorB06
import Derived.Test.YtfoejfohbkmmeaaGreatDoorB14
import Derived.Test.YtfoejfohbkmmeaaGreatDoorB01
set_option maxRecDepth 100000
set_option maxHeartbeats 4000000
namespace Go.Proofs.YtfoejfohbkmmeaaGreatDoor
open Go.RowKit
open Lib renaming hid→J
def DV(w0:World)(G0:Bse)(o:Oper)(S:St)(t:Tree):Prop:=∀(bx:List Nat) (rv:List Value) (w:World) (T:Nat->Value),Mem w0 G0 S.bs S.rs bx rv w->
 (∀s,(eG o.op).contains s=true->FT (en w G0 bx rv S.rs) [T s] [S.get s])->OpRuns Tryz.prog o T w fun v w'=>FT (en w' G0 bx rv S.rs) [v] [t]/\Below w.heap.size w w'
inductive ChainB (w0:World) (G0:Bse) (ops:Array Oper) (dsts:List (Option Nat)) (n:Nat):Nat->St->List Oper->List Tree->Prop
 |nil {i:Nat} {S:St}:ChainB w0 G0 ops dsts n i S [] []
 |op {i:Nat} {S:St} {o:Oper} {os:List Oper} {t:Tree} {ts:List Tree} (hg:o.guard=none) (h:DV w0 G0 o S t) (hs:ChainB w0 G0 ops dsts n (i+1) (S.put o.dst t) os ts):ChainB w0 G0 ops dsts n i S (o::os) (t::ts)
 |cnd {i:Nat} {S:St} {o:Oper} {os:List Oper} {t:Tree} {ts:List Tree} (j:Nat) (b:Bool) (s:Nat) (C:Prop) [Decidable C] (hg:o.guard=some (j,b)) (hj:(j !=i&&reach ops n i j&&decide (j<i)&&dsts[j]? ==some (some s))=true) (hG:∃gv,S.get s=.sc gv/\(C↔gv=.bool b)) (h:C->DV w0 G0 o S t) (hs:ChainB w0 G0 ops dsts n (i+1) (S.put o.dst (if C then t else .sc undef)) os ts):ChainB w0 G0 ops dsts n i S (o::os) ((if C then t else .sc undef)::ts)
theorem ChainB.length{w0:World}{G0:Bse}{ops:Array Oper}{a:List (Option Nat)}{n i:Nat}{S:St}{b:List Oper}{ts:List Tree}(h:ChainB w0 G0 ops a n i S b ts):b.length=ts.length:=by induction h<;>simp_all
section
variable {w0:World} {G0:Bse} {Q:Exit->St->Prop} {S:St}
theorem jz{ops:Array Oper}{c:List (Option Nat)}{n:Nat}{a:Act}{w:World}{bx:List Nat}{rv:List Value}(B:b7 a.tmps.size c=true)(m:mY ops c n=true)(r:ops.toList.map (·.dst)=c)(y:∀i,FT (en w G0 bx rv S.rs) [a.tmps.getD i undef] [S.get i])(ts:List Tree):
  ∀(D:List Oper) (i:Nat) (us:List Tree) (S':St),ChainB w0 G0 ops c n i S' D us->(∀(k:Nat) (o:Oper),D[k]? =some o->ops[i+k]? =some o)->us=ts.drop i->S'=fO S (c.take i) (ts.take i)->i+D.length<=ops.size->i<=ts.length->StepsT Tryz.prog ops c a.tmps (RT G0 bx rv S.rs ts) (fun _=>none) (WT w0 w G0 S bx rv) (fun _ W W'=>Below W.heap.size W W') i D
 |[],i,us,S',h,_,_,_,_,_=>trivial
 |o::D,i,us,S',h,hops,hus,hS',hlen,hle=>by
  have Y:ops[i]? =some o:=hops 0 o Z;have b0:i<ops.size:=by simp only[Oi]at hlen;omega
  have b1:c.length=ops.size:=by rw[<-r];simp
  have a4:c[i]? =some o.dst:=by
   rw[<-r,O2];simp only[PJ,Y,PG]
  have d:=lQ (c.take i) (ts.take i) S;rw[<-hS']at d;have z:∀t G,us=t::G->G=ts.drop (i+1)/\ts[i]? =some t/\S'.put o.dst t=fO S (c.take (i+1)) (ts.take (i+1))/\i+1<=ts.length:=fun t G e=>by
   have A:ts.drop i=t::G:=by rw[<-hus,e]
   have p:i<ts.length:=by
    rcases OS i ts.length with h|h
    ·exact h
    rw[Ov h]at A;cases A
   rw[Ow p]at A;injection A with V h3
   refine⟨h3.symm,by rw[Og p,V],?_,p⟩;obtain⟨a1,X⟩:=Ok.1 a4;rw[OM a1,OM p,kk _ _ _ _ _ (by simp only[Ox];omega),X,V,hS']
  have H:∀s,(∀j,c[j]? =some (some s)->i<=j)->S'.get s=S.get s:=fun s K=>by
   rw[hS'];refine jQ _ _ _ s ?_;cases N:(c.take i).contains (some s)with
   |false=>rfl
   |true=>
    obtain⟨j,l,a9⟩:=Pv (O9.1 N);have A:(c.take i)[j]? =some (some s):=by rw[Og l,a9]
    obtain⟨V,h3⟩:=fJ A;have:=K j h3;omega
  have u:∀s j,c[j]? =some (some s)->j<i->∃t,ts[j]? =some t/\S'.get s=t:=fun s j l a0=>by
   have a2:j<ts.length:=by omega
   refine⟨ts[j],Og a2,?_⟩;rw[hS'];have a3:=kj i B;exact nA _ _ S a.tmps.size j s _ a3 (jb l a0) (jb (Og a2) a0)
  have M:∀(T:Nat->Value) (W:World),Given ops c a.tmps (RT G0 bx rv S.rs ts) (fun _=>none) (WT w0 w G0 S bx rv) i T W->∀s,(eG o.op).contains s=true->FT (en W G0 bx rv S'.rs) [T s] [S'.get s]:=fun T W E s K=>by
   rw[d.2.1];have U:yv ops c n i s=true:=by
    have A:=OD.1 m i (Qs.2 b0);simp only[Y]at A;exact OD.1 A s (O9.1 K)
   unfold yv at U;cases P:eX s c with
   |none=>
    have J:=gl P;rw[E.keep s J,H s (fun j l=>by
     have:=O9.2 (Om l);rw[J]at this;cases this)]
    exact(y s).later E.wi.2
   |some j=>
    have l:=fy P;simp only[P]at U;split at U
    ·next p=>
     obtain⟨t,Q,he⟩:=u s j l p;have:=E.fact n j s (by simp only[Oo,bne_iff_ne,beq_iff_eq];exact⟨⟨⟨by omega,U⟩,Z⟩,l⟩);unfold RT at this;rw[OE,Q,OW]at this;rw[he];exact this
    next hge=>
    rw[E.old n j s (by simp only[Oo,beq_iff_eq];exact⟨U,l⟩),H s (fun j' a5=>by
     rw[ii B a5 l];omega)]
    exact(y s).later E.wi.2
  have f:∀(k:Nat) (o:Oper),D[k]? =some o->ops[i+1+k]? =some o:=fun k x P=>by have:=hops (k+1) x (by simpa using P);rw[show i+1+k=i+(k+1) by omega,this]
  have g:i+1+D.length<=ops.size:=by simp only[Oi]at hlen;omega
  have I:∀t,DV w0 G0 o S' t->ts[i]? =some t->∀(T:Nat->Value) (W:World),Given ops c a.tmps (RT G0 bx rv S.rs ts) (fun _=>none) (WT w0 w G0 S bx rv) i T W->OpRuns Tryz.prog o T W fun v W'=>RT G0 bx rv S.rs ts i v W'/\Below W.heap.size W W':=fun t q Q T W E=>by
   have:=q bx rv W T (by rw[d.1,d.2.1];exact E.wi.1) (M T W E);rw[d.2.1]at this;unfold RT;rw[OE,Q,OW];exact this
  have F:∀j s R,(j !=i&&reach ops n i j&&decide (j<i)&&c[j]? ==some (some s))=true->S'.get s=.sc R->(j !=i&&reach ops n i j&&(none:Option Nat)==none&&c[j]? ==some (some s))=true/\∀v W,RT G0 bx rv S.rs ts j v W->v=R:=fun j s R l hS=>by
   simp only[Oo,bne_iff_ne,beq_iff_eq,decide_eq_true_eq]at l⊢;obtain⟨⟨⟨A,V⟩,h3⟩,h4⟩:=l;refine⟨⟨⟨⟨A,V⟩,trivial⟩,h4⟩,fun v W L=>?_⟩;obtain⟨t,Q,he⟩:=u s j h4 h3;unfold RT at L;rw[OE,Q,OW,<-he,hS]at L;exact L.isSc
  cases h with
  | @op _ _ _ _ t ts' hg q K=>
   obtain⟨e1,O,e3,e4⟩:=z t ts' rfl;exact .cons (by rw[hg];trivial) (I t q O) (jz B m r y ts D (i+1) ts' _ K f e1 e3 g e4)
  | @cnd _ _ _ _ t ts' j b s C _ hg l E q K=>
   obtain⟨R,hS,hC⟩:=E;obtain⟨e1,O,e3,e4⟩:=z _ ts' rfl;obtain⟨g1,g2⟩:=F j s R l hS;by_cases N:C
   ·rw[if_pos N]at O;exact .cons (by rw[hg];exact⟨n,s,g1,fun v W L=>(g2 v W L).trans (hC.1 N)⟩) (I t (q N) O) (jz B m r y ts D (i+1) ts' _ K f e1 e3 g e4)
   rw[if_neg N]at O;refine .skip n s hg g1 (fun v W L e=>N (hC.2 ((g2 v W L).symm.trans e))) (fun W=>?_) (jz B m r y ts D (i+1) ts' _ K f e1 e3 g e4);unfold RT;rw[OE,O,OW];exact .pure (.sc _ .nil) .nil
theorem EV{id n:Nat}{ops:List Oper}{b:List (Option Nat)}{ts:List Tree}(r:fE ops.toArray=true)(p:ops.map (·.dst)=b)(c:b7 S.n b=true)(d:mY ops.toArray b n=true)(f:ChainB w0 G0 ops.toArray b n 0 S ops ts)(k:Q .normal (fO S b ts)):AWP w0 G0 (.region id ops.toArray true) Q S:=by
 rintro a w ⟨bx,rv,A,l,q,e⟩;have m:b.length=ops.length:=by rw[<-p];simp
 have g:=jz (w0:=w0) (G0:=G0) (S:=S) (w:=w) (bx:=bx) (rv:=rv) (a:=a) (by rw[l];exact c) d (by simpa using p) e ts ops 0 ts S f (fun k o y=>by simpa using y) Z Z (by simp) (OA _);refine mX b (RT G0 bx rv S.rs ts) (fun _=>none) (WT w0 w G0 S bx rv) (fun _ W W'=>Below W.heap.size W W') (by kernel_rfl) r (by simpa using p) (by rw[l];exact c)
  (fun _ W W' s x=>⟨s.1.later x,s.2.trans (x.mono s.2.size)⟩) (fun _ j v W W' _ _ h z=>FT.later h z) ⟨A.later (Below.refl _ _).drew,(Below.refl _ _).drew⟩ (by simpa using g) ?_
 intro us W t h u;exact⟨_,k,xn c l q t (by rw[m];exact f.length.symm) u.1 (fun i=>(e i).later u.2) (fun j B=>h j (by simp;omega) Z)⟩
theorem dL{ops:Array Oper}{a:List (Option Nat)}{n i:Nat}{S:St}{o:Oper}{b:List Oper}{t:Tree}{ts:List Tree}(c:o.guard=none)(h:OpOK o S t)(d:ChainB w0 G0 ops a n (i+1) (S.put o.dst t) b ts):ChainB w0 G0 ops a n i S (o::b) (t::ts):=.op c (h w0 G0) d
theorem Ce{id fu n:Nat}{sl:List (Nat×Tree)}{bs:List (TypeId×List Tree)}{rs:List (Option Row)}{ops:List Oper}(a:List (Option Nat))(ts:List Tree){sl':List (Nat×Tree)}(d:fE ops.toArray=true)(g:ops.map (·.dst)=a)(e:b7 n a=true)(b:mY ops.toArray a fu=true)(c:jq sl a ts=sl')(f:ChainB w0 G0 ops.toArray a fu 0 ⟨n,sl,bs,rs⟩ ops ts)(k:Q .normal ⟨n,sl',bs,rs⟩):AWP w0 G0 (.region id ops.toArray true) Q ⟨n,sl,bs,rs⟩:=
 EV d g e b f (by rw[kX,c];exact k)
theorem zK{G:Nat->Prop}{o:Oper}{t:TypeId}{s b off:Nat}{u:Value}(c:o.op=.load t (.tmp s))(j:S.get s=.sc (.pointer (some ⟨b,off,none⟩)))(f:ja Tryz.prog t=true)(e:b<w0.heap.size)(g:w0.cell? ⟨b,off,none⟩=some u):DV w0 (pln G) o S (.sc u):=by
 intro bx rv w T k i;have h:T s=.pointer (some ⟨b,off,none⟩):=by
  have d:=i s (by rw[c];simp[eG,Op.operands]);rw[j]at d;exact d.isSc
 have a:w.cell? ⟨b,off,none⟩=some u:=by rw[<-g];exact World.cell?_of_block (k.below.block b e id)
 exact aB (v:=u) (W':=w) (th c h f a) ⟨.pure (.sc _ .nil) .nil,Below.refl _ _⟩
theorem H3{b:World}{c:Nat->Prop}{Q:Exit->World->(Nat->Prop)->St->Prop}{S:St}{x y:Code}(I:St->Prop)(g:AWP b (pln c) x (fun e S=>e=.normal/\I S) S)(j:∀S,I S->BWP y Q b c S):BWP (.seq x y) Q b c S:=dj fun a w h=>wp_mono (g a w h) fun e k w' ⟨S',⟨i,f⟩,d⟩=>⟨b,c,S',by subst i;exact j S' f,d⟩
def nZ(A:Option Addr)(l c:Nat):Option Addr:=if c=l then A else A.map (·.add (l*1))
theorem EW{o:Oper}{x:Operand}{lo a:Option Operand}{t e:TypeId}{l h n c:Nat}{A:Option Addr}(i:o.op=.slice t x lo a none)(s:gS Tryz.prog t=some (e,1))(p:S.ev x=.sc (.slice A n c))(b:Lx S lo l)(f:Ly S n a h)(q:l<=h)(B:h<=n)(r:n<=c):OpOK o S (.sc (.slice (nZ A l c) (h-l) (c-l))):=by
 intro w0 G0 bx rv w T C m;have z:=(bH m p (by rw[i];simp[Op.operands])).isSc;have d:(lo.map (dm T)=none/\l=0)\/∃k,lo.map (dm T)=some (.int k l):=by
  cases lo with
  |none=>exact .inl ⟨Z,b⟩
  |some y=>
   obtain⟨k,j⟩:=b;exact .inr ⟨k,by rw[PG,(bH m j (by rw[i];simp[Op.operands])).isSc]⟩
 have g:(a.map (dm T)=none/\h=n)\/∃k,a.map (dm T)=some (.int k h):=by
  cases a with
  |none=>exact .inl ⟨Z,f⟩
  |some y=>
   obtain⟨k,j⟩:=f;exact .inr ⟨k,by rw[PG,(bH m j (by rw[i];simp[Op.operands])).isSc]⟩
 have u:=jM (P:=Tryz.prog) (w:=w) (A:=A) s (lo.map (dm T)) (a.map (dm T)) d g q B r;exact aB (v:=.slice (nZ A l c) (h-l) (c-l)) (W':=w) (by simp[execOp,i,z,u,nZ]) ⟨.pure (.sc _ .nil) .nil,Below.refl _ _⟩
theorem tX{w:World}{base:Nat}{e:TypeId}{A:Option Addr}{n c l h:Nat}{xs:List Value}(i:w.ownsRow base e 1 (.slice A n c) n xs)(t:l<=h)(z:h<=n):
  n<=c/\(nZ A l c=none->h-l=0/\c-l=0)/\∀a,nZ A l c=some a->∀j u,((xs.take h).drop l)[j]? =some u->w.cell? (a.add j)=some u:=by
 have s:=i.1;rcases i.2 with⟨d,m⟩|⟨g,p,cur,d,r,q,m,y,x,v⟩
 ·injection d with d _ k
  subst d k m;have o:∀l,nZ none l 0=none:=fun l=>by unfold nZ;split<;>rfl
  exact⟨Oh _,fun _=>by omega,fun a b=>by rw[o]at b;cases b⟩
 injection d with d _ k
 subst d k;refine⟨m,fun b=>?_,fun a b j u f=>?_⟩
 ·unfold nZ at b;split at b<;>cases b
 rw[PB,Ph]at f;split at f
 ·unfold nZ at b;split at b
  ·omega
  rw[PG,Addr.add_mid]at b;injection b with b
  subst b;rw[Addr.add_mid];have:=World.ownsRow.cells i (g:=g) Z _ _ f;rw[nY]at this;rw[show 0+l*1+j=l+j by omega];exact this
 cases f
def Nf:Tree->Bool
 | .sc _=>true
 |_=>false
theorem wh:∀{sl:List (Nat×Tree)},sl.all (fun p=>Nf p.2)=true->∀i,look sl i=.any\/∃v,look sl i=.sc v
 |[],_,_=>.inl Z
 |(j,t)::sl,h,i=>by
  simp only[PS,Oo]at h;rw[dD];split
  ·cases t<;>first|exact .inr ⟨_,Z⟩|cases h.1
  exact wh h.2 i
theorem mq{E:En}{x v:Value}(h:x=v):FT E [x] [.sc v]:=by subst h;exact .pure (.sc _ .nil) .nil
theorem Sim.lits{f w w':World}{j:Nat->Prop}{n:Nat}{sl:List (Nat×Tree)}{a:Act}(h:Sim f (pln j) ⟨n,sl,[],[]⟩ a w)(m:Env w')(c:sl.all (fun p=>Nf p.2)=true):Sim w' (pln fun _=>False) ⟨n,sl,[],[]⟩ a w':=by
 obtain⟨_,_,_,o,k,l⟩:=h.facts;refine Sim.mk m (fun g d=>d.elim) o k fun i=>?_
 have b:=l i;rcases wh c i with e|⟨v,e⟩
 ·rw[e];exact .any _ .nil
 rw[e]at b⊢;exact mq b.isSc
theorem Cf{w:World}{base:Nat}{e i:TypeId}{sz n d:Nat}{v:Value}{xs:List Value}{c:Array Value}{f:Nat×Nat}(j:w.ownsRow base e sz v n xs)(a:w.heap[d]? =some (.cells c i f))(b:e≠i):v.ownBlock≠some d:=fun h=>by
 rcases j.2 with⟨rfl,_⟩|⟨g,o,cur,rfl,_,k,_⟩
 ·cases h
 injection h with h
 have m:g=d:=h;subst m;rw[k]at a;injection a with a
 injection a with _ l
 exact b l
end
structure GI (w0:World) (G0:Nat->Prop) (r:Rel) (m:Nat) (w1:World) (G1:Nat->Prop) (S:St) (i:Nat) (L:List (List Nat)) (K:List (List V)) (AO AK:Option Addr) (cO cK:Nat) (vs xs:List Value) (sl:List (Nat×Tree)):Prop where
 hi:i<=r.tups.length
 hm:m=r.tups.length-i
 st:dP r.sch ([],[]) 0 (r.tups.take i)=(K,L)
 side:Side w0 G0 w1 G1 (.slice AO L.length cO) vs L (.slice AK K.length cK) xs K
 hS:S=⟨63,sl,[],[]⟩
 s1:look sl 1=.ref (a7 r)
 s3:look sl 3=.sc (.slice AO L.length cO)
 s4:look sl 4=.sc (.slice AK K.length cK)
 s15:look sl 15=.sl (r.tups.map Tp.tree)
 s16:look sl 16=.sc (.int .i64 (r.tups.length:Nat))
 s17:look sl 17=.sc (.int .i64 (i:Nat))
def N3(w0:World)(G0:Nat->Prop)(r:Rel)(m:Nat)(w1:World)(G1:Nat->Prop)(S:St):Prop:=∃i L K AO AK cO cK vs xs sl,GI w0 G0 r m w1 G1 S i L K AO AK cO cK vs xs sl
theorem ik{s:Sch}{ts:List Tp}{i:Nat}{t:Tp}{K:List (List V)}{L:List (List Nat)}(a:dP s ([],[]) 0 (ts.take i)=(K,L))(c:ts[i]? =some t):dP s ([],[]) 0 (ts.take (i+1))=iI s (K,L) i t:=by
 obtain⟨b,rfl⟩:=Ok.1 c;rw[OM b,oh,a,Ox,Pk,PM (by omega)]
theorem kQ{α:Type}(l:List α)(x:α){p:Nat}(a:p<=l.length):l.insertIdx p x=l.take p++[x]++l.drop p:=by
 have h:=gV x (l.drop p) (l.take p);rw[Pz,Ox,PM a]at h;rw[h,O0];rfl
theorem tY{α:Type}(f:α->α){l:List α}{p:Nat}{x:α}(h:l[p]? =some x):l.modify p f=l.set p (f x):=by
 obtain⟨b,rfl⟩:=Ok.1 h;have c:=oH f l[p] (l.drop (p+1)) (l.take p);have a:(l.take p).length=p:=by rw[Ox];omega
 rw[<-Ow b,Pz,a]at c;rw[c,RC,if_pos b]
theorem H4{K:List (List V)}(h:Nd K)(k:List V):Nc K k:=fun a b x y i e c f=>by
 rcases OS a b with d|j
 ·obtain⟨g,rfl⟩:=Ok.1 e;obtain⟨l,rfl⟩:=Ok.1 c;exact kO (R5.1 h a b g l d) f
 obtain rfl:a=b:=by omega
 rw[e]at c;cases c;exact f
theorem zL(K:List (List V))(k:List V):bF K k<=K.length:=by
 unfold bF;exact(QL _).length_le
theorem rG:∀{cs:List Col} {vs us:List V},vs.length=cs.length->us.length=cs.length->(eu cs vs=[]↔eu cs us=[])
 |[],[],[],_,_=>Rh
 |[],_::_,_,h,_=>by simp at h
 |[],_,_::_,_,h=>by simp at h
 |_::_,[],_,h,_=>by simp at h
 |_::_,_::_,[],_,h=>by simp at h
 |c::cs,v::vs,u::us,h,h'=>by
  have a:=rG (cs:=cs) (vs:=vs) (us:=us) (by simpa using h) (by simpa using h');rw[eu,eu];split
  ·simp
  exact a
theorem wj{s:Sch}{ts:List Tp}{i:Nat}{K:List (List V)}{L:List (List Nat)}(d:dP s ([],[]) 0 (ts.take i)=(K,L))(x:i<=ts.length)(n:∀t∈ts,t.vals.length=s.cols.length):
  L.length<=i/\K.length=L.length/\(∀b∈L,b.length<=i)/\(∀k∈K,k.length<=s.cols.length)/\((∃t∈ts,aJ s t.vals≠ [])->Nd K):=by
 have q:=mm (s:=s) (ts.take i) ([],[]) 0 ⟨Oh _,fun b p=>(by cases p)⟩;rw[d,Ox,Pk,PM x]at q;have A:∀(us:List Tp) (c:List (List V)×List (List Nat)) (j:Nat),c.1.length=c.2.length->(∀k∈c.1,k.length<=s.cols.length)->(dP s c j us).1.length=(dP s c j us).2.length/\∀k∈(dP s c j us).1,k.length<=s.cols.length:=by
  intro us;induction us with
  |nil=>intro c j h m;exact⟨h,m⟩
  |cons u us ih=>
   intro c j h m;refine ih _ _ ?_ ?_
   ·unfold iI;split
    ·simp[h]
    split
    ·simp[h]
    simp[Sw,h]
   intro k a;unfold iI at a;split at a
   ·rcases OZ.1 a with a|a
    ·exact m k a
    rw[OG.1 a];exact iQ _ _
   split at a
   ·exact m k a
   rcases kM a with a|rfl
   ·exact m k a
   exact iQ _ _
 have r:=A (ts.take i) ([],[]) 0 Z (fun k a=>by cases a);rw[d]at r;refine⟨q.1,r.1,fun b p=>(q.2 b p).1,r.2,fun⟨o,g,v⟩=>?_⟩;have l:∀t∈ts,aJ s t.vals≠ []:=fun t f e=>v (by
  have z:aJ s t.vals=eu s.cols t.vals:=by unfold aJ;rw[if_pos (n t f)]
  have y:aJ s o.vals=eu s.cols o.vals:=by unfold aJ;rw[if_pos (n o g)]
  rw[y,rG (n o g) (n t f)];rw[<-z];exact e)
 have w:=jx (s:=s) (ts.take i) [] ([],[]) ⟨Z,fun t f=>(by cases f),fun k a=>(by cases a),List.Pairwise.nil⟩ fun t f=>l t (OV f)
 rw[Ou,d]at w;exact w.srt
theorem rH{A:Option Addr}{n m c:Nat}(h:m=n):Tree.sc (.slice A n c)=.sc (.slice A m c):=by rw[h]
theorem ln{w0 a:World}{G0 f:Nat->Prop}{A B:Option Addr}{n m e b c d:Nat}{vs xs:List Value}{L:List (List Nat)}{K:List (List V)}(g:e=n)(i:b=m)(h:Side w0 G0 a f (.slice A n c) vs L (.slice B m d) xs K):Side w0 G0 a f (.slice A e c) vs L (.slice B b d) xs K:=by subst g i;exact h
theorem zM:(Tryz.prog.info? 3).map (fun i=>(i.zero,i.size,i.bytes))=some (some (.int .i64 0),1,8):=by kernel_rfl
theorem cA:gS Tryz.prog 98=some (23,1):=by kernel_rfl
theorem mr:ja Tryz.prog 23=true:=by kernel_rfl
theorem tZ:(Tryz.prog.info? 23).map (·.size)=some 1:=by kernel_rfl
theorem ms:gJ Tryz.prog 23=some [.slice none 0 0]:=by kernel_rfl
theorem t6:gJ Tryz.prog 61=some [.slice none 0 0]:=by kernel_rfl
theorem EX(r:Rel)(h:FitR r)(l1:∀t∈r.tups,t.vals.length=r.sch.cols.length):Ct 65 [r.tree] (.sl ((bf r).map jo)):=by
 refine Ct.of (n:=63) Tryz.func65 Z Z Z Z Z fun w0 G0=>?_
 refine ab<|ae<|aa 1 Z<|ag (t:=.sl []) Z Z Z (bI (.inr Z) bQ)<|af<|ab<|ab<|aj 3 Z<|aH Z (fun f6=>?_) (fun f6=>?_)
 ·have c0:=f6;refine ab<|ae<|ag (t:=.sl []) Z Z Z (bI (.inr Z) bQ)<|af<|ax<|⟨.inr Z,_,.cons Z .nil,by unfold bf;rw[c0];rfl,Z⟩
 have c0:=f6;refine ar<|ab<|aj 1 Z<|ab<|aj 1 Z<|ab<|ab<|ae<|aa 2 Z<|ag (t:=nI r.tups.length) Z Z Z (ah (aW Z aM Z) (by simp only[Ol]))<|aa 1 Z<|af<|aA<|Dw<|m9 fun a w k=>?_
 obtain⟨f8,g0,l9,f7,d1⟩:=k.unbox (ty:=30) (l:=[(1,.ref (a7 r)),(3,.sc (.slice none 0 0)),(4,.sc (.slice none 0 0)),(15,.sl (r.tups.map Tp.tree)),(16,nI r.tups.length),(17,nI 0)]) rfl rfl rfl ⟨.inr ⟨0,rfl,rfl⟩,.inl ⟨rfl,rfl⟩,.inl ⟨rfl,rfl⟩,.inl ⟨rfl,rfl⟩,.inl ⟨rfl,rfl⟩,.inl ⟨rfl,rfl⟩,trivial⟩;refine⟨w,G0,_,f8,?_⟩;clear k f8;refine yV (N3 w0 G0 r) r.tups.length ⟨0,[],[],none,none,0,0,[],[],_,OA _,Z,Z,⟨Nest.nil _ _,KeyR.nil _ _ _,fun b hb=>(by cases hb),fun b=>⟨.inl,fun h=>h.elim id fun h=>h.elim (fun h=>h.elim (fun h=>by cases h) fun⟨u,hu,_⟩=>by cases hu) fun h=>by cases h⟩,g0,l9,f7⟩,Z,Z,Z,Z,Z,Z,Z⟩ ?_;clear g0 d1 a w;rintro m w1 G1 S ⟨i,L,K,AO,AK,cO,cK,vs,xs,sl,hi,rfl,d2,d,rfl,s1,s3,s4,l8,k4,m1⟩;obtain⟨n2,h4,i2,l0,g4⟩:=wj d2 hi l1;have m4:=h.tups;refine pk [(1,.ref (a7 r)),(3,.sc (.slice AO L.length cO)),(4,.sc (.slice AK K.length cK)),(15,.sl (r.tups.map Tp.tree)),(16,nI r.tups.length),(17,nI i)] (.cons s1 Z (.cons s3 Z (.cons s4 Z (.cons l8 Z (.cons k4 Z (.cons m1 Z .nil))))))<|dj (BWP.of ?_);refine ae<|ag (t:=bT (decide (i<r.tups.length))) Z Z Z (ah (ai Z Z Z Zy) (au (gK i r.tups.length)))<|af ?_;show BWP _ _ w1 G1 _
 refine dj<|lf (b:=decide (i<r.tups.length)) Z (fun hc=>?_) (fun hc=>?_)
 ·replace hc:=of_decide_eq_true hc;obtain⟨t,d4⟩:∃t,r.tups[i]? =some t:=⟨_,Og hc⟩;have n1:=h.tup t (Om d4);refine ld ?_;show BWP _ _ w1 G1 _
  refine dj (vE ?_);refine dj (BWP.of ?_);refine ae<|aa 1 Z<|ag (t:=.ref (bY t)) Z Z Z (aK (Tp.tree t) Z aM Z Z Z (aX (f:=Tp.tree) d4) (bS _) Z)<|aa 4 Z<|af ?_;show BWP _ _ w1 G1 _
  refine dj (BWP.of ?_);refine ae<|aa 4 Z<|ag Z Z Z (ak Z (B4 r.sch t.vals h.cols) Z Z)<|aa 1 Z<|af ?_;show BWP _ _ w1 G1 _
  refine pk [(1,.ref (a7 r)),(3,.sc (.slice AO L.length cO)),(4,.sc (.slice AK K.length cK)),(15,.sl (r.tups.map Tp.tree)),(16,nI r.tups.length),(17,nI i),(5,nI i),(7,.sl ((aJ r.sch t.vals).map V.tree))] (.cons Z Z (.cons Z Z (.cons Z Z (.cons Z Z (.cons Z Z (.cons Z Z (.cons Z Z (.cons Z Z .nil))))))))<|dj (BWP.of ?_);refine ae<|aa 1 Z<|ag (t:=nI L.length) Z Z Z (yW Z cA Z)<|aa 1 Z<|af ?_;show BWP _ _ w1 G1 _
  refine dj (dj (BWP.of ?_));refine ae<|aa 1 Z<|ag (t:=nI ((aJ r.sch t.vals).length)) Z Z Z (ah (aW Z bw Z) (by simp only[Ol]))<|ag (t:=bT (decide (0<(aJ r.sch t.vals).length))) Z Z Z (ah (ai Z Z Z Zy) (au (qH ((aJ r.sch t.vals).length) 0)))<|af ?_;show BWP _ _ w1 G1 _
  refine lf (b:=decide (0<(aJ r.sch t.vals).length)) Z (fun hk=>?_) (fun hk=>?_)
  ·replace hk:=of_decide_eq_true hk;have e4:(aJ r.sch t.vals)≠ []:=fun e=>by rw[e]at hk;simp at hk
   have l6:=g4 ⟨t,Om d4,e4⟩;have l5:(aJ r.sch t.vals).length<=65536:=Oq (iQ _ _) h.cols;have h9:=zL K (aJ r.sch t.vals);refine dj (fP ?_);refine co (t:=.sc (.slice AK K.length cK)) Z Z Z (av Z Z)<|co (t:=.sl ((aJ r.sch t.vals).map V.tree)) Z Z Z (av Z Z)<|BI (t:=.tup [nI (bF K (aJ r.sch t.vals)),bT ((K[bF K (aJ r.sch t.vals)]?).any fun x=>bg x (aJ r.sch t.vals)==0)]) Z Z Z Z Tryz.func126 Z Z (fun a w k=>?_) ?_
   ·obtain⟨d1,a5,y,-⟩:=k.facts;have o:=d.later y;have D:=k.slot (i:=34) (t:=.sl ((aJ r.sch t.vals).map V.tree)) Z Z;rw[k.lit (v:=.slice AK K.length cK) Z];have h3:∀b,¬G1 b->¬(G0 b\/NB (.slice AO L.length cO) vs b):=fun b hG h2=>hG ((d.g1 b).2 (h2.elim .inl fun h=>.inr (.inl h)))
    have l2:=o.keys.pt h3 fun g hg h2=>h2.elim (fun h=>by have:=(d.key g hg).1;have:=(d.ok0 g h).1;omega) (d.kn g hg)
    refine((Me K (aJ r.sch t.vals) (by omega) (H4 l6 _) (fun x hx=>Oq (l0 x hx) h.cols) l5).2 (fun b=>G0 b\/NB (.slice AO L.length cO) vs b) w _ d1 (fun g hg=>a5 g ((d.g1 g).2 (hg.elim .inl fun h=>.inr (.inl h)))) (l2.cons ((D.sub h3).cons (.sc _ .nil)))).mono ?_;rintro e w' ⟨v,rfl,hv,hb⟩;refine⟨v,Z,?_,hb⟩;cases hv with
    |tup us _ hx _=>
     cases hx with
     |sc _ hx=>
      cases hx with
      |sc _ hx=>
       cases hx;exact .tup _ _ (.sc _ (.sc _ .nil)) .nil
   refine co (t:=.tup [nI (bF K (aJ r.sch t.vals)),bT ((K[bF K (aJ r.sch t.vals)]?).any fun x=>bg x (aJ r.sch t.vals)==0)]) Z Z Z (av Z Z)<|co (t:=nI (bF K (aJ r.sch t.vals))) Z Z Z (ef Z Z Z)<|co (t:=bT ((K[bF K (aJ r.sch t.vals)]?).any fun x=>bg x (aJ r.sch t.vals)==0)) Z Z Z (ef Z Z Z)<|co (t:=nI (bF K (aJ r.sch t.vals))) Z Z Z (bE Z Z)<|co (t:=bT ((K[bF K (aJ r.sch t.vals)]?).any fun x=>bg x (aJ r.sch t.vals)==0)) Z Z Z (bE Z Z)<|iv ?_;show BWP _ _ w1 G1 _
   refine dj (dj (BWP.of ?_));refine aj 1 Z ?_;show BWP _ _ w1 G1 _
   refine lf (b:=((K[bF K (aJ r.sch t.vals)]?).any fun x=>bg x (aJ r.sch t.vals)==0)) Z (fun hf=>?_) (fun hf=>?_)
   ·have m2:bF K (aJ r.sch t.vals)<K.length:=by
     rcases OS (bF K (aJ r.sch t.vals)) K.length with h|h
     ·exact h
     rw[Pi h]at hf;cases hf
    obtain⟨g,rfl⟩:∃g,AO=some ⟨g,0,none⟩:=by
     rcases d.nest.row.2 with⟨_,hn⟩|⟨g,o1,cur,hv,_⟩
     ·omega
     injection hv with h1;exact⟨g,h1⟩
    have m3:=d.nest.len;obtain⟨u,d3⟩:∃u,vs[bF K (aJ r.sch t.vals)]? =some u:=⟨_,Og (by omega)⟩;obtain⟨l,e6⟩:∃l,L[bF K (aJ r.sch t.vals)]? =some l:=⟨_,Og (by omega)⟩;have n0:=i2 l (Om e6);refine dj (fP ?_);refine co (t:=.sc (.slice (some ⟨g,0,none⟩) L.length cO)) Z Z Z (av Z Z)<|co (t:=nI (bF K (aJ r.sch t.vals))) Z Z Z (av Z Z)<|co (t:=.sc (.slice (some ⟨g,0,none⟩) L.length cO)) Z Z Z (av Z Z)<|co (t:=nI (bF K (aJ r.sch t.vals))) Z Z Z (av Z Z)<|co (t:=.sc (.pointer (some ⟨g,bF K (aJ r.sch t.vals),none⟩))) Z Z Z (lg (j:=bF K (aJ r.sch t.vals)) Z cA Z Z Z (by omega) (by simp))<|ti (u:=u) Z Z Z Z Z mr (d.nest.ok g (.inl Z)).2.1 ?_ ?_
    ·have:=World.ownsRow.cells d.nest.row (g:=g) Z _ _ d3;rwa[nY]at this
    refine co (t:=nI i) Z Z Z (av Z Z)<|gp Z Z Z Z cL iR (fun a w k=>by rw[k.lit (v:=.int .i64 (i:Nat)) Z];rfl) fun a w k=>?_
    rw[k.lit (v:=.int .i64 (i:Nat)) Z];obtain⟨-,-,y,-⟩:=k.facts;have p:(w.alloc (.cells #[.int .i64 (i:Nat)] 3)).heap[w.heap.size]? =some (.cells #[.int .i64 (i:Nat)] 3 (0,0)):=heap_alloc_new _ _;have g3:=(d.later y).later ((Below.refl w.heap.size w).alloc (Oh _) (.cells #[.int .i64 (i:Nat)] 3));have Y:=y.size;have H:(w.alloc (.cells #[.int .i64 (i:Nat)] 3)).heap.size=w.heap.size+1:=by simp
    obtain⟨wa,B⟩:∃wa,w.alloc (.cells #[.int .i64 (i:Nat)] 3)=wa:=⟨_,rfl⟩;rw[B]at p g3 H;rw[B];obtain⟨z,W⟩:∃z,w.heap.size=z:=⟨_,rfl⟩;rw[W]at p Y H;rw[W];clear k y B W a w;refine fT Z fun a w k=>?_
    obtain⟨-,-,E,-⟩:=k.facts;have o:=g3.later E;have h5:=o.nest.el _ u l d3 e6;have q:w.heap[z]? =some (.cells #[.int .i64 (i:Nat)] 3 (0,0)):=by rw[E.block z (by omega)];exact p
    obtain⟨_,_,l3,_⟩:=f5 q;obtain⟨i0,i5,l7,i9,i1⟩:=info_parts zM;obtain⟨u2,w2,h6,f0,X,g2,h8⟩:=lP (P:=Tryz.prog) w w0.heap.size 23 23 3 i0 (.int .i64 0) 1 8 Tryz.underlying23 i5 l7 i9 i1 rfl (by decide) u l.length (oI l) h5.1 (some ⟨z,0,none⟩) 1 1 [.int .i64 (i:Nat)] rfl (fun e=>by cases e) (fun b hb j x hj=>by
     injection hb with hb
     subst hb;cases j with
     |zero=>simp at hj;subst hj;exact l3
     |succ j=>simp at hj) (fun x hx=>by rw[OG.1 hx];rfl) (by unfold maxLen;omega) (by omega) (by have:=o.below.size;omega) (by decide) Z h5.2
    have h7:w2.ownsRow w0.heap.size 3 1 u2 (l.length+1) (oI (l++[i])):=by rw[show oI (l++[i])=oI l++[.int .i64 (i:Nat)] by simp[oI]];exact f0
    obtain⟨k1,k0,i4⟩:=o.app1 d3 X g2 h8 fun g hg=>(f0.lt g hg).2
    obtain⟨A2,c2,e7⟩:=bX f0;refine aB (v:=u2) (W':=w2) (lh (T:=fun s=>a.tmps.getD s undef) Z (k.lit Z) (k.lit Z) h6) ⟨w2,_,_,go (k.turn k0 k1 X.size i4) (by decide) (.pure (.sc u2 .nil) .nil),?_⟩;clear k E p q a;refine co (t:=.sc (.pointer (some ⟨g,bF K (aJ r.sch t.vals),none⟩))) Z Z Z (lg (j:=bF K (aJ r.sch t.vals)) Z cA Z Z Z (by omega) (by simp))<|fT Z fun a wb k=>?_
    obtain⟨-,-,I,-⟩:=k.facts;obtain⟨C,i3⟩:=o.app2 d3 e6 rfl h7 X g2 h8 (by rw[e7];rfl) I;have h0:=(o.nest.ok g (.inl Z)).2.1;have l4:wb.heap[g]? =w.heap[g]? :=by
     have h1:w2.heap[g]? =w.heap[g]? :=eC X h0 fun e=>o.nest.out u (Om d3) g e Z
     rw[I.block g (Oz h0 X.size)];exact h1
    have e8:=iB o.nest.row (w':=wb) fun b hb=>by injection hb with hb;subst hb;exact l4
    have k5:wb.cell? ⟨g,bF K (aJ r.sch t.vals),none⟩=some u:=by
     have:=World.ownsRow.cells e8 (g:=g) Z _ _ d3;rwa[nY]at this
    refine gd (W':=wb.setCell ⟨g,bF K (aJ r.sch t.vals),none⟩ u2) (rq (T:=fun s=>a.tmps.getD s undef) Z (k.lit Z) (k.lit Z) tZ (by rw[e7];rfl) k5 (dJ e8 _)) ⟨_,_,_,k.turn C.env C.okw (by simp[World.setCell]) i3,?_⟩;refine iv ?_;show BWP _ _ _ _ _
    refine m8 ?_;show BWP _ _ _ _ _
    refine BWP.of<|ae<|ag (t:=nI (i+1)) Z Z Z (ah (ai Z Z Z Zy) (bp (by omega)))<|aa 1 Z<|af<|⟨r.tups.length-(i+1),by omega,i+1,_,_,some ⟨g,0,none⟩,AK,cO,cK,_,_,_,by omega,Z,?_,ln (by simp) Z C,Z,Z,rH (by simp),Z,Z,Z,Z⟩;rw[ik d2 d4];unfold iI;rw[if_neg e4];simp only;rw[if_pos (c:=((K[bF K (aJ r.sch t.vals)]?).any fun x=>bg x (aJ r.sch t.vals)==0)=true) hf,tY _ e6]
   refine ld ?_;show BWP _ _ w1 G1 _
   refine BWP.of<|aj 2 Z ?_;show BWP _ _ w1 G1 _
   refine dj (fP ?_);refine co (t:=.sc (.slice AO L.length cO)) Z Z Z (av Z Z)<|co (t:=nI (bF K (aJ r.sch t.vals))) Z Z Z (av Z Z)<|co (t:=nI i) Z Z Z (av Z Z)<|lX Z Z Z Z cL iR (fun a w k=>by rw[k.lit (v:=.int .i64 (i:Nat)) Z];exact⟨Z,Z⟩) fun a w k=>?_
   rw[k.lit (v:=.int .i64 (i:Nat)) Z];obtain⟨-,-,y,-⟩:=k.facts;obtain⟨wa,B⟩:∃wa,w.alloc (.cells #[.int .i64 (i:Nat)] 3)=wa:=⟨_,rfl⟩;have a1:Below w1.heap.size w1 wa:=by rw[<-B];exact y.alloc y.size _
   have p:wa.heap[w.heap.size]? =some (.cells #[.int .i64 (i:Nat)] 3 (0,0)):=by rw[<-B];exact heap_alloc_new _ _
   have Y:=y.size;have H:wa.heap.size=w.heap.size+1:=by rw[<-B];simp
   rw[B];obtain⟨z,W⟩:∃z,w.heap.size=z:=⟨_,rfl⟩;rw[W]at p Y H;rw[W];clear k y B W a w;refine gp Z Z Z Z cA ms (fun a w k=>by rw[k.lit (v:=.slice (some ⟨z,0,none⟩) 1 1) Z];rfl) fun a w k=>?_
   rw[k.lit (v:=.slice (some ⟨z,0,none⟩) 1 1) Z];obtain⟨-,-,E,-⟩:=k.facts;obtain⟨wb,M⟩:∃wb,w.alloc (.cells #[.slice (some ⟨z,0,none⟩) 1 1] 23)=wb:=⟨_,rfl⟩;have a3:Below wa.heap.size wa wb:=by rw[<-M];exact E.alloc E.size _
   have Q:wb.heap[w.heap.size]? =some (.cells #[.slice (some ⟨z,0,none⟩) 1 1] 23 (0,0)):=by rw[<-M];exact heap_alloc_new _ _
   have b0:=E.size;have b2:wb.heap.size=w.heap.size+1:=by rw[<-M];simp
   rw[M];obtain⟨bB,c1⟩:∃bB,w.heap.size=bB:=⟨_,rfl⟩;rw[c1]at Q b0 b2;rw[c1];clear k E M c1 a w;refine lY Z Z Z Tryz.func127 Z Z fun a w k=>?_
   obtain⟨d1,a5,I,-⟩:=k.facts;have c5:Below w1.heap.size w1 w:=aF (aF a1 a3 a1.size) I (Oq a1.size a3.size);have q:w.heap[z]? =some (.cells #[.int .i64 (i:Nat)] 3 (0,0)):=by rw[I.block z (by omega),a3.block z (by omega)];exact p
   have O:w.heap[bB]? =some (.cells #[.slice (some ⟨z,0,none⟩) 1 1] 23 (0,0)):=by rw[I.block bB (by omega)];exact Q
   have o:=d.later c5;have hu:EIs w w0.heap.size (.slice (some ⟨z,0,none⟩) 1 1) [i]:=so q (by have:=d.below.size;omega);rw[k.lit (v:=.slice AO L.length cO) Z,k.lit (v:=.int .i64 ((bF K (aJ r.sch t.vals):Nat):Int)) Z,k.lit (v:=.slice (some ⟨bB,0,none⟩) 1 1) Z];refine(M7 w0.heap.size L.length (bF K (aJ r.sch t.vals)) bB (.slice AO L.length cO) (.slice (some ⟨z,0,none⟩) 1 1) 23 vs w o.nest.row O (fun e=>by have:=(d.nest.ok bB (.inl e)).2.1;omega) Z Z o.nest.rd o.ones.1 (by omega) (by omega) (by have:=d.below.size;have:=c5.size;omega)).mono ?_;rintro e w' ⟨v',rfl,G,F,a4,a9⟩;obtain⟨R,e5⟩:=d.insL c5 hu (fun g hg=>by have X:some z=some g:=hg;injection X with X;omega) G F a4 a9 (by omega);obtain⟨A2,c2,rfl⟩:=bX G;refine⟨_,rfl,w',_,_,go (k.turn R.env R.okw F.size fun b e9 hG=>e5 b e9 fun h=>hG (h.imp id fun e=>by injection e with e;exact e.symm)) (by decide) (.pure (.sc _ .nil) .nil),?_⟩;refine co (t:=.sc (.slice A2 (L.length+1) c2)) Z Z Z (bE Z Z)<|iv ?_;show BWP _ _ _ _ _
   clear k d1 a5 I o hu G F a4 a9 e5 q O p Q Y H b0 b2 a1 a3;refine fP<|co (t:=.sc (.slice AK K.length cK)) Z Z Z (av Z Z)<|co (t:=nI (bF K (aJ r.sch t.vals))) Z Z Z (av Z Z)<|co (t:=.sl ((aJ r.sch t.vals).map V.tree)) Z Z Z (av Z Z)<|gp Z Z Z Z jg t6 (fun a w k=>mn (k.slot (i:=58) (t:=jf (aJ r.sch t.vals)) Z Z) Z _ (OG.2 Z)) fun a w k=>?_
   have D:=k.slot (i:=58) (t:=jf (aJ r.sch t.vals)) Z Z;obtain⟨J,a0⟩:∃J,a.tmps.getD 58 undef=J:=⟨_,rfl⟩;rw[a0]at D;rw[a0];obtain⟨-,a5,d0,-⟩:=k.facts;have N:=(Below.refl w.heap.size w).alloc (Oh _) (.cells #[J] 61);have b1:=D.later N;have f1:J.oneCell'=true:=mn D Z _ (OG.2 Z);have f2:bG J=true:=by
    obtain⟨A,c,e,_⟩:=PT.slice (es:=(aJ r.sch t.vals).map V.tree) D;rw[e];rfl
   have U:(w.alloc (.cells #[J] 61)).heap[w.heap.size]? =some (.cells #[J] 61 (0,0)):=heap_alloc_new _ _;have e1:=(R.later d0).later N;have b3:(w.alloc (.cells #[J] 61)).heap.size=w.heap.size+1:=by simp
   have e2:=d0.size;obtain⟨wc,b4⟩:∃wc,w.alloc (.cells #[J] 61)=wc:=⟨_,rfl⟩;rw[b4]at U e1 b3 b1;rw[b4];obtain⟨bC,c4⟩:∃bC,w.heap.size=bC:=⟨_,rfl⟩;rw[c4]at U b3 e2;rw[c4];clear k a5 d0 N b4 a0 c4 D a w;refine lY Z Z Z Tryz.func128 Z Z fun a w k=>?_
   obtain⟨-,-,a2,-⟩:=k.facts;have C:=e1.later a2;have b5:w.heap[bC]? =some (.cells #[J] 61 (0,0)):=by rw[a2.block bC (by omega)];exact U
   have e3:=b1.later a2;have f9:=R.below.size;rw[k.lit (v:=.slice AK K.length cK) Z,k.lit (v:=.int .i64 ((bF K (aJ r.sch t.vals):Nat):Int)) Z,k.lit (v:=.slice (some ⟨bC,0,none⟩) 1 1) Z];refine(Nb w0.heap.size K.length (bF K (aJ r.sch t.vals)) bC (.slice AK K.length cK) J 61 xs w C.keys.row b5 (fun e=>by have:=(R.key bC e).2.1;omega) f1 f2 C.keys.rd C.ones.2 (by omega) (by omega) (by have:=a2.size;omega)).mono ?_;rintro e w3 ⟨v3,rfl,G,F,a4,a9⟩;obtain⟨c9,f3⟩:=C.insK e3 G F a4 a9 (by omega);obtain⟨A3,c3,rfl⟩:=bX G;refine⟨_,Z,w3,_,_,go (k.turn c9.env c9.okw F.size f3) (by decide) (.pure (.sc _ .nil) .nil),?_⟩;refine co (t:=.sc (.slice A3 (K.length+1) c3)) Z Z Z (bE Z Z)<|iv ?_;show BWP _ _ _ _ _
   refine BWP.of<|ae<|ag (t:=nI (i+1)) Z Z Z (ah (ai Z Z Z Zy) (bp (by omega)))<|aa 1 Z<|af<|⟨r.tups.length-(i+1),by omega,i+1,_,_,A2,A3,c2,c3,_,_,_,by omega,Z,?_,ln (by simp<;>omega) (by simp<;>omega) c9,Z,Z,rH (by simp<;>omega),rH (by simp<;>omega),Z,Z,Z⟩;rw[ik d2 d4];unfold iI;rw[if_neg e4];simp only;rw[if_neg (c:=((K[bF K (aJ r.sch t.vals)]?).any fun x=>bg x (aJ r.sch t.vals)==0)=true) (by rw[hf];exact Pd),kQ _ _ h9,kQ _ _ (by omega)]
  have k2:(aJ r.sch t.vals)=[]:=OB (by have:=of_decide_eq_false hk;omega);refine ld ?_;show BWP _ _ w1 G1 _
  refine dj (fP ?_);refine co (t:=.sc (.slice AO L.length cO)) Z Z Z (av Z Z)<|co (t:=nI L.length) Z Z Z (av Z Z)<|co (t:=nI i) Z Z Z (av Z Z)<|lX Z Z Z Z cL iR (fun a w k=>by rw[k.lit (v:=.int .i64 (i:Nat)) Z];exact⟨Z,Z⟩) fun a w k=>?_
  rw[k.lit (v:=.int .i64 (i:Nat)) Z];obtain⟨-,-,y,-⟩:=k.facts;obtain⟨wa,B⟩:∃wa,w.alloc (.cells #[.int .i64 (i:Nat)] 3)=wa:=⟨_,rfl⟩;have a1:Below w1.heap.size w1 wa:=by rw[<-B];exact y.alloc y.size _
  have p:wa.heap[w.heap.size]? =some (.cells #[.int .i64 (i:Nat)] 3 (0,0)):=by rw[<-B];exact heap_alloc_new _ _
  have Y:=y.size;have H:wa.heap.size=w.heap.size+1:=by rw[<-B];simp
  rw[B];obtain⟨z,W⟩:∃z,w.heap.size=z:=⟨_,rfl⟩;rw[W]at p Y H;rw[W];clear k y B W a w;refine gp Z Z Z Z cA ms (fun a w k=>by rw[k.lit (v:=.slice (some ⟨z,0,none⟩) 1 1) Z];rfl) fun a w k=>?_
  rw[k.lit (v:=.slice (some ⟨z,0,none⟩) 1 1) Z];obtain⟨-,-,E,-⟩:=k.facts;obtain⟨wb,M⟩:∃wb,w.alloc (.cells #[.slice (some ⟨z,0,none⟩) 1 1] 23)=wb:=⟨_,rfl⟩;have a3:Below wa.heap.size wa wb:=by rw[<-M];exact E.alloc E.size _
  have Q:wb.heap[w.heap.size]? =some (.cells #[.slice (some ⟨z,0,none⟩) 1 1] 23 (0,0)):=by rw[<-M];exact heap_alloc_new _ _
  have b0:=E.size;have b2:wb.heap.size=w.heap.size+1:=by rw[<-M];simp
  rw[M];obtain⟨bB,c1⟩:∃bB,w.heap.size=bB:=⟨_,rfl⟩;rw[c1]at Q b0 b2;rw[c1];clear k E M c1 a w;refine lY Z Z Z Tryz.func127 Z Z fun a w k=>?_
  obtain⟨d1,a5,I,-⟩:=k.facts;have c5:Below w1.heap.size w1 w:=aF (aF a1 a3 a1.size) I (Oq a1.size a3.size);have q:w.heap[z]? =some (.cells #[.int .i64 (i:Nat)] 3 (0,0)):=by rw[I.block z (by omega),a3.block z (by omega)];exact p
  have O:w.heap[bB]? =some (.cells #[.slice (some ⟨z,0,none⟩) 1 1] 23 (0,0)):=by rw[I.block bB (by omega)];exact Q
  have o:=d.later c5;have hu:EIs w w0.heap.size (.slice (some ⟨z,0,none⟩) 1 1) [i]:=so q (by have:=d.below.size;omega);rw[k.lit (v:=.slice AO L.length cO) Z,k.lit (v:=.int .i64 ((L.length:Nat):Int)) Z,k.lit (v:=.slice (some ⟨bB,0,none⟩) 1 1) Z];refine(M7 w0.heap.size L.length L.length bB (.slice AO L.length cO) (.slice (some ⟨z,0,none⟩) 1 1) 23 vs w o.nest.row O (fun e=>by have:=(d.nest.ok bB (.inl e)).2.1;omega) Z Z o.nest.rd o.ones.1 (Oh _) (by omega) (by have:=d.below.size;have:=c5.size;omega)).mono ?_;rintro e w' ⟨v',rfl,G,F,a4,a9⟩;obtain⟨R,e5⟩:=d.insL c5 hu (fun g hg=>by have X:some z=some g:=hg;injection X with X;omega) G F a4 a9 (Oh _);obtain⟨A2,c2,rfl⟩:=bX G;refine⟨_,rfl,w',_,_,go (k.turn R.env R.okw F.size fun b e9 hG=>e5 b e9 fun h=>hG (h.imp id fun e=>by injection e with e;exact e.symm)) (by decide) (.pure (.sc _ .nil) .nil),?_⟩;refine co (t:=.sc (.slice A2 (L.length+1) c2)) Z Z Z (bE Z Z)<|iv ?_;show BWP _ _ _ _ _
  clear k d1 a5 I o hu G F a4 a9 e5 q O p Q Y H b0 b2 a1 a3;refine fP<|co (t:=.sc (.slice AK K.length cK)) Z Z Z (av Z Z)<|co (t:=nI L.length) Z Z Z (av Z Z)<|co (t:=.sl ((aJ r.sch t.vals).map V.tree)) Z Z Z (av Z Z)<|gp Z Z Z Z jg t6 (fun a w k=>mn (k.slot (i:=58) (t:=jf (aJ r.sch t.vals)) Z Z) Z _ (OG.2 Z)) fun a w k=>?_
  have D:=k.slot (i:=58) (t:=jf (aJ r.sch t.vals)) Z Z;obtain⟨J,a0⟩:∃J,a.tmps.getD 58 undef=J:=⟨_,rfl⟩;rw[a0]at D;rw[a0];obtain⟨-,a5,d0,-⟩:=k.facts;have N:=(Below.refl w.heap.size w).alloc (Oh _) (.cells #[J] 61);have b1:=D.later N;have f1:J.oneCell'=true:=mn D Z _ (OG.2 Z);have f2:bG J=true:=by
   obtain⟨A,c,e,_⟩:=PT.slice (es:=(aJ r.sch t.vals).map V.tree) D;rw[e];rfl
  have U:(w.alloc (.cells #[J] 61)).heap[w.heap.size]? =some (.cells #[J] 61 (0,0)):=heap_alloc_new _ _;have e1:=(R.later d0).later N;have b3:(w.alloc (.cells #[J] 61)).heap.size=w.heap.size+1:=by simp
  have e2:=d0.size;obtain⟨wc,b4⟩:∃wc,w.alloc (.cells #[J] 61)=wc:=⟨_,rfl⟩;rw[b4]at U e1 b3 b1;rw[b4];obtain⟨bC,c4⟩:∃bC,w.heap.size=bC:=⟨_,rfl⟩;rw[c4]at U b3 e2;rw[c4];clear k a5 d0 N b4 a0 c4 D a w;refine lY Z Z Z Tryz.func128 Z Z fun a w k=>?_
  obtain⟨-,-,a2,-⟩:=k.facts;have C:=e1.later a2;have b5:w.heap[bC]? =some (.cells #[J] 61 (0,0)):=by rw[a2.block bC (by omega)];exact U
  have e3:=b1.later a2;have f9:=R.below.size;rw[k.lit (v:=.slice AK K.length cK) Z,k.lit (v:=.int .i64 ((L.length:Nat):Int)) Z,k.lit (v:=.slice (some ⟨bC,0,none⟩) 1 1) Z];refine(Nb w0.heap.size K.length L.length bC (.slice AK K.length cK) J 61 xs w C.keys.row b5 (fun e=>by have:=(R.key bC e).2.1;omega) f1 f2 C.keys.rd C.ones.2 (by omega) (by omega) (by have:=a2.size;omega)).mono ?_;rintro e w3 ⟨v3,rfl,G,F,a4,a9⟩;obtain⟨c9,f3⟩:=C.insK e3 G F a4 a9 (by omega);obtain⟨A3,c3,rfl⟩:=bX G;refine⟨_,Z,w3,_,_,go (k.turn c9.env c9.okw F.size f3) (by decide) (.pure (.sc _ .nil) .nil),?_⟩;refine co (t:=.sc (.slice A3 (K.length+1) c3)) Z Z Z (bE Z Z)<|iv ?_;show BWP _ _ _ _ _
  refine BWP.of<|ae<|ag (t:=nI (i+1)) Z Z Z (ah (ai Z Z Z Zy) (bp (by omega)))<|aa 1 Z<|af<|⟨r.tups.length-(i+1),by omega,i+1,_,_,A2,A3,c2,c3,_,_,_,by omega,Z,?_,ln (by simp<;>omega) (by simp<;>omega) c9,Z,Z,rH (by simp<;>omega),rH (by simp<;>omega),Z,Z,Z⟩;rw[ik d2 d4];unfold iI;rw[if_pos k2];simp only;rw[<-h4,Oy (Oh _),Ov (Oh _),h4,Oy (Oh _),Ov (Oh _),O5,O5]
 obtain rfl:i=r.tups.length:=by have:=of_decide_eq_false hc;omega
 rw[Pl]at d2;have k3:L=bf r:=by
  unfold bf;rw[if_neg (by rw[c0];exact Pd),d2]
 refine m9 fun a w k=>⟨w0,G0,⟨63,[(3,.sl ((bf r).map jo))],[],[]⟩,?_,m8 ?_⟩
 ·obtain⟨-,-,y,-⟩:=k.facts;have o:=d.later y;refine k.back d.e0 d.ok0 o.below ⟨?_,trivial⟩;show FT _ [a.tmps.getD 3 undef] _
  rw[k.lit (v:=.slice AO L.length cO) Z,<-k3];exact FT.gg (o.nest.pt fun g hg h2=>by have:=(d.nest.ok g hg).1;have:=(d.ok0 g h2).1;omega)
 refine⟨Z,Z,?_⟩;show AWP _ _ _ _ _
 refine ab<|aj 2 Z<|ax<|⟨.inr Z,_,.cons Z .nil,Z,Z⟩
end Go.Proofs.YtfoejfohbkmmeaaGreatDoor
