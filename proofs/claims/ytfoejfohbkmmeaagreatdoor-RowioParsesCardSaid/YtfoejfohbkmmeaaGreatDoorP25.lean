import Derived.Test.YtfoejfohbkmmeaaGreatDoorP10
import Derived.Test.YtfoejfohbkmmeaaGreatDoorP00
import Derived.Test.YtfoejfohbkmmeaaGreatDoorP24
namespace Go.Proofs.YtfoejfohbkmmeaaGreatDoor
open Go.RowKit
open Lib renaming hid→J
structure GivenR (l:List Oper) (dsts:List (Option Nat)) (t:Array Value) (F:List (Value->World->Prop)) (cons:List (Option Nat)) (B:Nat) (w:World) (I0:World->Prop) (c0 i:Nat) (T:Nat->Value) (W:World):Prop extends GivenC l dsts t F cons B w i T W where
 ini:(c0==i||p8 l c0 i)=true->I0 W
def FZ(P:Program)(l:List Oper)(dsts:List (Option Nat))(t:Array Value)(F:List (Value->World->Prop))(cons:List (Option Nat))(ap:List Nat)(B:Nat)(w:World)(I0:World->Prop)(c0:Nat)(i:Nat)(o:Oper):Prop:=
 wn l dsts F cons i o.guard/\∀(T:Nat->Value) (W:World),GivenR l dsts t F cons B w I0 c0 i T W->OpRuns P o T W fun v W'=>eL F i v W'/\BU B W W' (ap.contains i)
inductive StepsR (P:Program) (l:List Oper) (dsts:List (Option Nat)) (t:Array Value) (F:List (Value->World->Prop)) (cons:List (Option Nat)) (ap:List Nat) (B:Nat) (w:World) (I0:World->Prop) (c0:Nat):Nat->List Oper->Prop
 |nil {i:Nat}:StepsR P l dsts t F cons ap B w I0 c0 i []
 |cons' {i:Nat} {o:Oper} {r:List Oper} (h:FZ P l dsts t F cons ap B w I0 c0 i o) (hs:StepsR P l dsts t F cons ap B w I0 c0 (i+1) r):StepsR P l dsts t F cons ap B w I0 c0 i (o::r)
section
variable {P:Program} {l:List Oper} {dsts:List (Option Nat)} {t:Array Value} {F:List (Value->World->Prop)} {cs:List (Option Nat)} {ap:List Nat} {B:Nat} {w:World} {I0:World->Prop} {c0:Nat}
theorem StepsR.cons{i:Nat}{o:Oper}{r:List Oper}(b:wn l dsts F cs i o.guard)(h:∀(T:Nat->Value) (W:World),GivenR l dsts t F cs B w I0 c0 i T W->OpRuns P o T W fun v W'=>eL F i v W'/\BU B W W' (ap.contains i))
  (a:StepsR P l dsts t F cs ap B w I0 c0 (i+1) r):StepsR P l dsts t F cs ap B w I0 c0 i (o::r):=.cons' ⟨b,h⟩ a
theorem StepsR.at{n:Nat}{r:List Oper}(h:StepsR P l dsts t F cs ap B w I0 c0 n r):∀(k:Nat) (o:Oper),r[k]? =some o->FZ P l dsts t F cs ap B w I0 c0 (n+k) o:=by
 induction h with
 |nil=>intro k o h;simp at h
 |cons' h hs ih=>
  intro k o a;cases k with
  |zero=>
   simp only[MV,MK]at a;subst a;exact h
  |succ k=>
   have:=ih k o (by simpa using a);rwa[N5,NW 1 k]at this
theorem rp{id:Nat}{Q:Exit->Act->World->Prop}{a:Act}(dsts:List (Option Nat))(F:List (Value->World->Prop))(pf:List Bool)(cons:List (Option Nat))(ap:List Nat)(B:Nat)(I0:World->Prop)(c0:Nat)(a0:I0 w.drew)(hI:∀W W',I0 W->Below W.heap.size W W'->I0 W')(a1:(ap.all fun i=>i==c0||p8 l i c0)=true)
  (hm:P.follows .mixedOrders=true) (a3:e8 l.toArray=true) (hd:l.map (·.dst)=dsts) (A:b4 a.tmps.size dsts=true) (hB:B<=w.heap.size) (Y:∀W,Stab W F)
  (a9:PureF F pf) (O:(ap.all fun i=>(List.range l.length).all fun j=>pf.getD j true||BV l cons i j)=true)
  (M:StepsR P l dsts a.tmps F cons ap B w I0 c0 0 l)
  (X:∀(us:List Value) (W:World),us.length=dsts.length->(∀j,j<l.length->cons.getD j none=none->eL F j (us.getD j undef) W)->Below B w W->B<=W.heap.size->Q .normal ⟨cj a.tmps (dsts.zip us),a.defers⟩ W):(Code.region id l.toArray true).wp P Q a w:=by
 have b3:dsts.length=l.length:=by rw[<-hd];simp
 refine fJ (fun L a' W=>∃us,a'=⟨cj a.tmps (dsts.zip us),a.defers⟩/\L.size=l.length/\Closed l.toArray L/\MonoC F cons B w (gC a.tmps dsts) L us W/\(L.getD c0 false=false->I0 W)) hm a3 ⟨gC a.tmps dsts,?_,by simp,gi l.toArray,⟨Z,fun j d=>absurd d j9,fun _ _=>rfl,(Below.refl _ _).drew,hB⟩,fun _=>a0⟩ ?_ ?_
 ·rw[iB]
 ·rintro L a' W i o S h2 h3 h4 ⟨us,rfl,_,hc,n,U⟩;have S:L.size=l.length:=by simpa using S
  have K:l[i]? =some o:=by simpa using h3
  have hi:i<l.length:=(L6.1 K).1;have a2:dsts[i]? =some o.dst:=by rw[<-hd,MN,K];rfl
  have m:us.length=dsts.length:=by rw[n.len,dK]
  have y:L.getD i false=false:=getD_both h2;have t:=hc.step h3 h4;have N:∀j,j≠i->p8 l i j=true->L.getD j false=true:=fun j d z=>by
   have:=t.anc z (dX (by omega));rwa[cl (fun e=>d e.symm)]at this
  have E:∀j,p8 l j i=true->L.getD j false=false:=fun j z=>by
   cases hl:L.getD j false with
   |false=>rfl
   |true=>
    have:=hc.anc z hl;rw[y]at this;cases this
  have G:GivenC l dsts a.tmps F cons B w i (fun s=>(cj a.tmps (dsts.zip us)).getD s undef) W:=by
   refine⟨fun s g=>ez dsts us _ s g,fun j s g=>?_,fun j s g=>?_,n.below,n.size⟩
   ·simp only[L8,bne_iff_ne,beq_iff_eq]at g;obtain⟨⟨⟨d,z⟩,r⟩,g⟩:=g;show eL F j ((cj a.tmps (dsts.zip us)).getD s undef) W
    rw[(co dsts us _ j s A m g).1];refine n.fact j (N j d z) fun c k=>?_
    rw[zX,k]at r;simp only[MP,beq_iff_eq]at r;rcases r with rfl|r
    ·exact y
    exact E c r
   simp only[L8,MP,beq_iff_eq]at g;obtain⟨z,g⟩:=g;show(cj a.tmps (dsts.zip us)).getD s undef=_
   have d:L.getD j false=false:=by
    rcases z with rfl|z
    ·exact y
    exact E j z
   rw[(co dsts us _ j s A m g).1,n.old j d,jD _ _ _ _ g]
  obtain⟨hg,u⟩:FZ P l dsts a.tmps F cons ap B w I0 c0 i o:=by
   have:=M.at i o K;rwa[MT]at this
  have u:=u _ W ⟨G,fun h=>U (by
   simp only[MP,beq_iff_eq]at h;rcases h with rfl|h
   ·exact y
   exact E _ h)⟩
  have hw:Region.wanted o (yielded l.toArray (cj a.tmps (dsts.zip us)))=true:=by
   unfold Region.wanted;cases b1:o.guard with
   |none=>rfl
   |some p=>
    obtain⟨j,b⟩:=p;rw[b1]at hg;obtain⟨s,g,hR⟩:=hg;simp only[L8,bne_iff_ne,beq_iff_eq]at g;obtain⟨⟨⟨d,z⟩,r⟩,g⟩:=g;have hv:=hR _ _ (n.fact j (N j d z) fun c k=>by rw[r]at k;cases k);rw[<-(co dsts us _ j s A m g).1]at hv;have b0:=(co dsts us a.tmps j s A m g).2;have a5:(l.toArray[j]?).bind (·.dst)=some s:=by
     rw[<-hd,MN]at g;cases ho:l[j]? with
     |none=>simp[ho]at g
     |some oj=>simpa[ho]using g
    have:(cj a.tmps (dsts.zip us))[s]? =some (.bool b):=by
     have hz:s<(cj a.tmps (dsts.zip us)).size:=by rw[fb];exact b0
     simp only[MO,MC hz,MG]at hv;rw[MC hz,hv]
    simp only[yielded,a5,M9,this];cases b<;>rfl
  simp only[wpList];rw[if_pos hw];refine .inl<|Oper.wp_mono ?_ u.wp;rintro b2 R ⟨v,e,hR,D⟩;have V:Below B W R/\W.heap.size<=R.heap.size:=by
   cases I:ap.contains i with
   |true=>rw[I]at D;exact D
   |false=>
    rw[I]at D;exact⟨Below.mono D n.size,Below.size D⟩
  refine⟨us.set i v,?_,by simpa using S,t,⟨by simpa using n.len,fun j d k=>?_,fun j d=>?_,n.below.trans V.1,Ma n.size V.2⟩,fun d=>?_⟩
  ·rw[e];exact iX dsts us _ _ i _ v A m a2
  ·by_cases q:i=j
   ·subst q;have:(us.set i v).getD i undef=v:=by simp[List.getD,show i<us.length by omega]
    rw[this];exact hR
   have x:L.getD j false=true:=by rwa[cl q]at d
   have:(us.set i v).getD j undef=us.getD j undef:=by simp[List.getD,q]
   rw[this];have hf:eL F j (us.getD j undef) W:=n.fact j x fun c C=>by
    have:=k c C;by_cases T:i=c
    ·subst T;exact y
    rwa[cl T]at this
   cases I:ap.contains i with
   |false=>
    rw[I]at D;exact(Y W).get j _ _ _ (Below.refl _ _) hf D
   |true=>
    by_cases a4:j<l.length
    ·have H:=Mh.1 O i (by simpa using I);have f:=Mh.1 H j (N6.2 a4);rw[MP]at f;rcases f with f|f
     ·exact a9.get j _ _ _ f hf
     exfalso;unfold BV at f;simp only[MP,beq_iff_eq]at f;rcases f with(f|f)|f
     ·exact q f.symm
     ·rw[E j f]at x;cases x
     cases C:cons.getD j none with
     |none=>rw[C]at f;cases f
     |some c=>
      rw[C]at f;simp only[MP,beq_iff_eq]at f;have h7:=k c C;rcases f with rfl|f
      ·rw[dX (by omega)]at h7;cases h7
      rw[t.anc f (dX (by omega))]at h7;cases h7
    have hL:L.getD j false=false:=by simp[OM (show L.size<=j by omega)]
    rw[hL]at x;cases x
  ·by_cases q:i=j
   ·subst q;rw[dX (by omega)]at d;cases d
   rw[cl q]at d;have:(us.set i v).getD j undef=us.getD j undef:=by simp[List.getD,q]
   rw[this];exact n.old j d
  have J:i≠c0:=fun e=>by
   rw[e]at hi d;rw[dX (by omega)]at d;cases d
  rw[cl J]at d;cases I:ap.contains i with
  |false=>rw[I]at D;exact hI _ _ (U d) D
  |true=>
   exfalso;have H:=Mh.1 a1 i (by simpa using I);simp only[MP,beq_iff_eq]at H;rcases H with H|H
   ·exact J H
   have f:=N c0 (fun e=>J e.symm) H;rw[d]at f;cases f
 rintro L a' W S ⟨us,rfl,_,_,n,_⟩;exact X us W (by rw[n.len,dK]) (fun j d k=>n.fact j (S j (by simpa using d)) fun c t=>by rw[k]at t;cases t) n.below n.size
end
def Cr(w0:World)(G0:Bse)(o:Oper)(S:St)(t:Tree):Prop:=∀(bx:List Nat) (rv:List Value) (w:World) (T:Nat->Value),Mem w0 G0 S.bs S.rs bx rv w->
 (∀s,(ej o.op).contains s=true->FT (en w G0 bx rv S.rs) [T s] [S.get s])->OpRuns Tryz.prog o T w fun v w'=>FT (en w' G0 bx rv S.rs) [v] [t]/\Below w.heap.size w w'
inductive ChainB (w0:World) (G0:Bse) (ops:Array Oper) (dsts:List (Option Nat)) (n:Nat):Nat->St->List Oper->List Tree->Prop
 |nil {i:Nat} {S:St}:ChainB w0 G0 ops dsts n i S [] []
 |op {i:Nat} {S:St} {o:Oper} {os:List Oper} {t:Tree} {ts:List Tree} (hg:o.guard=none) (h:Cr w0 G0 o S t) (hs:ChainB w0 G0 ops dsts n (i+1) (S.put o.dst t) os ts):ChainB w0 G0 ops dsts n i S (o::os) (t::ts)
 |cnd {i:Nat} {S:St} {o:Oper} {os:List Oper} {t:Tree} {ts:List Tree} (j:Nat) (b:Bool) (s:Nat) (C:Prop) [Decidable C] (hg:o.guard=some (j,b)) (hj:(j !=i&&reach ops n i j&&decide (j<i)&&dsts[j]? ==some (some s))=true) (hG:∃gv,S.get s=.sc gv/\(C↔gv=.bool b)) (h:C->Cr w0 G0 o S t) (hs:ChainB w0 G0 ops dsts n (i+1) (S.put o.dst (if C then t else .sc undef)) os ts):ChainB w0 G0 ops dsts n i S (o::os) ((if C then t else .sc undef)::ts)
theorem ChainB.length{w0:World}{G0:Bse}{ops:Array Oper}{a:List (Option Nat)}{n i:Nat}{S:St}{b:List Oper}{ts:List Tree}(h:ChainB w0 G0 ops a n i S b ts):b.length=ts.length:=by induction h<;>simp_all
section
variable {w0:World} {G0:Bse} {Q:Exit->St->Prop} {S:St}
theorem jA{ops:Array Oper}{c:List (Option Nat)}{n:Nat}{a:Act}{w:World}{bx:List Nat}{rv:List Value}(A:b4 a.tmps.size c=true)(m:mp ops c n=true)(q:ops.toList.map (·.dst)=c)(z:∀i,FT (en w G0 bx rv S.rs) [a.tmps.getD i undef] [S.get i])(ts:List Tree):
  ∀(D:List Oper) (i:Nat) (us:List Tree) (S':St),ChainB w0 G0 ops c n i S' D us->(∀(k:Nat) (o:Oper),D[k]? =some o->ops[i+k]? =some o)->us=ts.drop i->S'=fq S (c.take i) (ts.take i)->i+D.length<=ops.size->i<=ts.length->StepsT Tryz.prog ops c a.tmps (RT G0 bx rv S.rs ts) (fun _=>none) (WT w0 w G0 S bx rv) (fun _ W W'=>Below W.heap.size W W') i D
 |[],i,us,S',h,_,_,_,_,_=>trivial
 |o::D,i,us,S',h,hops,hus,hS',hlen,hle=>by
  have Q:ops[i]? =some o:=hops 0 o Z;have a4:i<ops.size:=by simp only[L9]at hlen;omega
  have b0:c.length=ops.size:=by rw[<-q];simp
  have a5:c[i]? =some o.dst:=by
   rw[<-q,MN];simp only[Nj,Q,Nq]
  have d:=lB (c.take i) (ts.take i) S;rw[<-hS']at d;have B:∀t F,us=t::F->F=ts.drop (i+1)/\ts[i]? =some t/\S'.put o.dst t=fq S (c.take (i+1)) (ts.take (i+1))/\i+1<=ts.length:=fun t F e=>by
   have r:ts.drop i=t::F:=by rw[<-hus,e]
   have p:i<ts.length:=by
    rcases MA i ts.length with h|h
    ·exact h
    rw[Md h]at r;cases r
   rw[Mc p]at r;injection r with X h3
   refine⟨h3.symm,by rw[L3 p,X],?_,p⟩;obtain⟨a0,U⟩:=L6.1 a5;rw[Mx a0,Mx p,kf _ _ _ _ _ (by simp only[Mf];omega),U,X,hS']
  have J:∀s,(∀j,c[j]? =some (some s)->i<=j)->S'.get s=S.get s:=fun s K=>by
   rw[hS'];refine jM _ _ _ s ?_;cases N:(c.take i).contains (some s)with
   |false=>rfl
   |true=>
    obtain⟨j,f,a9⟩:=Nc (MM.1 N);have r:(c.take i)[j]? =some (some s):=by rw[L3 f,a9]
    obtain⟨X,h3⟩:=fe r;have:=K j h3;omega
  have y:∀s j,c[j]? =some (some s)->j<i->∃t,ts[j]? =some t/\S'.get s=t:=fun s j f Y=>by
   have a1:j<ts.length:=by omega
   refine⟨ts[j],L3 a1,?_⟩;rw[hS'];have a2:=ke i A;exact mV _ _ S a.tmps.size j s _ a2 (iZ f Y) (iZ (L3 a1) Y)
  have L:∀(T:Nat->Value) (W:World),Given ops c a.tmps (RT G0 bx rv S.rs ts) (fun _=>none) (WT w0 w G0 S bx rv) i T W->∀s,(ej o.op).contains s=true->FT (en W G0 bx rv S'.rs) [T s] [S'.get s]:=fun T W E s K=>by
   rw[d.2.1];have P:xz ops c n i s=true:=by
    have r:=Mh.1 m i (N6.2 a4);simp only[Q]at r;exact Mh.1 r s (MM.1 K)
   unfold xz at P;cases R:eK s c with
   |none=>
    have I:=fS R;rw[E.keep s I,J s (fun j f=>by
     have:=MM.2 (L7 f);rw[I]at this;cases this)]
    exact(z s).later E.wi.2
   |some j=>
    have f:=eX R;simp only[R]at P;split at P
    ·next p=>
     obtain⟨t,ht,he⟩:=y s j f p;have:=E.fact n j s (by simp only[L8,bne_iff_ne,beq_iff_eq];exact⟨⟨⟨by omega,P⟩,Z⟩,f⟩);unfold RT at this;rw[Mk,ht,MG]at this;rw[he];exact this
    next hge=>
    rw[E.old n j s (by simp only[L8,beq_iff_eq];exact⟨P,f⟩),J s (fun j' a3=>by
     rw[gV A a3 f];omega)]
    exact(z s).later E.wi.2
  have l:∀(k:Nat) (o:Oper),D[k]? =some o->ops[i+1+k]? =some o:=fun k x R=>by have:=hops (k+1) x (by simpa using R);rw[show i+1+k=i+(k+1) by omega,this]
  have g:i+1+D.length<=ops.size:=by simp only[L9]at hlen;omega
  have H:∀t,Cr w0 G0 o S' t->ts[i]? =some t->∀(T:Nat->Value) (W:World),Given ops c a.tmps (RT G0 bx rv S.rs ts) (fun _=>none) (WT w0 w G0 S bx rv) i T W->OpRuns Tryz.prog o T W fun v W'=>RT G0 bx rv S.rs ts i v W'/\Below W.heap.size W W':=fun t u ht T W E=>by
   have:=u bx rv W T (by rw[d.1,d.2.1];exact E.wi.1) (L T W E);rw[d.2.1]at this;unfold RT;rw[Mk,ht,MG];exact this
  have G:∀j s V,(j !=i&&reach ops n i j&&decide (j<i)&&c[j]? ==some (some s))=true->S'.get s=.sc V->(j !=i&&reach ops n i j&&(none:Option Nat)==none&&c[j]? ==some (some s))=true/\∀v W,RT G0 bx rv S.rs ts j v W->v=V:=fun j s V f hS=>by
   simp only[L8,bne_iff_ne,beq_iff_eq,decide_eq_true_eq]at f⊢;obtain⟨⟨⟨r,X⟩,h3⟩,h4⟩:=f;refine⟨⟨⟨⟨r,X⟩,trivial⟩,h4⟩,fun v W M=>?_⟩;obtain⟨t,ht,he⟩:=y s j h4 h3;unfold RT at M;rw[Mk,ht,MG,<-he,hS]at M;exact M.isSc
  cases h with
  | @op _ _ _ _ t ts' hg u K=>
   obtain⟨e1,O,e3,e4⟩:=B t ts' rfl;exact .cons (by rw[hg];trivial) (H t u O) (jA A m q z ts D (i+1) ts' _ K l e1 e3 g e4)
  | @cnd _ _ _ _ t ts' j b s C _ hg f E u K=>
   obtain⟨V,hS,hC⟩:=E;obtain⟨e1,O,e3,e4⟩:=B _ ts' rfl;obtain⟨g1,g2⟩:=G j s V f hS;by_cases N:C
   ·rw[if_pos N]at O;exact .cons (by rw[hg];exact⟨n,s,g1,fun v W M=>(g2 v W M).trans (hC.1 N)⟩) (H t (u N) O) (jA A m q z ts D (i+1) ts' _ K l e1 e3 g e4)
   rw[if_neg N]at O;refine .skip n s hg g1 (fun v W M e=>N (hC.2 ((g2 v W M).symm.trans e))) (fun W=>?_) (jA A m q z ts D (i+1) ts' _ K l e1 e3 g e4);unfold RT;rw[Mk,O,MG];exact .pure (.sc _ .nil) .nil
theorem DF{id n:Nat}{ops:List Oper}{b:List (Option Nat)}{ts:List Tree}(q:e8 ops.toArray=true)(g:ops.map (·.dst)=b)(c:b4 S.n b=true)(d:mp ops.toArray b n=true)(e:ChainB w0 G0 ops.toArray b n 0 S ops ts)(k:Q .normal (fq S b ts)):AWP w0 G0 (.region id ops.toArray true) Q S:=by
 rintro a w ⟨bx,rv,z,t,l,f⟩;have m:b.length=ops.length:=by rw[<-g];simp
 have p:=jA (w0:=w0) (G0:=G0) (S:=S) (w:=w) (bx:=bx) (rv:=rv) (a:=a) (by rw[t];exact c) d (by simpa using g) f ts ops 0 ts S e (fun k o y=>by simpa using y) Z Z (by simp) (Mp _);refine mo b (RT G0 bx rv S.rs ts) (fun _=>none) (WT w0 w G0 S bx rv) (fun _ W W'=>Below W.heap.size W W') (by kernel_rfl) q (by simpa using g) (by rw[t];exact c)
  (fun _ W W' h x=>⟨h.1.later x,h.2.trans (x.mono h.2.size)⟩) (fun _ j v W W' _ _ r A=>FT.later r A) ⟨z.later (Below.refl _ _).drew,(Below.refl _ _).drew⟩ (by simpa using p) ?_
 intro us W s r u;exact⟨_,k,vV c t l s (by rw[m];exact e.length.symm) u.1 (fun i=>(f i).later u.2) (fun j B=>r j (by simp;omega) Z)⟩
theorem dB{ops:Array Oper}{a:List (Option Nat)}{n i:Nat}{S:St}{o:Oper}{b:List Oper}{t:Tree}{ts:List Tree}(d:o.guard=none)(h:OpOK o S t)(c:ChainB w0 G0 ops a n (i+1) (S.put o.dst t) b ts):ChainB w0 G0 ops a n i S (o::b) (t::ts):=.op d (h w0 G0) c
theorem AQ{id fu n:Nat}{sl:List (Nat×Tree)}{bs:List (TypeId×List Tree)}{rs:List (Option Row)}{ops:List Oper}(a:List (Option Nat))(ts:List Tree){sl':List (Nat×Tree)}(f:e8 ops.toArray=true)(g:ops.map (·.dst)=a)(e:b4 n a=true)(b:mp ops.toArray a fu=true)(d:jm sl a ts=sl')(c:ChainB w0 G0 ops.toArray a fu 0 ⟨n,sl,bs,rs⟩ ops ts)(k:Q .normal ⟨n,sl',bs,rs⟩):AWP w0 G0 (.region id ops.toArray true) Q ⟨n,sl,bs,rs⟩:=
 DF f g e b c (by rw[kN,d];exact k)
theorem yp{G:Nat->Prop}{o:Oper}{t:TypeId}{s b off:Nat}{u:Value}(d:o.op=.load t (.tmp s))(g:S.get s=.sc (.pointer (some ⟨b,off,none⟩)))(k:jo Tryz.prog t=true)(i:b<w0.heap.size)(j:w0.cell? ⟨b,off,none⟩=some u):Cr w0 (pln G) o S (.sc u):=by
 intro bx rv w T e f;have h:T s=.pointer (some ⟨b,off,none⟩):=by
  have c:=f s (by rw[d];simp[ej,Op.operands]);rw[g]at c;exact c.isSc
 have a:w.cell? ⟨b,off,none⟩=some u:=by rw[<-j];exact World.cell?_of_block (e.below.block b i id)
 exact aC (v:=u) (W':=w) (r7 d h k a) ⟨.pure (.sc _ .nil) .nil,Below.refl _ _⟩
theorem F0{b:World}{c:Nat->Prop}{Q:Exit->World->(Nat->Prop)->St->Prop}{S:St}{x y:Code}(I:St->Prop)(j:AWP b (pln c) x (fun e S=>e=.normal/\I S) S)(g:∀S,I S->BWP y Q b c S):BWP (.seq x y) Q b c S:=ch fun a w i=>wp_mono (j a w i) fun e k w' ⟨S',⟨h,f⟩,d⟩=>⟨b,c,S',by subst h;exact g S' f,d⟩
def nB(A:Option Addr)(l c:Nat):Option Addr:=if c=l then A else A.map (·.add (l*1))
theorem DG{o:Oper}{x:Operand}{lo a:Option Operand}{t e:TypeId}{l h n c:Nat}{A:Option Addr}(i:o.op=.slice t x lo a none)(z:gN Tryz.prog t=some (e,1))(s:S.ev x=.sc (.slice A n c))(g:Jn S lo l)(b:Jo S n a h)(p:l<=h)(q:h<=n)(B:n<=c):OpOK o S (.sc (.slice (nB A l c) (h-l) (c-l))):=by
 intro w0 G0 bx rv w T C j;have r:=(bL j s (by rw[i];simp[Op.operands])).isSc;have d:(lo.map (dU T)=none/\l=0)\/∃k,lo.map (dU T)=some (.int k l):=by
  cases lo with
  |none=>exact .inl ⟨Z,g⟩
  |some y=>
   obtain⟨k,m⟩:=g;exact .inr ⟨k,by rw[Nq,(bL j m (by rw[i];simp[Op.operands])).isSc]⟩
 have f:(a.map (dU T)=none/\h=n)\/∃k,a.map (dU T)=some (.int k h):=by
  cases a with
  |none=>exact .inl ⟨Z,b⟩
  |some y=>
   obtain⟨k,m⟩:=b;exact .inr ⟨k,by rw[Nq,(bL j m (by rw[i];simp[Op.operands])).isSc]⟩
 have u:=jK (P:=Tryz.prog) (w:=w) (A:=A) z (lo.map (dU T)) (a.map (dU T)) d f p q B;exact aC (v:=.slice (nB A l c) (h-l) (c-l)) (W':=w) (by simp[execOp,i,r,u,nB]) ⟨.pure (.sc _ .nil) .nil,Below.refl _ _⟩
theorem sY{w:World}{base:Nat}{e:TypeId}{A:Option Addr}{n c l h:Nat}{xs:List Value}(m:w.ownsRow base e 1 (.slice A n c) n xs)(r:l<=h)(s:h<=n):
  n<=c/\(nB A l c=none->h-l=0/\c-l=0)/\∀a,nB A l c=some a->∀j u,((xs.take h).drop l)[j]? =some u->w.cell? (a.add j)=some u:=by
 have x:=m.1;rcases m.2 with⟨d,k⟩|⟨g,o,cur,d,y,v,k,q,t,z⟩
 ·injection d with d _ i
  subst d i k;have p:∀l,nB none l 0=none:=fun l=>by unfold nB;split<;>rfl
  exact⟨L4 _,fun _=>by omega,fun a b=>by rw[p]at b;cases b⟩
 injection d with d _ i
 subst d i;refine⟨k,fun b=>?_,fun a b j u f=>?_⟩
 ·unfold nB at b;split at b<;>cases b
 rw[Nh,MU]at f;split at f
 ·unfold nB at b;split at b
  ·omega
  rw[Nq,Addr.add_mid]at b;injection b with b
  subst b;rw[Addr.add_mid];have:=World.ownsRow.cells m (g:=g) Z _ _ f;rw[nA]at this;rw[show 0+l*1+j=l+j by omega];exact this
 cases f
def K7:Tree->Bool
 | .sc _=>true
 |_=>false
theorem uS:∀{sl:List (Nat×Tree)},sl.all (fun p=>K7 p.2)=true->∀i,look sl i=.any\/∃v,look sl i=.sc v
 |[],_,_=>.inl Z
 |(j,t)::sl,h,i=>by
  simp only[Ny,L8]at h;rw[cZ];split
  ·cases t<;>first|exact .inr ⟨_,Z⟩|cases h.1
  exact uS h.2 i
theorem kG{E:En}{x v:Value}(h:x=v):FT E [x] [.sc v]:=by subst h;exact .pure (.sc _ .nil) .nil
theorem Sim.lits{l w w':World}{o:Nat->Prop}{n:Nat}{sl:List (Nat×Tree)}{a:Act}(h:Sim l (pln o) ⟨n,sl,[],[]⟩ a w)(j:Env w')(m:sl.all (fun p=>K7 p.2)=true):Sim w' (pln fun _=>False) ⟨n,sl,[],[]⟩ a w':=by
 obtain⟨_,_,_,d,c,f⟩:=h.facts;refine Sim.mk j (fun g k=>k.elim) d c fun i=>?_
 have b:=f i;rcases uS m i with e|⟨v,e⟩
 ·rw[e];exact .any _ .nil
 rw[e]at b⊢;exact kG b.isSc
theorem AR{w:World}{base:Nat}{e i:TypeId}{sz n d:Nat}{v:Value}{xs:List Value}{c:Array Value}{f:Nat×Nat}(j:w.ownsRow base e sz v n xs)(a:w.heap[d]? =some (.cells c i f))(b:e≠i):v.ownBlock≠some d:=fun h=>by
 rcases j.2 with⟨rfl,_⟩|⟨g,k,cur,rfl,_,m,_⟩
 ·cases h
 injection h with h
 have l:g=d:=h;subst l;rw[m]at a;injection a with a
 injection a with _ o
 exact b o
end
end Go.Proofs.YtfoejfohbkmmeaaGreatDoor
