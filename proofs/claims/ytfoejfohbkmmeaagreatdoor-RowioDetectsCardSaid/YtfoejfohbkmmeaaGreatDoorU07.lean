import Derived.Test.YtfoejfohbkmmeaaGreatDoorU06
import Derived.Test.YtfoejfohbkmmeaaGreatDoorU00
namespace Go.Proofs.YtfoejfohbkmmeaaGreatDoor
open Go.RowKit
open Lib renaming hid→J
def eJ(s:Nat):List (Option Nat)->Option Nat
 |[]=>none
 |d::ds=>if d=some s then some 0 else(eJ s ds).map (· +1)
theorem eP{s:Nat}:∀{a:List (Option Nat)} {j:Nat},eJ s a=some j->a[j]? =some (some s)
 |[],j,h=>by simp[eJ]at h
 |d::a,j,h=>by
  simp only[eJ]at h;split at h
  ·next e=>cases h;subst e;rfl
  simp only[Na]at h;obtain⟨k,b,rfl⟩:=h;simpa using eP b
theorem fI{s:Nat}:∀{a:List (Option Nat)},eJ s a=none->a.contains (some s)=false
 |[],_=>rfl
 |d::a,h=>by
  simp only[eJ]at h;split at h
  ·cases h
  next e=>
  simp only[Pi]at h;simp only[OM,fI h,Bool.or_false,beq_eq_false_iff_ne];exact fun b=>e b.symm
theorem jL{n:Nat}:∀{a:List (Option Nat)} (i:Nat),bV n a=true->bV n (a.take i)=true
 |[],i,_=>by simp[bV]
 |d::a,0,_=>rfl
 |none::a,i+1,h=>by
  simp only[N5,bV]at h⊢;exact jL i h
 |some s::a,i+1,h=>by
  simp only[N5,bV,Ma,Nj]at h⊢;refine⟨⟨?_,h.1.2⟩,jL i h.2⟩;cases b:(a.take i).contains (some s)with
  |false=>rfl
  |true=>
   have:=MT.2 (MC (MT.1 b));rw[h.1.1]at this;cases this
def wM(ops:Array Oper)(dsts:List (Option Nat))(n i s:Nat):Bool:=
 match eJ s dsts with
 |none=>true
 |some j=>if j<i then reach ops n i j else reach ops n j i
def lX(ops:Array Oper)(dsts:List (Option Nat))(n:Nat):Bool:=(List.range ops.size).all fun i=>match ops[i]? with
 |some o=>(dN o.op).all (wM ops dsts n i)
 |none=>true
inductive Chain (ops:Array Oper) (dsts:List (Option Nat)) (n:Nat):Nat->St->List Oper->List Tree->Prop
 |nil {i:Nat} {S:St}:Chain ops dsts n i S [] []
 |op {i:Nat} {S:St} {o:Oper} {os:List Oper} {t:Tree} {ts:List Tree} (hg:o.guard=none) (h:OpOK o S t) (hs:Chain ops dsts n (i+1) (S.put o.dst t) os ts):Chain ops dsts n i S (o::os) (t::ts)
 |cnd {i:Nat} {S:St} {o:Oper} {os:List Oper} {t:Tree} {ts:List Tree} (j:Nat) (b:Bool) (s:Nat) (C:Prop) [Decidable C] (hg:o.guard=some (j,b)) (hj:(j !=i&&reach ops n i j&&decide (j<i)&&dsts[j]? ==some (some s))=true) (hG:∃gv,S.get s=.sc gv/\(C↔gv=.bool b)) (h:C->OpOK o S t) (hs:Chain ops dsts n (i+1) (S.put o.dst (if C then t else .sc undef)) os ts):Chain ops dsts n i S (o::os) ((if C then t else .sc undef)::ts)
def fk(S:St):List (Option Nat)->List Tree->St
 |d::ds,t::ts=>fk (S.put d t) ds ts
 |_,_=>S
theorem jM:∀(a:List (Option Nat)) (ts:List Tree) (S:St) (d:Option Nat) (t:Tree),a.length=ts.length->fk S (a++[d]) (ts++[t])=(fk S a ts).put d t
 |[],[],S,d,t,_=>rfl
 |_::a,_::ts,S,d,t,h=>jM a ts _ d t (by simpa using h)
theorem k6:∀(a:List (Option Nat)) (ts:List Tree) (S:St),(fk S a ts).bs=S.bs/\(fk S a ts).rs=S.rs/\(fk S a ts).n=S.n
 |[],_,S=>⟨Z,Z,Z⟩
 |_::_,[],S=>⟨Z,Z,Z⟩
 |d::a,t::ts,S=>by
  have:=k6 a ts (S.put d t);rw[dC,ch,eo]at this;exact this
theorem jr:∀(a:List (Option Nat)) (ts:List Tree) (S:St) (s:Nat),a.contains (some s)=false->(fk S a ts).get s=S.get s
 |[],_,S,s,_=>rfl
 |_::_,[],S,s,_=>rfl
 |d::a,t::ts,S,s,h=>by
  simp only[OM,Mz]at h;have:=jr a ts (S.put d t) s h.2;rw[dk,if_neg (fun e=>by rw[e]at h;simp at h)]at this;exact this
theorem mC:∀(a:List (Option Nat)) (ts:List Tree) (S:St) (n j s:Nat) (t:Tree),bV n a=true->a[j]? =some (some s)->ts[j]? =some t->(fk S a ts).get s=t
 |[],_,S,n,j,s,t,_,h,_=>by simp at h
 |_::_,[],S,n,j,s,t,_,_,h=>by simp at h
 |d::a,x::ts,S,n,0,s,t,ha,h,h'=>by
  simp only[MW,MN]at h h';subst h h';simp only[bV,Ma,Nj]at ha;show(fk (S.put (some s) x) a ts).get s=x
  rw[jr a ts _ s ha.1.1,dk,if_pos Z]
 |d::a,x::ts,S,n,j+1,s,t,ha,h,h'=>by
  have b:bV n a=true:=by
   cases d with
   |none=>exact ha
   |some _=>simp only[bV,Ma]at ha;exact ha.2
  exact mC a ts (S.put d x) n j s t b (by simpa using h) (by simpa using h')
theorem Chain.length{ops:Array Oper}{a:List (Option Nat)}{n i:Nat}{S:St}{b:List Oper}{ts:List Tree}(h:Chain ops a n i S b ts):b.length=ts.length:=by induction h<;>simp_all
theorem gA:∀{n:Nat} {a:List (Option Nat)} {j b s:Nat},bV n a=true->a[j]? =some (some s)->a[b]? =some (some s)->j=b
 |_,[],j,_,_,_,h,_=>by simp at h
 |n,d::a,0,0,s,_,_,_=>rfl
 |n,d::a,0,b+1,s,ha,h,c=>by
  simp only[MW,MN]at h;subst h;simp only[bV,Ma,Nj]at ha;have f:=L9 (i:=b) (by simpa using c:a[b]? =some (some s));have:=MT.2 f;rw[ha.1.1]at this;cases this
 |n,d::a,j+1,0,s,ha,h,c=>by
  simp only[MW,MN]at c;subst c;simp only[bV,Ma,Nj]at ha;have f:=L9 (i:=j) (by simpa using h:a[j]? =some (some s));have:=MT.2 f;rw[ha.1.1]at this;cases this
 |n,d::a,j+1,b+1,s,ha,h,c=>by
  have e:bV n a=true:=by
   cases d with
   |none=>exact ha
   |some _=>simp only[bV,Ma]at ha;exact ha.2
  rw[gA e (by simpa using h:a[j]? =_) (by simpa using c:a[b]? =_)]
section
variable {w0:World} {G0:Nat->Prop} {Q:Exit->St->Prop} {S:St}
def RT(G0:Nat->Prop)(bx:List Nat)(rv:List Value)(rs:List (Option Row))(ts:List Tree)(j:Nat)(v:Value)(W:World):Prop:=FT (en W G0 bx rv rs) [v] [ts.getD j .any]
def WT(w0 w:World)(G0:Nat->Prop)(S:St)(bx:List Nat)(rv:List Value)(W:World):Prop:=Mem w0 G0 S.bs S.rs bx rv W/\Below w.heap.size w W
theorem iH{ops:Array Oper}{c:List (Option Nat)}{n:Nat}{a:Act}{w:World}{bx:List Nat}{rv:List Value}(u:bV a.tmps.size c=true)(m:lX ops c n=true)(q:ops.toList.map (·.dst)=c)(r:∀i,FT (en w G0 bx rv S.rs) [a.tmps.getD i undef] [S.get i])(ts:List Tree):
  ∀(D:List Oper) (i:Nat) (us:List Tree) (S':St),Chain ops c n i S' D us->(∀(k:Nat) (o:Oper),D[k]? =some o->ops[i+k]? =some o)->us=ts.drop i->S'=fk S (c.take i) (ts.take i)->i+D.length<=ops.size->i<=ts.length->StepsT Tryz.prog ops c a.tmps (RT G0 bx rv S.rs ts) (fun _=>none) (WT w0 w G0 S bx rv) (fun _ W W'=>Below W.heap.size W W') i D
 |[],i,us,S',h,_,_,_,_,_=>trivial
 |o::D,i,us,S',h,hops,hus,hS',hlen,hle=>by
  have a1:ops[i]? =some o:=hops 0 o Z;have a9:i<ops.size:=by simp only[Mb]at hlen;omega
  have b0:c.length=ops.size:=by rw[<-q];simp
  have a4:c[i]? =some o.dst:=by
   rw[<-q,MQ];simp only[Np,a1,Nu]
  have d:=k6 (c.take i) (ts.take i) S;rw[<-hS']at d;have B:∀t G,us=t::G->G=ts.drop (i+1)/\ts[i]? =some t/\S'.put o.dst t=fk S (c.take (i+1)) (ts.take (i+1))/\i+1<=ts.length:=fun t G e=>by
   have y:ts.drop i=t::G:=by rw[<-hus,e]
   have p:i<ts.length:=by
    rcases MI i ts.length with h|h
    ·exact h
    rw[Mg h]at y;cases y
   rw[Md p]at y;injection y with h2 P
   refine⟨P.symm,by rw[L4 p,h2],?_,p⟩;obtain⟨Y,X⟩:=L7.1 a4;rw[Mq Y,Mq p,jM _ _ _ _ _ (by simp only[Mf];omega),X,h2,hS']
  have K:∀s,(∀j,c[j]? =some (some s)->i<=j)->S'.get s=S.get s:=fun s H=>by
   rw[hS'];refine jr _ _ _ s ?_;cases M:(c.take i).contains (some s)with
   |false=>rfl
   |true=>
    obtain⟨j,g,a5⟩:=Nb (MT.1 M);have y:(c.take i)[j]? =some (some s):=by rw[L4 g,a5]
    obtain⟨h2,P⟩:=e8 y;have:=H j P;omega
  have A:∀s j,c[j]? =some (some s)->j<i->∃t,ts[j]? =some t/\S'.get s=t:=fun s j g a0=>by
   have a2:j<ts.length:=by omega
   refine⟨ts[j],L4 a2,?_⟩;rw[hS'];have R:=jL i u;exact mC _ _ S a.tmps.size j s _ R (jq g a0) (jq (L4 a2) a0)
  have L:∀(T:Nat->Value) (W:World),Given ops c a.tmps (RT G0 bx rv S.rs ts) (fun _=>none) (WT w0 w G0 S bx rv) i T W->∀s,(dN o.op).contains s=true->FT (en W G0 bx rv S'.rs) [T s] [S'.get s]:=fun T W E s H=>by
   rw[d.2.1];have V:wM ops c n i s=true:=by
    have y:=Mh.1 m i (N1.2 a9);simp only[a1]at y;exact Mh.1 y s (MT.1 H)
   unfold wM at V;cases Q:eJ s c with
   |none=>
    have I:=fI Q;rw[E.keep s I,K s (fun j g=>by
     have:=MT.2 (L9 g);rw[I]at this;cases this)]
    exact(r s).later E.wi.2
   |some j=>
    have g:=eP Q;simp only[Q]at V;split at V
    ·next p=>
     obtain⟨t,U,he⟩:=A s j g p;have:=E.fact n j s (by simp only[Ma,bne_iff_ne,beq_iff_eq];exact⟨⟨⟨by omega,V⟩,Z⟩,g⟩);unfold RT at this;rw[Mm,U,MK]at this;rw[he];exact this
    next hge=>
    rw[E.old n j s (by simp only[Ma,beq_iff_eq];exact⟨V,g⟩),K s (fun j' a3=>by
     rw[gA u a3 g];omega)]
    exact(r s).later E.wi.2
  have f:∀(k:Nat) (o:Oper),D[k]? =some o->ops[i+1+k]? =some o:=fun k x Q=>by have:=hops (k+1) x (by simpa using Q);rw[show i+1+k=i+(k+1) by omega,this]
  have l:i+1+D.length<=ops.size:=by simp only[Mb]at hlen;omega
  have J:∀t,OpOK o S' t->ts[i]? =some t->∀(T:Nat->Value) (W:World),Given ops c a.tmps (RT G0 bx rv S.rs ts) (fun _=>none) (WT w0 w G0 S bx rv) i T W->OpRuns Tryz.prog o T W fun v W'=>RT G0 bx rv S.rs ts i v W'/\Below W.heap.size W W':=fun t z U T W E=>by
   have:=z w0 G0 bx rv W T (by rw[d.1,d.2.1];exact E.wi.1) (L T W E);rw[d.2.1]at this;unfold RT;rw[Mm,U,MK];exact this
  have F:∀j s gv,(j !=i&&reach ops n i j&&decide (j<i)&&c[j]? ==some (some s))=true->S'.get s=.sc gv->(j !=i&&reach ops n i j&&(none:Option Nat)==none&&c[j]? ==some (some s))=true/\∀v W,RT G0 bx rv S.rs ts j v W->v=gv:=fun j s gv g hS=>by
   simp only[Ma,bne_iff_ne,beq_iff_eq,decide_eq_true_eq]at g⊢;obtain⟨⟨⟨y,h2⟩,P⟩,h4⟩:=g;refine⟨⟨⟨⟨y,h2⟩,trivial⟩,h4⟩,fun v W N=>?_⟩;obtain⟨t,U,he⟩:=A s j h4 P;unfold RT at N;rw[Mm,U,MK,<-he,hS]at N;exact N.isSc
  cases h with
  | @op _ _ _ _ t ts' hg z H=>
   obtain⟨e1,O,e3,e4⟩:=B t ts' rfl;exact .cons (by rw[hg];trivial) (J t z O) (iH u m q r ts D (i+1) ts' _ H f e1 e3 l e4)
  | @cnd _ _ _ _ t ts' j b s C _ hg g E z H=>
   obtain⟨gv,hS,hC⟩:=E;obtain⟨e1,O,e3,e4⟩:=B _ ts' rfl;obtain⟨g1,g2⟩:=F j s gv g hS;by_cases M:C
   ·rw[if_pos M]at O;exact .cons (by rw[hg];exact⟨n,s,g1,fun v W N=>(g2 v W N).trans (hC.1 M)⟩) (J t (z M) O) (iH u m q r ts D (i+1) ts' _ H f e1 e3 l e4)
   rw[if_neg M]at O;refine .skip n s hg g1 (fun v W N e=>M (hC.2 ((g2 v W N).symm.trans e))) (fun W=>?_) (iH u m q r ts D (i+1) ts' _ H f e1 e3 l e4);unfold RT;rw[Mm,O,MK];exact .pure (.sc _ .nil) .nil
theorem Cw{a:Act}{b:List (Option Nat)}{us:List Value}(c:bV a.tmps.size b=true)(e:us.length=b.length)(s:Nat):(b8 a.tmps (b.zip us)).getD s undef=match eJ s b with|none=>a.tmps.getD s undef|some j=>us.getD j undef:=by
 cases d:eJ s b with
 |none=>exact eC b us _ s (fI d)
 |some j=>exact(cl b us _ j s c e (eP d)).1
theorem vo{a:Act}{W:World}{bx:List Nat}{rv:List Value}{b:List (Option Nat)}{us:List Value}{ts:List Tree}(d:bV S.n b=true)(m:a.tmps.size=S.n)(g:a.defers=[])(k:us.length=b.length)(s:ts.length=b.length)(q:Mem w0 G0 S.bs S.rs bx rv W)(h:∀i,FT (en W G0 bx rv S.rs) [a.tmps.getD i undef] [S.get i])(r:∀j,j<b.length->RT G0 bx rv S.rs ts j (us.getD j undef) W):Sim w0 G0 (fk S b ts) ⟨b8 a.tmps (b.zip us),a.defers⟩ W:=by
 have c:=k6 b ts S;refine⟨bx,rv,by rw[c.1,c.2.1];exact q,by rw[c.2.2,fy];exact m,g,fun i=>?_⟩;rw[c.2.1];show FT _ [(b8 a.tmps (b.zip us)).getD i undef] _
 rw[Cw (by rw[m];exact d) k];cases o:eJ i b with
 |none=>rw[jr b ts S i (fI o)];exact h i
 |some j=>
  have p:=eP o;have l:=(L7.1 p).1;have:=r j l;unfold RT at this;have f:j<ts.length:=by omega
  have e:ts.getD j .any=ts[j]:=by rw[Mm,L4 f,MK]
  rw[e]at this;rw[mC b ts S S.n j i _ d p (L4 f)];exact this
theorem Ec{id n:Nat}{ops:List Oper}{b:List (Option Nat)}{ts:List Tree}(g:dM ops.toArray=true)(r:ops.map (·.dst)=b)(c:bV S.n b=true)(e:lX ops.toArray b n=true)(f:Chain ops.toArray b n 0 S ops ts)(k:Q .normal (fk S b ts)):AWP w0 G0 (.region id ops.toArray true) Q S:=by
 rintro a w ⟨bx,rv,A,h,q,d⟩;have t:b.length=ops.length:=by rw[<-r];simp
 have s:=iH (w0:=w0) (G0:=G0) (S:=S) (w:=w) (bx:=bx) (rv:=rv) (a:=a) (by rw[h];exact c) e (by simpa using r) d ts ops 0 ts S f (fun k o z=>by simpa using z) Z Z (by simp) (Mx _);refine lW b (RT G0 bx rv S.rs ts) (fun _=>none) (WT w0 w G0 S bx rv) (fun _ W W'=>Below W.heap.size W W') (by kernel_rfl) g (by simpa using r) (by rw[h];exact c)
  (fun _ W W' p u=>⟨p.1.later u,p.2.trans (u.mono p.2.size)⟩) (fun _ j v W W' _ _ m y=>FT.later m y) ⟨A.later (Below.refl _ _).drew,(Below.refl _ _).drew⟩ (by simpa using s) ?_
 intro us W l m x;exact⟨_,k,vo c h q l (by rw[t];exact f.length.symm) x.1 (fun i=>(d i).later x.2) (fun j B=>m j (by simp;omega) Z)⟩
theorem OpRuns.mono{P:Program}{o:Oper}{T:Nat->Value}{W:World}{K a:Value->World->Prop}(h:OpRuns P o T W K)(b:∀v W,K v W->a v W):OpRuns P o T W a:=by
 unfold OpRuns at h⊢;generalize (execOp (cA T) o).run P W=r at h;cases r with
 |ok n w'=>
  cases n<;>first
   |exact b _ _ h
   |exact Calls.mono h (fun e d ⟨v,c,h⟩=>⟨v,c,b _ _ h⟩)
   |exact h.elim
 |halt x w'=>exact h.elim
theorem StepsT.plain{P:Program}{ops:Array Oper}{a:List (Option Nat)}{t:Array Value}{R:Nat->Value->World->Prop}{cons:Nat->Option Nat}{f:World->Prop}{c:Nat->World->World->Prop}:∀{d:List Oper} {i:Nat},StepsT P ops a t R cons f c i d->(d.all fun o=>o.guard.isNone)=true->Steps P ops a t R cons f c i d
 |[],_,_,_=>trivial
 |o::d,i,h,hg=>by
  simp only[NP,Ma]at hg;refine⟨?_,StepsT.plain h.2 hg.2⟩;rcases h.1 with e|⟨j,b,n,s,e,_⟩
  ·exact e
  rw[e]at hg;simp at hg
theorem vq{id n:Nat}{ops:List Oper}{c:Oper}{b:List (Option Nat)}{ts:List Tree}{S':St}(x:dM (ops++[c]).toArray=true)(I:ops.map (·.dst)=b)(g:c.dst=none)(C:c.guard=none)(E:(ops.all fun o=>o.guard.isNone)=true)(f:bV S.n (b++[none])=true)(q:lX (ops++[c]).toArray (b++[none]) n=true)(p:(List.range ops.length).all (fun i=>reach (ops++[c]).toArray ops.length ops.length i)=true)
  (s:Chain (ops++[c]).toArray (b++[none]) n 0 S ops ts) (u:n5 w0 G0 c (fk S b ts) S') (k:Q .normal S'):AWP w0 G0 (.region id (ops++[c]).toArray true) Q S:=by
 rintro a w ⟨bx,rv,O,y,D,m⟩;have H:b.length=ops.length:=by rw[<-I];simp
 have r:ts.length=b.length:=by rw[H];exact s.length.symm
 have t:(ops++[c]).map (·.dst)=b++[none]:=by rw[Nk,I];simp[g]
 have F:=(iH (w0:=w0) (G0:=G0) (S:=S) (w:=w) (bx:=bx) (rv:=rv) (a:=a) (by rw[y];exact f) q (by simpa using t) m ts ops 0 ts S s (fun k o K=>by rw[M0,NV,ME (L7.1 K).1];exact K) Z Z (by simp) (Mx _)).plain E;refine lS (b++[none]) (RT G0 bx rv S.rs ts) (fun _=>none) (WT w0 w G0 S bx rv) (fun _ W W'=>Below W.heap.size W W') (by kernel_rfl) x (by simpa using t) (by rw[y];exact f) (fun _=>rfl)
  (fun _ W W' B J=>⟨B.1.later J,B.2.trans (J.mono B.2.size)⟩) (fun _ j v W W' _ A M=>FT.later A M) ⟨O.later (Below.refl _ _).drew,(Below.refl _ _).drew⟩ ops.length c (by simp) (by simp) C g p (by simpa using F) ?_
 intro us W z A L;have d:Sim w0 G0 (fk S (b++[none]) (ts++[.any])) ⟨b8 a.tmps ((b++[none]).zip us),a.defers⟩ W:=vo f y D z (by simp[r]) L.1 (fun i=>(m i).later L.2) (fun j N=>by
  unfold RT;by_cases G:j<ts.length
  ·have:=A j (by omega);unfold RT at this;have e:(ts++[Tree.any]).getD j .any=ts.getD j .any:=by rw[Mm,ME G,<-Mm]
   rw[e];exact this
  have:j=ts.length:=by simp at N;omega
  subst this;rw[Mm (l:=ts++[Tree.any]),Mw (L5 _),M4];exact .any _ .nil)
 rw[jM _ _ _ _ _ r.symm]at d;have:=u _ _ d;rw[g]at this;exact this.mono fun v W h=>⟨_,k,h⟩
end
section
variable {w0:World} {G0:Nat->Prop} {ops:Array Oper} {rest:List Oper} {Q:Exit->St->Prop} {o:Oper} {n:Nat} {sl:List (Nat×Tree)} {bs:List (TypeId×List Tree)} {rs:List (Option Row)} {S:St}
theorem ah{t a:Tree}(h:OpOK o S t)(e:t=a):OpOK o S a:=e▸h
theorem af{d:Nat}{t:Tree}(b:o.guard=none)(a:o.dst=some d)(c:Nat.blt d n=true)(h:OpOK o ⟨n,sl,bs,rs⟩ t)(k:AOps w0 G0 ops rest Q ⟨n,(d,t)::sl,bs,rs⟩):AOps w0 G0 ops (o::rest) Q ⟨n,sl,bs,rs⟩:=by
 refine Bg b ?_ h ?_
 ·rw[a];simpa[cT,Nn]using c
 rw[a];exact k
theorem aA{d j s:Nat}{t:Tree}{b:Bool}(C:Prop)[Decidable C](B:o.guard=some (j,b))(A:(ops[j]?).bind (·.dst)=some s)(M:Nat.blt s n=true)(O:∃c,look sl s=.sc c/\(C↔c=.bool b))(D:o.dst=some d)(N:Nat.blt d n=true)(h:C->OpOK o ⟨n,sl,bs,rs⟩ t)
  (k:AOps w0 G0 ops rest Q ⟨n,(d,if C then t else .sc undef)::sl,bs,rs⟩):AOps w0 G0 ops (o::rest) Q ⟨n,sl,bs,rs⟩:=by
 obtain⟨c,L,G⟩:=O;rintro a w ⟨bx,rv,K,f,r,l⟩;have z:cT n o.dst=true:=by rw[D];simpa[cT,Nn]using N
 have q:a.tmps.getD s undef=c:=by
  have:=l s;have e:St.get ⟨n,sl,bs,rs⟩ s=.sc c:=L;rw[e]at this;exact this.isSc
 have p:s<a.tmps.size:=by rw[f];simpa[Nn]using M
 have I:a.tmps[s]? =some c:=by
  rw[MH p];rw[MV,MH p]at q;exact congrArg some q
 by_cases m:C
 ·have J:Region.wanted o (yielded ops a.tmps)=true:=by
   simp only[Region.wanted,B,yielded,A,Nc,I,G.1 m];cases b<;>rfl
  rw[if_pos m]at k;refine tS (S:=⟨n,sl,bs,rs⟩) (t:=t) (fun F w' E=>?_) z (h m) (by rw[D];exact k) a w ⟨bx,rv,K,f,r,l⟩;obtain⟨R,P,_,u,_,y⟩:=E;have g:F.tmps.getD s undef=c:=by
   have:=y s;have e:St.get ⟨n,sl,bs,rs⟩ s=.sc c:=L;rw[e]at this;exact this.isSc
  have i:s<F.tmps.size:=by rw[u];simpa[Nn]using M
  have H:F.tmps[s]? =some c:=by
   rw[MH i];rw[MV,MH i]at g;exact congrArg some g
  simp only[Region.wanted,B,yielded,A,Nc,H,G.1 m];cases b<;>rfl
 have J:Region.wanted o (yielded ops a.tmps)=false:=by
  simp only[Region.wanted,B,yielded,A,Nc,I];cases c with
  |bool x=>cases x<;>cases b<;>first|rfl|exact absurd (G.2 Z) m
  |_=>rfl
 rw[if_neg m]at k;simp only[wpList];rw[if_neg (by rw[J];exact MR)];refine k _ _ ⟨bx,rv,K,by rw[dB];exact f,by rw[cH,r],?_⟩;have:=gY (S:=⟨n,sl,bs,rs⟩) (o:=o) (t:=.sc undef) (v:=undef) (rs:=rs) (w':=w) (G0:=G0) f z (fun _ _ h=>h) l (.pure (.sc _ .nil) .nil);rw[D]at this⊢;exact this
theorem au{p b:Bool}:∃a,(Tree.sc (.bool p))=.sc a/\((p=b)↔a=.bool b):=⟨_,Z,by simp⟩
theorem ee{A:Prop}[Decidable A]{p b:Bool}:∃a,(if A then Tree.sc (.bool p)else .sc undef)=.sc a/\((A/\p=b)↔a=.bool b):=⟨if A then .bool p else undef,by split<;>rfl,by split<;>simp_all [undef]⟩
theorem aL{c a b:Operand}{x:Bool}{t:Tree}(d:o.op=.pick c a b)(e:S.ev c=.sc (.bool x))(g:x=true->S.ev a=t)(f:x=false->S.ev b=t):OpOK o S t:=by
 cases x with
 |true=>exact Bh d e (g Z)
 |false=>exact Bh d e (f Z)
theorem ai{op:BinOp}{d j:TypeId}{x y:Operand}{c a v:Value}(b:o.op=.binOp op d x y j)(f:S.ev x=.sc c)(g:S.ev y=.sc a)(h:∀w,(do eqGuard op d x y c a;binOp op d c a:Sem Value).run Tryz.prog w=.ok v w):OpOK o S (.sc v):=by
 intro w0 G0 bx rv w T l e;have i:=(bI e f (by rw[b];simp[Op.operands])).isSc;have k:=(bI e g (by rw[b];simp[Op.operands])).isSc;refine aq (v:=v) (W':=w) ?_ ⟨.pure (.sc _ .nil) .nil,Below.refl _ _⟩;simp only[execOp,b,i,k];rw[Sem.run_bind,h w];rfl
theorem ef{op:UnOp}{d:TypeId}{x:Operand}{b v:Value}(a:o.op=.unOp op d x)(c:S.ev x=.sc b)(h:∀w,(Op.unary op b).run Tryz.prog w=.ok v w):OpOK o S (.sc v):=by
 intro w0 G0 bx rv w T g f;have e:=(bI f c (by rw[a];simp[Op.operands])).isSc;refine aq (v:=v) (W':=w) ?_ ⟨.pure (.sc _ .nil) .nil,Below.refl _ _⟩;simp only[execOp,a,e];rw[Sem.run_bind,h w];rfl
theorem k7{b a:TypeId}{x:Operand}{k h:IntKind}{m:Int}{d:TypeDesc}(c:o.op=.convert b a x)(i:Tryz.prog.underlying b=some d)(f:Tryz.prog.underlying a=some (.int k))(e:S.ev x=.sc (.int h m)):OpOK o S (.sc (.int k (k.wrap m))):=by
 intro w0 G0 bx rv w T l j;have g:=(bI j e (by rw[c];simp[Op.operands])).isSc;refine aq (v:=.int k (k.wrap m)) (W':=w) ?_ ⟨.pure (.sc _ .nil) .nil,Below.refl _ _⟩;simp[execOp,c,g,convert,run_underlying i,run_underlying f,Conv.intToInt]
theorem eK{x:Operand}{t:TypeId}{s:ByteArray}(a:o.op=.call {callee:=.builtin .len,args:=#[x],argTypes:=#[t]})(b:Tryz.prog.underlying t=some .string)(c:S.ev x=.sc (.string s)):OpOK o S (.sc (.int .i64 (s.size:Nat))):=by
 intro w0 G0 bx rv w T f e;have d:=(bI e c (by rw[a];simp[Op.operands,Call.operands])).isSc;refine aq (v:=.int .i64 (s.size:Nat)) (W':=w) ?_ ⟨.pure (.sc _ .nil) .nil,Below.refl _ _⟩;simp[execOp,a,resolve,invoke,builtin,Builtin.len_,d,run_underlying b,goInt]
theorem dE{x g:Operand}{t:TypeId}{s:ByteArray}{k:IntKind}{i:Int}{j:Nat}{c:UInt8}(e:o.op=.index t x g)(n:Tryz.prog.underlying t=some .string)(p:S.ev x=.sc (.string s))(l:S.ev g=.sc (.int k i))(r:i=j)(d:s.data.toList[j]? =some c):OpOK o S (.sc (.int .u8 c.toNat)):=by
 intro w0 G0 bx rv w T u h;have q:=(bI h p (by rw[e];simp[Op.operands])).isSc;have m:=(bI h l (by rw[e];simp[Op.operands])).isSc;subst r;have a:j<s.size:=by have:=(L7.1 d).1;simpa using this
 have f:s[j]? =some c:=by
  rw[getElem?_pos s j a];rw[Np]at d;have b:j<s.data.size:=a;rw[MH b]at d;exact d
 refine aq (v:=.int .u8 c.toNat) (W':=w) ?_ ⟨.pure (.sc _ .nil) .nil,Below.refl _ _⟩;simp[execOp,e,q,m,Instr.index,asIntOf,run_underlying n,f]
theorem fa{x:Operand}{lo d:Option Operand}{t:TypeId}{l h:Nat}{s:ByteArray}(b:o.op=.slice t x lo d none)(e:Tryz.prog.underlying t=some .string)(r:S.ev x=.sc (.string s))(c:IF S lo l)(a:IG S s.size d h)(q:l<=h)(A:h<=s.size):OpOK o S (.sc (.string (s.extract l h))):=by
 intro w0 G0 bx rv w T u g;have f:=(bI g r (by rw[b];simp[Op.operands])).isSc;refine aq (v:=.string (s.extract l h)) (W':=w) ?_ ⟨.pure (.sc _ .nil) .nil,Below.refl _ _⟩;have n:¬s.size<h:=by omega
 cases lo with
 |none=>
  obtain rfl:l=0:=c;cases d with
  |none=>
   obtain rfl:h=s.size:=a;simp[execOp,b,f,Instr.sliceAt,Instr.slice,Instr.sliceBounds,run_underlying e]
  |some y=>
   obtain⟨k,j⟩:=a;have i:=(bI g j (by rw[b];simp[Op.operands])).isSc;simp[execOp,b,f,i,Instr.sliceAt,Instr.slice,Instr.sliceBounds,Instr.sliceBound,asIntOf,run_underlying e,n]
 |some x=>
  obtain⟨k,j⟩:=c;have p:=(bI g j (by rw[b];simp[Op.operands])).isSc;cases d with
  |none=>
   obtain rfl:h=s.size:=a;simp[execOp,b,f,p,Instr.sliceAt,Instr.slice,Instr.sliceBounds,Instr.sliceBound,asIntOf,run_underlying e,q]
  |some y=>
   obtain⟨z,m⟩:=a;have i:=(bI g m (by rw[b];simp[Op.operands])).isSc;simp[execOp,b,f,i,p,Instr.sliceAt,Instr.slice,Instr.sliceBounds,Instr.sliceBound,asIntOf,run_underlying e,n,q]
end
def II(P:Program)(s:TypeId)(j:Nat):Option Nat:=
 match P.underlying s with
 |some (.struct fs)=>(fs[j]?).bind fun f=>if iU P f.type then some f.offset else none
 |_=>none
theorem Bi{S:St}{o:Oper}{x:Operand}{s:TypeId}{j off:Nat}{cs:List Tree}{t:Tree}(g:o.op=.field s x j)(k:S.ev x=.agg cs)(a:II Tryz.prog s j=some off)(i:cs[off]? =some t):OpOK o S t:=by
 intro w0 G0 bx rv w T q n;obtain⟨xs,l,p⟩:=(bI n k (by rw[g];simp[Op.operands])).isAgg;obtain⟨u,h,m⟩:=p.get off t i;unfold II at a;split at a
 ·next fs hu=>
  cases b:fs[j]? with
  |none=>simp[b]at a
  |some f=>
   simp only[b,Nc]at a;split at a
   ·next hone=>
    injection a with a
    subst a;obtain⟨d,e,r⟩:=vk hone;have c:(isAgg f.type).run Tryz.prog w=.ok false w:=by
     unfold isAgg;rw[Sem.run_bind,run_underlying e w];cases d<;>simp_all
    refine aq (v:=u) (W':=w) ?_ ⟨m,Below.refl _ _⟩;simp[execOp,g,l,Instr.field,run_underlying hu,b,part,c,asAgg,h]
   cases a
 cases a
section
variable {w0:World} {G0:Nat->Prop} {ops:Array Oper} {rest:List Oper} {Q:Exit->St->Prop} {o:Oper} {n:Nat} {sl:List (Nat×Tree)} {bs:List (TypeId×List Tree)} {rs:List (Option Row)} {S:St}
theorem Cx{d b:Nat}{ty:TypeId}{x:Operand}{t:Tree}{cs:List Tree}(f:o.op=.box ty x)(i:o.guard=none)(c:o.dst=some d)(e:Nat.blt d n=true)(g:St.ev ⟨n,sl,bs,rs⟩ x=t)(l:t.oneA=true)(h:t.cells=cs)(m:cs.all Tree.noDig=true)(j:bs.length=b){bs':List (TypeId×List Tree)}(a:bs++[(ty,cs)]=bs')
  (k:AOps w0 G0 ops rest Q ⟨n,(d,.box b 0)::sl,bs',rs⟩):AOps w0 G0 ops (o::rest) Q ⟨n,sl,bs,rs⟩:=by
 subst h j a;refine eD i (D7 (S:=⟨n,sl,bs,rs⟩) f (by rw[c];simpa[cT,Nn]using e) g l m) ?_;rw[c];exact k
theorem wN{d b:Nat}{ty:TypeId}{c:List Value}{cs:List Tree}(h:o.op=.alloc ty)(j:o.guard=none)(e:o.dst=some d)(g:Nat.blt d n=true)(f:gc Tryz.prog ty=some c)(m:c.all bL=true)(i:c.map dg=cs)(l:bs.length=b){bs':List (TypeId×List Tree)}(a:bs++[(ty,cs)]=bs')
  (k:AOps w0 G0 ops rest Q ⟨n,(d,.box b 0)::sl,bs',rs⟩):AOps w0 G0 ops (o::rest) Q ⟨n,sl,bs,rs⟩:=by
 subst i l a;refine eD j (rD (S:=⟨n,sl,bs,rs⟩) h (by rw[e];simpa[cT,Nn]using g) f m) ?_;rw[e];exact k
theorem wO{ty e:TypeId}{x y:Operand}{b off m:Nat}{cs:List Tree}{t:Tree}(i:o.op=.store ty x y)(p:o.guard=none)(a:o.dst=none)(l:St.ev ⟨n,sl,bs,rs⟩ x=.box b off)(g:bs[b]? =some (e,cs))(j:St.ev ⟨n,sl,bs,rs⟩ y=t)(q:t.oneA=true)(s:t.cells.all Tree.one=true)(h:t.cells.all Tree.noDig=true)(r:(Tryz.prog.info? ty).map (·.size)=some m)(f:t.cells.length=m)(d:Nat.ble (off+m) cs.length=true){bs':List (TypeId×List Tree)}(c:bs.set b (e,D8 cs off t)=bs')
  (k:AOps w0 G0 ops rest Q ⟨n,sl,bs',rs⟩):AOps w0 G0 ops (o::rest) Q ⟨n,sl,bs,rs⟩:=by
 subst c;exact eD p (kX (S:=⟨n,sl,bs,rs⟩) i a l g j q s h r f (by simpa using d)) k
theorem cD{d k m b:Nat}{x y:Operand}{t:TypeId}{R:Row}{a:List Tree}(A:o.op=.call {callee:=.builtin .append,args:=#[x,y],argTypes:=#[t,t]})(v:o.guard=none)(h:o.dst=some d)(i:Nat.blt d n=true)(u:lM Tryz.prog t=some (R.e,R.sz,b))(l:St.ev ⟨n,sl,bs,rs⟩ x=.own k)(r:rs[k]? =some (some R))(q:St.ev ⟨n,sl,bs,rs⟩ y=.sl a)(B:R.sz=m)(C:Sized m a)(s:AllC Tree.one a)(z:AllC Tree.noDig a)(j:R.es.length+a.length<=1073741824)(w:Nat.ble b 100000=true){sl':List (Nat×Tree)}{bs':List (TypeId×List Tree)}{rs':List (Option Row)}(c:sl.map (fun p=>(p.1,lI k p.2))=sl')(f:bs.map (fun p=>(p.1,p.2.map (gZ k)))=bs')(g:rs.set k (some ⟨R.e,R.sz,R.es++a,false⟩)=rs')
  (K:AOps w0 G0 ops rest Q ⟨n,(d,.own k)::sl',bs',rs'⟩):AOps w0 G0 ops (o::rest) Q ⟨n,sl,bs,rs⟩:=by
 subst B c f g;refine eD v (tU (S:=⟨n,sl,bs,rs⟩) A (by rw[h];simpa[cT,Nn]using i) u l r q C s z j (by simpa using w)) ?_;rw[h];exact K
def iS:List (Nat×Tree)->List (Option Nat)->List Tree->List (Nat×Tree)
 |sl,some d::ds,t::ts=>iS ((d,t)::sl) ds ts
 |sl,none::ds,_::ts=>iS sl ds ts
 |sl,_,_=>sl
theorem kh(n:Nat)(bs:List (TypeId×List Tree))(rs:List (Option Row)):∀(a:List (Option Nat)) (ts:List Tree) (sl:List (Nat×Tree)),fk ⟨n,sl,bs,rs⟩ a ts=⟨n,iS sl a ts,bs,rs⟩
 |[],_,sl=>by cases sl<;>rfl
 |some d::a,[],sl=>rfl
 |none::a,[],sl=>rfl
 |some d::a,t::ts,sl=>kh n bs rs a ts _
 |none::a,t::ts,sl=>kh n bs rs a ts _
theorem ci{id fu:Nat}{ops:List Oper}(a:List (Option Nat))(ts:List Tree){sl':List (Nat×Tree)}(d:dM ops.toArray=true)(g:ops.map (·.dst)=a)(e:bV n a=true)(b:lX ops.toArray a fu=true)(c:iS sl a ts=sl')(f:Chain ops.toArray a fu 0 ⟨n,sl,bs,rs⟩ ops ts)(k:Q .normal ⟨n,sl',bs,rs⟩):AWP w0 G0 (.region id ops.toArray true) Q ⟨n,sl,bs,rs⟩:=
 Ec d g e b f (by rw[kh,c];exact k)
theorem dH{id fu:Nat}{ops:List Oper}{c:Oper}(a:List (Option Nat))(ts:List Tree){sl':List (Nat×Tree)}{ty u:TypeId}{x y:Operand}{b off m:Nat}{cs:List Tree}{t:Tree}{bs':List (TypeId×List Tree)}(h:dM (ops++[c]).toArray=true)(C:ops.map (·.dst)=a)(f:c.dst=none)(p:c.guard=none)(r:(ops.all fun o=>o.guard.isNone)=true)(j:bV n (a++[none])=true)(e:lX (ops++[c]).toArray (a++[none]) fu=true)(d:(List.range ops.length).all (fun i=>reach (ops++[c]).toArray ops.length ops.length i)=true)(g:iS sl a ts=sl')
  (E:c.op=.store ty x y) (w:St.ev ⟨n,sl',bs,rs⟩ x=.box b off) (F:bs[b]? =some (u,cs)) (B:St.ev ⟨n,sl',bs,rs⟩ y=t) (z:t.oneA=true) (D:t.cells.all Tree.one=true) (v:t.cells.all Tree.noDig=true) (G:(Tryz.prog.info? ty).map (·.size)=some m) (A:t.cells.length=m) (l:Nat.ble (off+m) cs.length=true) (q:bs.set b (u,D8 cs off t)=bs')
  (s:Chain (ops++[c]).toArray (a++[none]) fu 0 ⟨n,sl,bs,rs⟩ ops ts) (k:Q .normal ⟨n,sl',bs',rs⟩):AWP w0 G0 (.region id (ops++[c]).toArray true) Q ⟨n,sl,bs,rs⟩:=by
 subst g q;refine vq h C f p r j e d s ?_ k;rw[kh];exact kX (S:=⟨n,iS sl a ts,bs,rs⟩) E f w F B z D v G A (by simpa using l)
structure Le (S S':St) (m k:Nat):Prop where
 n:S'.n=S.n
 bs:S'.bs=S.bs.take m
 rs:S'.rs=S.rs.take k
 sl:Keeps S m k S'.sl
 ok:(S'.bs.all fun p=>p.2.all (within0 m k))=true
theorem Sim.le{S':St}{m k:Nat}{a:Act}{w:World}(h:Sim w0 G0 S a w)(c:Le S S' m k):Sim w0 G0 S' a w:=by
 obtain⟨f,b,e,g,d⟩:=c;have:=h.less m k S'.sl g (by rw[<-b];exact d);rw[<-f,<-b,<-e]at this;exact this
theorem Ed{c:Code}{S':St}(m k:Nat)(b:Le S S' m k)(h:AWP w0 G0 c Q S'):AWP w0 G0 c Q S:=fun a w d=>h a w (d.le b)
theorem aW{c:Code}(I:Nat->St->Prop){i:Nat}{f:St}(m k:Nat)(p:I i f)(g:Le S f m k)(a:∀n S,I n S->AWP w0 G0 c (wK (fun S'=>∃d b,d<n/\I d b/\Le S' b m k) Q) S):AWP w0 G0 (.loop c) Q S:=by
 refine Eb (fun n S=>∃b,I n b/\Le S b m k) i ⟨f,p,g⟩ ?_;rintro n S ⟨b,l,j⟩;refine Ed m k j ((a n b l).mono ?_);intro e S' h;cases e with
 |normal=>
  obtain⟨d,r,q,s,o⟩:=h;exact⟨d,q,r,s,o⟩
 |_=>exact h
theorem rE{x y:Code}{c:Exit->St->Prop}(b:St)(m k:Nat)(h:AWP w0 G0 x (wK (fun S'=>Le S' b m k) c) S)(d:AWP w0 G0 y Q b):AWP w0 G0 x (wK (AWP w0 G0 y Q) c) S:=h.mono fun e S' a=>by
 cases e with
 |normal=>exact Ed m k a d
 |_=>exact a
end
theorem J4{a:Int}{m:Nat}(h:a=m)(b:m<9223372036854775808):(Tree.sc (.int .i64 (IntKind.i64.wrap a)))=.sc (.int .i64 (m:Nat)):=by
 subst h;congr 2;rw[Ns];omega
theorem qR{c:TypeId}{x y:Operand}{a b:ByteArray}{w:World}(h:a.size+b.size<=4611686018427387904):(do eqGuard .add c x y (.string a) (.string b);binOp .add c (.string a) (.string b):Sem Value).run Tryz.prog w=.ok (.string (a++b)) w:=by
 simp[eqGuard,binOp,Op.stringOp];omega
theorem eU{α:Type}{a b:α}{l m:List α}(h:a=b)(c:l=m):a::l=b::m:=by rw[h,c]
theorem ep{k:IntKind}{a b:Int}(h:a=b):(Tree.sc (.int k a))=.sc (.int k b):=by rw[h]
theorem av{p q:Bool}(h:p=q):(Tree.sc (.bool p))=.sc (.bool q):=by rw[h]
theorem iu(a b:Nat):decide ((a:Int)<(b:Int))=decide (a<b):=decide_eq_decide.2 (by omega)
theorem DT(a b:Nat):decide ((a:Int)<=(b:Int))=decide (a<=b):=decide_eq_decide.2 (by omega)
theorem tE(a b:Nat):decide ((a:Int)>(b:Int))=decide (b<a):=decide_eq_decide.2 (by omega)
theorem IJ(a b:Nat):decide ((a:Int)≥(b:Int))=decide (b<=a):=decide_eq_decide.2 (by omega)
theorem lY(a b:Nat):((a:Int)==(b:Int))=decide (a=b):=by
 rw[O2,beq_iff_eq,decide_eq_true_eq];omega
theorem wD(a b:Nat):((a:Int) !=(b:Int))=decide (a≠b):=by
 rw[O2,bne_iff_ne,decide_eq_true_eq];omega
end Go.Proofs.YtfoejfohbkmmeaaGreatDoor
