import Derived.Test.YtfoejfohbkmmeaaGreatDoorB01
import Derived.Test.YtfoejfohbkmmeaaGreatDoorB00
import Derived.Test.YtfoejfohbkmmeaaGreatDoorB04
namespace Go.Proofs.YtfoejfohbkmmeaaGreatDoor
open Go.RowKit
open Lib renaming hid→J
def Lc(P:Program)(ops:Array Oper)(dsts:List (Option Nat))(t:Array Value)(R:Nat->Value->World->Prop)(cons:Nat->Option Nat)(WI:World->Prop)(Ext:Nat->World->World->Prop)(i:Nat)(o:Oper):Prop:=
 (oT ops dsts R cons i o.guard/\∀(T:Nat->Value) (W:World),Given ops dsts t R cons WI i T W->OpRuns P o T W fun v W'=>R i v W'/\Ext i W W')\/
 (∃j b n s,o.guard=some (j,b)/\(j !=i&&reach ops n i j&&cons j==none&&dsts[j]? ==some (some s))=true/\(∀v W,R j v W->v≠ .bool b)/\∀W,R i undef W)
def StepsT(P:Program)(ops:Array Oper)(dsts:List (Option Nat))(t:Array Value)(R:Nat->Value->World->Prop)(cons:Nat->Option Nat)(WI:World->Prop)(Ext:Nat->World->World->Prop):Nat->List Oper->Prop
 |_,[]=>True
 |i,o::l=>Lc P ops dsts t R cons WI Ext i o/\StepsT P ops dsts t R cons WI Ext (i+1) l
theorem StepsT.at{P:Program}{ops:Array Oper}{a:List (Option Nat)}{t:Array Value}{R:Nat->Value->World->Prop}{cons:Nat->Option Nat}{c:World->Prop}{b:Nat->World->World->Prop}:∀(l:List Oper) (n:Nat),StepsT P ops a t R cons c b n l->∀(k:Nat) (o:Oper),l[k]? =some o->Lc P ops a t R cons c b (n+k) o
 |[],_,_,k,o,h=>by simp at h
 |x::l,n,hs,0,o,h=>by
  simp only[Pa,OI]at h;subst h;exact hs.1
 |x::l,n,hs,k+1,o,h=>by
  have:=StepsT.at l (n+1) hs.2 k o (by simpa using h);rw[show n+1+k=n+(k+1) by omega]at this;exact this
theorem StepsT.cons{P:Program}{ops:Array Oper}{a:List (Option Nat)}{t:Array Value}{R:Nat->Value->World->Prop}{cons:Nat->Option Nat}{c:World->Prop}{b:Nat->World->World->Prop}{i:Nat}{o:Oper}{l:List Oper}
  (d:oT ops a R cons i o.guard) (h:∀(T:Nat->Value) (W:World),Given ops a t R cons c i T W->OpRuns P o T W fun v W'=>R i v W'/\b i W W') (e:StepsT P ops a t R cons c b (i+1) l):StepsT P ops a t R cons c b i (o::l):=⟨.inl ⟨d,h⟩,e⟩
theorem StepsT.skip{P:Program}{ops:Array Oper}{a:List (Option Nat)}{t:Array Value}{R:Nat->Value->World->Prop}{cons:Nat->Option Nat}{d:World->Prop}{c:Nat->World->World->Prop}{i:Nat}{o:Oper}{l:List Oper}{j:Nat}{b:Bool}(n s:Nat)
  (f:o.guard=some (j,b)) (g:(j !=i&&reach ops n i j&&cons j==none&&a[j]? ==some (some s))=true) (h:∀v W,R j v W->v≠ .bool b) (e:∀W,R i undef W) (k:StepsT P ops a t R cons d c (i+1) l):StepsT P ops a t R cons d c i (o::l):=⟨.inr ⟨j,b,n,s,f,g,h,e⟩,k⟩
theorem mX{P:Program}{id:Nat}{ops:Array Oper}{Q:Exit->Act->World->Prop}{a:Act}{w:World}(d:List (Option Nat))(R:Nat->Value->World->Prop)(cons:Nat->Option Nat)(D:World->Prop)(F:Nat->World->World->Prop)
  (hm:P.follows .mixedOrders=true) (a1:fE ops=true) (hd:ops.toList.map (·.dst)=d) (r:b7 a.tmps.size d=true)
  (V:∀i W W',D W->F i W W'->D W') (H:∀i j v W W',cons j≠some i->D W->R j v W->F i W W'->R j v W') (h0:D w.drew)
  (J:StepsT P ops d a.tmps R cons D F 0 ops.toList)
  (X:∀(us:List Value) (W:World),us.length=d.length->(∀j,j<ops.size->cons j=none->R j (us.getD j undef) W)->D W->Q .normal ⟨cM a.tmps (d.zip us),a.defers⟩ W):(Code.region id ops true).wp P Q a w:=by
 have a4:d.length=ops.size:=by rw[<-hd];simp
 refine gR (fun L a' W=>∃us,a'=⟨cM a.tmps (d.zip us),a.defers⟩/\L.size=ops.size/\Closed ops L/\MonoAt R cons D (iq a.tmps d) L us W) hm a1 ⟨iq a.tmps d,?_,by simp,ip ops,⟨Z,fun j k=>absurd k lI,fun _ _=>rfl,h0⟩⟩ ?_ ?_
 ·rw[jC]
 ·rintro L a' W i o h1 h2 S h4 ⟨us,rfl,_,hc,m⟩;have hi:i<ops.size:=(O3.1 S).1;have U:d[i]? =some o.dst:=by
   rw[<-hd,O2];simp only[PJ,S,PG]
  have l:us.length=d.length:=by rw[m.len,eF]
  have K:L.getD i false=false:=getD_both h2;have M:∀n j,j≠i->reach ops n i j=true->L.getD j false=true:=fun n j k z=>by
   have q:=hc.step S h4;have:=q.reach n i j z (fh (by omega));rwa[dd (fun e=>k e.symm)]at this
  have T:∀n j,reach ops n j i=true->L.getD j false=false:=fun n j z=>by
   cases hl:L.getD j false with
   |false=>rfl
   |true=>
    have:=hc.reach n j i z hl;rw[K]at this;cases this
  have G:Given ops d a.tmps R cons D i (fun s=>(cM a.tmps (d.zip us)).getD s undef) W:=by
   refine⟨fun s f=>fH d us _ s f,fun n j s f=>?_,fun n j s f=>?_,m.wi⟩
   ·simp only[Oo,bne_iff_ne,beq_iff_eq]at f;obtain⟨⟨⟨k,z⟩,t⟩,f⟩:=f;show R j ((cM a.tmps (d.zip us)).getD s undef) W
    rw[(dn d us _ j s r l f).1];refine m.fact j (M n j k z) fun c h=>?_
    rw[C7,h]at t;exact T n c t
   simp only[Oo,beq_iff_eq]at f;obtain⟨z,f⟩:=f;show(cM a.tmps (d.zip us)).getD s undef=_
   rw[(dn d us _ j s r l f).1,m.old j (T n j z),kU _ _ _ _ f]
  have hS:=StepsT.at ops.toList 0 J i o (by simpa using S);rw[Pk]at hS;have B:∀j b' n s,(j !=i&&reach ops n i j&&cons j==none&&d[j]? ==some (some s))=true->(∀v W,R j v W->v=.bool b')->yielded ops (cM a.tmps (d.zip us)) j=some b':=by
   intro j b' n s f E;simp only[Oo,bne_iff_ne,beq_iff_eq]at f;obtain⟨⟨⟨k,z⟩,t⟩,f⟩:=f;have C:=E _ _ (m.fact j (M n j k z) fun c h=>by rw[t]at h;cases h);rw[<-(dn d us _ j s r l f).1]at C;have O:=(dn d us a.tmps j s r l f).2;have N:(ops[j]?).bind (·.dst)=some s:=by
    rw[<-hd,O2,PJ]at f;cases Y:ops[j]? with
    |none=>simp[Y]at f
    |some oj=>simpa[Y]using f
   have:(cM a.tmps (d.zip us))[s]? =some (.bool b'):=by
    have hz:s<(cM a.tmps (d.zip us)).size:=by rw[gI];exact O
    simp only[O7,O1 hz,OW]at C;rw[O1 hz,C]
   simp only[yielded,N,PC,this]
  rcases hS with hS|⟨j,b,n,s,I,f,E,a0⟩
  rotate_left
  ·have hw:Region.wanted o (yielded ops (cM a.tmps (d.zip us)))=false:=by
    unfold Region.wanted;rw[I];simp only[Oo,bne_iff_ne,beq_iff_eq]at f;obtain⟨⟨⟨k,z⟩,t⟩,f⟩:=f;have C:=E _ _ (m.fact j (M n j k z) fun c h=>by rw[t]at h;cases h);rw[<-(dn d us _ j s r l f).1]at C;have O:=(dn d us a.tmps j s r l f).2;have N:(ops[j]?).bind (·.dst)=some s:=by
     rw[<-hd,O2,PJ]at f;cases Y:ops[j]? with
     |none=>simp[Y]at f
     |some oj=>simpa[Y]using f
    have hz:s<(cM a.tmps (d.zip us)).size:=by rw[gI];exact O
    simp only[O7,O1 hz,OW]at C;simp only[yielded,N,PC,O1 hz];generalize (cM a.tmps (d.zip us))[s]=u at C;cases u with
    |bool x=>
     cases x<;>cases b<;>first|rfl|(exact absurd Z C)
    |_=>rfl
   simp only[wpList];rw[if_neg (by rw[hw];exact Pd)];refine⟨us.set i undef,?_,by simpa using h1,hc.step S h4,⟨by simpa using m.len,fun j k h=>?_,fun j k=>?_,m.wi⟩⟩
   ·exact jL d us _ _ i _ undef r l U
   ·by_cases g:i=j
    ·subst g;have:(us.set i undef).getD i undef=undef:=by simp[List.getD,show i<us.length by omega]
     rw[this];exact a0 _
    rw[dd g]at k;have:(us.set i undef).getD j undef=us.getD j undef:=by simp[List.getD,g]
    rw[this];refine m.fact j k fun c q=>?_
    have:=h c q;by_cases y:i=c
    ·subst y;exact K
    rwa[dd y]at this
   by_cases g:i=j
   ·subst g;rw[fh (by omega)]at k;cases k
   rw[dd g]at k;have:(us.set i undef).getD j undef=us.getD j undef:=by simp[List.getD,g]
   rw[this];exact m.old j k
  obtain⟨hg,A⟩:=hS;have A:=A _ W G;have hw:Region.wanted o (yielded ops (cM a.tmps (d.zip us)))=true:=by
   unfold Region.wanted;cases I:o.guard with
   |none=>rfl
   |some p=>
    obtain⟨j,b⟩:=p;rw[I]at hg;obtain⟨n,s,f,E⟩:=hg;have:=B j b n s f E;simp only[this];cases b<;>rfl
  simp only[wpList];rw[if_pos hw];refine .inl<|Oper.wp_mono ?_ A.wp;rintro a3 a5 ⟨v,e,E,hE⟩;refine⟨us.set i v,?_,by simpa using h1,hc.step S h4,⟨by simpa using m.len,fun j k h=>?_,fun j k=>?_,V _ _ _ m.wi hE⟩⟩
  ·rw[e];exact jL d us _ _ i _ v r l U
  ·by_cases g:i=j
   ·subst g;have:(us.set i v).getD i undef=v:=by simp[List.getD,show i<us.length by omega]
    rw[this];exact E
   rw[dd g]at k;have:(us.set i v).getD j undef=us.getD j undef:=by simp[List.getD,g]
   rw[this];refine H i j _ _ _ (fun e=>?_) m.wi (m.fact j k fun c q=>?_) hE
   ·have:=h i e;rw[fh (by omega)]at this;cases this
   have:=h c q;by_cases y:i=c
   ·subst y;exact K
   rwa[dd y]at this
  by_cases g:i=j
  ·subst g;rw[fh (by omega)]at k;cases k
  rw[dd g]at k;have:(us.set i v).getD j undef=us.getD j undef:=by simp[List.getD,g]
  rw[this];exact m.old j k
 rintro L a' W h1 ⟨us,rfl,a2,_,m⟩;refine X us W (by rw[m.len,eF]) (fun j k h=>m.fact j (h1 j k) fun c q=>by rw[h]at q;cases q) m.wi
def eX(s:Nat):List (Option Nat)->Option Nat
 |[]=>none
 |d::ds=>if d=some s then some 0 else(eX s ds).map (· +1)
theorem fy{s:Nat}:∀{a:List (Option Nat)} {j:Nat},eX s a=some j->a[j]? =some (some s)
 |[],j,h=>by simp[eX]at h
 |d::a,j,h=>by
  simp only[eX]at h;split at h
  ·next e=>cases h;subst e;rfl
  simp only[Ps]at h;obtain⟨k,b,rfl⟩:=h;simpa using fy b
theorem gl{s:Nat}:∀{a:List (Option Nat)},eX s a=none->a.contains (some s)=false
 |[],_=>rfl
 |d::a,h=>by
  simp only[eX]at h;split at h
  ·cases h
  next e=>
  simp only[RB]at h;simp only[Q7,gl h,Bool.or_false,beq_eq_false_iff_ne];exact fun b=>e b.symm
theorem kj{n:Nat}:∀{a:List (Option Nat)} (i:Nat),b7 n a=true->b7 n (a.take i)=true
 |[],i,_=>by simp[b7]
 |d::a,0,_=>rfl
 |none::a,i+1,h=>by
  simp only[Qw,b7]at h⊢;exact kj i h
 |some s::a,i+1,h=>by
  simp only[Qw,b7,Oo,Pu]at h⊢;refine⟨⟨?_,h.1.2⟩,kj i h.2⟩;cases b:(a.take i).contains (some s)with
  |false=>rfl
  |true=>
   have:=O9.2 (OV (O9.1 b));rw[h.1.1]at this;cases this
def yv(ops:Array Oper)(dsts:List (Option Nat))(n i s:Nat):Bool:=
 match eX s dsts with
 |none=>true
 |some j=>if j<i then reach ops n i j else reach ops n j i
def mY(ops:Array Oper)(dsts:List (Option Nat))(n:Nat):Bool:=(List.range ops.size).all fun i=>match ops[i]? with
 |some o=>(eG o.op).all (yv ops dsts n i)
 |none=>true
inductive Chain (ops:Array Oper) (dsts:List (Option Nat)) (n:Nat):Nat->St->List Oper->List Tree->Prop
 |nil {i:Nat} {S:St}:Chain ops dsts n i S [] []
 |op {i:Nat} {S:St} {o:Oper} {os:List Oper} {t:Tree} {ts:List Tree} (hg:o.guard=none) (h:OpOK o S t) (hs:Chain ops dsts n (i+1) (S.put o.dst t) os ts):Chain ops dsts n i S (o::os) (t::ts)
 |cnd {i:Nat} {S:St} {o:Oper} {os:List Oper} {t:Tree} {ts:List Tree} (j:Nat) (b:Bool) (s:Nat) (C:Prop) [Decidable C] (hg:o.guard=some (j,b)) (hj:(j !=i&&reach ops n i j&&decide (j<i)&&dsts[j]? ==some (some s))=true) (hG:∃gv,S.get s=.sc gv/\(C↔gv=.bool b)) (h:C->OpOK o S t) (hs:Chain ops dsts n (i+1) (S.put o.dst (if C then t else .sc undef)) os ts):Chain ops dsts n i S (o::os) ((if C then t else .sc undef)::ts)
def fO(S:St):List (Option Nat)->List Tree->St
 |d::ds,t::ts=>fO (S.put d t) ds ts
 |_,_=>S
theorem kk:∀(a:List (Option Nat)) (ts:List Tree) (S:St) (d:Option Nat) (t:Tree),a.length=ts.length->fO S (a++[d]) (ts++[t])=(fO S a ts).put d t
 |[],[],S,d,t,_=>rfl
 |_::a,_::ts,S,d,t,h=>kk a ts _ d t (by simpa using h)
theorem lQ:∀(a:List (Option Nat)) (ts:List Tree) (S:St),(fO S a ts).bs=S.bs/\(fO S a ts).rs=S.rs/\(fO S a ts).n=S.n
 |[],_,S=>⟨Z,Z,Z⟩
 |_::_,[],S=>⟨Z,Z,Z⟩
 |d::a,t::ts,S=>by
  have:=lQ a ts (S.put d t);rw[dE,bZ,ee]at this;exact this
theorem jQ:∀(a:List (Option Nat)) (ts:List Tree) (S:St) (s:Nat),a.contains (some s)=false->(fO S a ts).get s=S.get s
 |[],_,S,s,_=>rfl
 |_::_,[],S,s,_=>rfl
 |d::a,t::ts,S,s,h=>by
  simp only[Q7,OH]at h;have:=jQ a ts (S.put d t) s h.2;rw[cV,if_neg (fun e=>by rw[e]at h;simp at h)]at this;exact this
theorem nA:∀(a:List (Option Nat)) (ts:List Tree) (S:St) (n j s:Nat) (t:Tree),b7 n a=true->a[j]? =some (some s)->ts[j]? =some t->(fO S a ts).get s=t
 |[],_,S,n,j,s,t,_,h,_=>by simp at h
 |_::_,[],S,n,j,s,t,_,_,h=>by simp at h
 |d::a,x::ts,S,n,0,s,t,ha,h,h'=>by
  simp only[Pa,OI]at h h';subst h h';simp only[b7,Oo,Pu]at ha;show(fO (S.put (some s) x) a ts).get s=x
  rw[jQ a ts _ s ha.1.1,cV,if_pos Z]
 |d::a,x::ts,S,n,j+1,s,t,ha,h,h'=>by
  have b:b7 n a=true:=by
   cases d with
   |none=>exact ha
   |some _=>simp only[b7,Oo]at ha;exact ha.2
  exact nA a ts (S.put d x) n j s t b (by simpa using h) (by simpa using h')
theorem Chain.length{ops:Array Oper}{a:List (Option Nat)}{n i:Nat}{S:St}{b:List Oper}{ts:List Tree}(h:Chain ops a n i S b ts):b.length=ts.length:=by induction h<;>simp_all
theorem ii:∀{n:Nat} {a:List (Option Nat)} {j b s:Nat},b7 n a=true->a[j]? =some (some s)->a[b]? =some (some s)->j=b
 |_,[],j,_,_,_,h,_=>by simp at h
 |n,d::a,0,0,s,_,_,_=>rfl
 |n,d::a,0,b+1,s,ha,h,c=>by
  simp only[Pa,OI]at h;subst h;simp only[b7,Oo,Pu]at ha;have e:=Om (i:=b) (by simpa using c:a[b]? =some (some s));have:=O9.2 e;rw[ha.1.1]at this;cases this
 |n,d::a,j+1,0,s,ha,h,c=>by
  simp only[Pa,OI]at c;subst c;simp only[b7,Oo,Pu]at ha;have e:=Om (i:=j) (by simpa using h:a[j]? =some (some s));have:=O9.2 e;rw[ha.1.1]at this;cases this
 |n,d::a,j+1,b+1,s,ha,h,c=>by
  have f:b7 n a=true:=by
   cases d with
   |none=>exact ha
   |some _=>simp only[b7,Oo]at ha;exact ha.2
  rw[ii f (by simpa using h:a[j]? =_) (by simpa using c:a[b]? =_)]
section
variable {w0:World} {G0:Bse} {Q:Exit->St->Prop} {S:St}
def RT(G0:Bse)(bx:List Nat)(rv:List Value)(rs:List (Option Row))(ts:List Tree)(j:Nat)(v:Value)(W:World):Prop:=FT (en W G0 bx rv rs) [v] [ts.getD j .any]
def WT(w0 w:World)(G0:Bse)(S:St)(bx:List Nat)(rv:List Value)(W:World):Prop:=Mem w0 G0 S.bs S.rs bx rv W/\Below w.heap.size w W
theorem jc{ops:Array Oper}{c:List (Option Nat)}{n:Nat}{a:Act}{w:World}{bx:List Nat}{rv:List Value}(B:b7 a.tmps.size c=true)(m:mY ops c n=true)(r:ops.toList.map (·.dst)=c)(y:∀i,FT (en w G0 bx rv S.rs) [a.tmps.getD i undef] [S.get i])(ts:List Tree):
  ∀(D:List Oper) (i:Nat) (us:List Tree) (S':St),Chain ops c n i S' D us->(∀(k:Nat) (o:Oper),D[k]? =some o->ops[i+k]? =some o)->us=ts.drop i->S'=fO S (c.take i) (ts.take i)->i+D.length<=ops.size->i<=ts.length->StepsT Tryz.prog ops c a.tmps (RT G0 bx rv S.rs ts) (fun _=>none) (WT w0 w G0 S bx rv) (fun _ W W'=>Below W.heap.size W W') i D
 |[],i,us,S',h,_,_,_,_,_=>trivial
 |o::D,i,us,S',h,hops,hus,hS',hlen,hle=>by
  have Y:ops[i]? =some o:=hops 0 o Z;have b0:i<ops.size:=by simp only[Oi]at hlen;omega
  have b1:c.length=ops.size:=by rw[<-r];simp
  have a4:c[i]? =some o.dst:=by
   rw[<-r,O2];simp only[PJ,Y,PG]
  have d:=lQ (c.take i) (ts.take i) S;rw[<-hS']at d;have z:∀t G,us=t::G->G=ts.drop (i+1)/\ts[i]? =some t/\S'.put o.dst t=fO S (c.take (i+1)) (ts.take (i+1))/\i+1<=ts.length:=fun t G e=>by
   have A:ts.drop i=t::G:=by rw[<-hus,e]
   have p:i<ts.length:=by
    rcases OS i ts.length with h|h
    ·exact h
    rw[Ov h]at A;cases A
   rw[Ow p]at A;injection A with V h3
   refine⟨h3.symm,by rw[Og p,V],?_,p⟩;obtain⟨a1,X⟩:=Ok.1 a4;rw[OM a1,OM p,kk _ _ _ _ _ (by simp only[Ox];omega),X,V,hS']
  have H:∀s,(∀j,c[j]? =some (some s)->i<=j)->S'.get s=S.get s:=fun s K=>by
   rw[hS'];refine jQ _ _ _ s ?_;cases N:(c.take i).contains (some s)with
   |false=>rfl
   |true=>
    obtain⟨j,l,a9⟩:=Pv (O9.1 N);have A:(c.take i)[j]? =some (some s):=by rw[Og l,a9]
    obtain⟨V,h3⟩:=fJ A;have:=K j h3;omega
  have u:∀s j,c[j]? =some (some s)->j<i->∃t,ts[j]? =some t/\S'.get s=t:=fun s j l a0=>by
   have a2:j<ts.length:=by omega
   refine⟨ts[j],Og a2,?_⟩;rw[hS'];have a3:=kj i B;exact nA _ _ S a.tmps.size j s _ a3 (jb l a0) (jb (Og a2) a0)
  have M:∀(T:Nat->Value) (W:World),Given ops c a.tmps (RT G0 bx rv S.rs ts) (fun _=>none) (WT w0 w G0 S bx rv) i T W->∀s,(eG o.op).contains s=true->FT (en W G0 bx rv S'.rs) [T s] [S'.get s]:=fun T W E s K=>by
   rw[d.2.1];have U:yv ops c n i s=true:=by
    have A:=OD.1 m i (Qs.2 b0);simp only[Y]at A;exact OD.1 A s (O9.1 K)
   unfold yv at U;cases P:eX s c with
   |none=>
    have J:=gl P;rw[E.keep s J,H s (fun j l=>by
     have:=O9.2 (Om l);rw[J]at this;cases this)]
    exact(y s).later E.wi.2
   |some j=>
    have l:=fy P;simp only[P]at U;split at U
    ·next p=>
     obtain⟨t,Q,he⟩:=u s j l p;have:=E.fact n j s (by simp only[Oo,bne_iff_ne,beq_iff_eq];exact⟨⟨⟨by omega,U⟩,Z⟩,l⟩);unfold RT at this;rw[OE,Q,OW]at this;rw[he];exact this
    next hge=>
    rw[E.old n j s (by simp only[Oo,beq_iff_eq];exact⟨U,l⟩),H s (fun j' a5=>by
     rw[ii B a5 l];omega)]
    exact(y s).later E.wi.2
  have f:∀(k:Nat) (o:Oper),D[k]? =some o->ops[i+1+k]? =some o:=fun k x P=>by have:=hops (k+1) x (by simpa using P);rw[show i+1+k=i+(k+1) by omega,this]
  have g:i+1+D.length<=ops.size:=by simp only[Oi]at hlen;omega
  have I:∀t,OpOK o S' t->ts[i]? =some t->∀(T:Nat->Value) (W:World),Given ops c a.tmps (RT G0 bx rv S.rs ts) (fun _=>none) (WT w0 w G0 S bx rv) i T W->OpRuns Tryz.prog o T W fun v W'=>RT G0 bx rv S.rs ts i v W'/\Below W.heap.size W W':=fun t q Q T W E=>by
   have:=q w0 G0 bx rv W T (by rw[d.1,d.2.1];exact E.wi.1) (M T W E);rw[d.2.1]at this;unfold RT;rw[OE,Q,OW];exact this
  have F:∀j s R,(j !=i&&reach ops n i j&&decide (j<i)&&c[j]? ==some (some s))=true->S'.get s=.sc R->(j !=i&&reach ops n i j&&(none:Option Nat)==none&&c[j]? ==some (some s))=true/\∀v W,RT G0 bx rv S.rs ts j v W->v=R:=fun j s R l hS=>by
   simp only[Oo,bne_iff_ne,beq_iff_eq,decide_eq_true_eq]at l⊢;obtain⟨⟨⟨A,V⟩,h3⟩,h4⟩:=l;refine⟨⟨⟨⟨A,V⟩,trivial⟩,h4⟩,fun v W L=>?_⟩;obtain⟨t,Q,he⟩:=u s j h4 h3;unfold RT at L;rw[OE,Q,OW,<-he,hS]at L;exact L.isSc
  cases h with
  | @op _ _ _ _ t ts' hg q K=>
   obtain⟨e1,O,e3,e4⟩:=z t ts' rfl;exact .cons (by rw[hg];trivial) (I t q O) (jc B m r y ts D (i+1) ts' _ K f e1 e3 g e4)
  | @cnd _ _ _ _ t ts' j b s C _ hg l E q K=>
   obtain⟨R,hS,hC⟩:=E;obtain⟨e1,O,e3,e4⟩:=z _ ts' rfl;obtain⟨g1,g2⟩:=F j s R l hS;by_cases N:C
   ·rw[if_pos N]at O;exact .cons (by rw[hg];exact⟨n,s,g1,fun v W L=>(g2 v W L).trans (hC.1 N)⟩) (I t (q N) O) (jc B m r y ts D (i+1) ts' _ K f e1 e3 g e4)
   rw[if_neg N]at O;refine .skip n s hg g1 (fun v W L e=>N (hC.2 ((g2 v W L).symm.trans e))) (fun W=>?_) (jc B m r y ts D (i+1) ts' _ K f e1 e3 g e4);unfold RT;rw[OE,O,OW];exact .pure (.sc _ .nil) .nil
theorem Em{a:Act}{b:List (Option Nat)}{us:List Value}(c:b7 a.tmps.size b=true)(e:us.length=b.length)(s:Nat):(cM a.tmps (b.zip us)).getD s undef=match eX s b with|none=>a.tmps.getD s undef|some j=>us.getD j undef:=by
 cases d:eX s b with
 |none=>exact fH b us _ s (gl d)
 |some j=>exact(dn b us _ j s c e (fy d)).1
theorem xn{a:Act}{W:World}{bx:List Nat}{rv:List Value}{b:List (Option Nat)}{us:List Value}{ts:List Tree}(d:b7 S.n b=true)(p:a.tmps.size=S.n)(l:a.defers=[])(h:us.length=b.length)(q:ts.length=b.length)(s:Mem w0 G0 S.bs S.rs bx rv W)(g:∀i,FT (en W G0 bx rv S.rs) [a.tmps.getD i undef] [S.get i])(r:∀j,j<b.length->RT G0 bx rv S.rs ts j (us.getD j undef) W):Sim w0 G0 (fO S b ts) ⟨cM a.tmps (b.zip us),a.defers⟩ W:=by
 have c:=lQ b ts S;refine⟨bx,rv,by rw[c.1,c.2.1];exact s,by rw[c.2.2,gI];exact p,l,fun i=>?_⟩;rw[c.2.1];show FT _ [(cM a.tmps (b.zip us)).getD i undef] _
 rw[Em (by rw[p];exact d) h];cases m:eX i b with
 |none=>rw[jQ b ts S i (gl m)];exact g i
 |some j=>
  have o:=fy m;have k:=(Ok.1 o).1;have:=r j k;unfold RT at this;have f:j<ts.length:=by omega
  have e:ts.getD j .any=ts[j]:=by rw[OE,Og f,OW]
  rw[e]at this;rw[nA b ts S S.n j i _ d o (Og f)];exact this
theorem Ge{id n:Nat}{ops:List Oper}{b:List (Option Nat)}{ts:List Tree}(r:fE ops.toArray=true)(p:ops.map (·.dst)=b)(c:b7 S.n b=true)(d:mY ops.toArray b n=true)(f:Chain ops.toArray b n 0 S ops ts)(k:Q .normal (fO S b ts)):AWP w0 G0 (.region id ops.toArray true) Q S:=by
 rintro a w ⟨bx,rv,A,l,q,e⟩;have m:b.length=ops.length:=by rw[<-p];simp
 have g:=jc (w0:=w0) (G0:=G0) (S:=S) (w:=w) (bx:=bx) (rv:=rv) (a:=a) (by rw[l];exact c) d (by simpa using p) e ts ops 0 ts S f (fun k o y=>by simpa using y) Z Z (by simp) (OA _);refine mX b (RT G0 bx rv S.rs ts) (fun _=>none) (WT w0 w G0 S bx rv) (fun _ W W'=>Below W.heap.size W W') (by kernel_rfl) r (by simpa using p) (by rw[l];exact c)
  (fun _ W W' s x=>⟨s.1.later x,s.2.trans (x.mono s.2.size)⟩) (fun _ j v W W' _ _ h z=>FT.later h z) ⟨A.later (Below.refl _ _).drew,(Below.refl _ _).drew⟩ (by simpa using g) ?_
 intro us W t h u;exact⟨_,k,xn c l q t (by rw[m];exact f.length.symm) u.1 (fun i=>(e i).later u.2) (fun j B=>h j (by simp;omega) Z)⟩
theorem OpRuns.mono{P:Program}{o:Oper}{T:Nat->Value}{W:World}{K b:Value->World->Prop}(h:OpRuns P o T W K)(a:∀v W,K v W->b v W):OpRuns P o T W b:=by
 unfold OpRuns at h⊢;generalize (execOp (dm T) o).run P W=r at h;cases r with
 |ok n w'=>
  cases n<;>first
   |exact a _ _ h
   |exact Calls.mono h (fun e d ⟨v,c,h⟩=>⟨v,c,a _ _ h⟩)
   |exact h.elim
 |halt x w'=>exact h.elim
theorem StepsT.plain{P:Program}{ops:Array Oper}{a:List (Option Nat)}{t:Array Value}{R:Nat->Value->World->Prop}{cons:Nat->Option Nat}{f:World->Prop}{c:Nat->World->World->Prop}:∀{d:List Oper} {i:Nat},StepsT P ops a t R cons f c i d->(d.all fun o=>o.guard.isNone)=true->Steps P ops a t R cons f c i d
 |[],_,_,_=>trivial
 |o::d,i,h,hg=>by
  simp only[PS,Oo]at hg;refine⟨?_,StepsT.plain h.2 hg.2⟩;rcases h.1 with e|⟨j,b,n,s,e,_⟩
  ·exact e
  rw[e]at hg;simp at hg
theorem xo{id n:Nat}{ops:List Oper}{c:Oper}{b:List (Option Nat)}{ts:List Tree}{S':St}(D:fE (ops++[c]).toArray=true)(K:ops.map (·.dst)=b)(f:c.dst=none)(x:c.guard=none)(H:(ops.all fun o=>o.guard.isNone)=true)(g:b7 S.n (b++[none])=true)(p:mY (ops++[c]).toArray (b++[none]) n=true)(r:(List.range ops.length).all (fun i=>reach (ops++[c]).toArray ops.length ops.length i)=true)
  (t:Chain (ops++[c]).toArray (b++[none]) n 0 S ops ts) (z:lL w0 G0 c (fO S b ts) S') (k:Q .normal S'):AWP w0 G0 (.region id (ops++[c]).toArray true) Q S:=by
 rintro a w ⟨bx,rv,O,A,C,q⟩;have B:b.length=ops.length:=by rw[<-K];simp
 have m:ts.length=b.length:=by rw[B];exact t.length.symm
 have s:(ops++[c]).map (·.dst)=b++[none]:=by rw[PE,K];simp[f]
 have u:=(jc (w0:=w0) (G0:=G0) (S:=S) (w:=w) (bx:=bx) (rv:=rv) (a:=a) (by rw[A];exact g) p (by simpa using s) q ts ops 0 ts S t (fun k o I=>by rw[Pk,PY,OJ (Ok.1 I).1];exact I) Z Z (by simp) (OA _)).plain H;refine mU (b++[none]) (RT G0 bx rv S.rs ts) (fun _=>none) (WT w0 w G0 S bx rv) (fun _ W W'=>Below W.heap.size W W') (by kernel_rfl) D (by simpa using s) (by rw[A];exact g) (fun _=>rfl)
  (fun _ W W' E L=>⟨E.1.later L,E.2.trans (L.mono E.2.size)⟩) (fun _ j v W W' _ y M=>FT.later y M) ⟨O.later (Below.refl _ _).drew,(Below.refl _ _).drew⟩ ops.length c (by simp) (by simp) x f r (by simpa using u) ?_
 intro us W F y J;have d:Sim w0 G0 (fO S (b++[none]) (ts++[.any])) ⟨cM a.tmps ((b++[none]).zip us),a.defers⟩ W:=xn g A C F (by simp[m]) J.1 (fun i=>(q i).later J.2) (fun j N=>by
  unfold RT;by_cases G:j<ts.length
  ·have:=y j (by omega);unfold RT at this;have e:(ts++[Tree.any]).getD j .any=ts.getD j .any:=by rw[OE,OJ G,<-OE]
   rw[e];exact this
  have:j=ts.length:=by simp at N;omega
  subst this;rw[OE (l:=ts++[Tree.any]),ON (Oh _),Pb];exact .any _ .nil)
 rw[kk _ _ _ _ _ m.symm]at d;have:=z _ _ d;rw[f]at this;exact this.mono fun v W h=>⟨_,k,h⟩
end
section
variable {w0:World} {G0:Bse} {ops:Array Oper} {rest:List Oper} {Q:Exit->St->Prop} {o:Oper} {n:Nat} {sl:List (Nat×Tree)} {bs:List (TypeId×List Tree)} {rs:List (Option Row)} {S:St}
theorem ah{t a:Tree}(h:OpOK o S t)(e:t=a):OpOK o S a:=e▸h
theorem ag{d:Nat}{t:Tree}(c:o.guard=none)(a:o.dst=some d)(b:Nat.blt d n=true)(h:OpOK o ⟨n,sl,bs,rs⟩ t)(k:AOps w0 G0 ops rest Q ⟨n,(d,t)::sl,bs,rs⟩):AOps w0 G0 ops (o::rest) Q ⟨n,sl,bs,rs⟩:=by
 refine Db c ?_ h ?_
 ·rw[a];simpa[cC,Pn]using b
 rw[a];exact k
theorem Bm{d j s:Nat}{t:Tree}{b:Bool}(C:Prop)[Decidable C](A:o.guard=some (j,b))(G:(ops[j]?).bind (·.dst)=some s)(M:Nat.blt s n=true)(R:∃c,look sl s=.sc c/\(C↔c=.bool b))(D:o.dst=some d)(N:Nat.blt d n=true)(h:C->OpOK o ⟨n,sl,bs,rs⟩ t)
  (k:AOps w0 G0 ops rest Q ⟨n,(d,if C then t else .sc undef)::sl,bs,rs⟩):AOps w0 G0 ops (o::rest) Q ⟨n,sl,bs,rs⟩:=by
 obtain⟨c,K,H⟩:=R;rintro a w ⟨bx,rv,L,f,u,l⟩;have y:cC n o.dst=true:=by rw[D];simpa[cC,Pn]using N
 have p:a.tmps.getD s undef=c:=by
  have:=l s;have e:St.get ⟨n,sl,bs,rs⟩ s=.sc c:=K;rw[e]at this;exact this.isSc
 have z:s<a.tmps.size:=by rw[f];simpa[Pn]using M
 have I:a.tmps[s]? =some c:=by
  rw[O1 z];rw[O7,O1 z]at p;exact congrArg some p
 by_cases m:C
 ·have J:Region.wanted o (yielded ops a.tmps)=true:=by
   simp only[Region.wanted,A,yielded,G,PC,I,H.1 m];cases b<;>rfl
  rw[if_pos m]at k;refine vo (S:=⟨n,sl,bs,rs⟩) (t:=t) (fun B w' F=>?_) y (h m) (by rw[D];exact k) a w ⟨bx,rv,L,f,u,l⟩;obtain⟨O,P,_,r,_,q⟩:=F;have i:B.tmps.getD s undef=c:=by
   have:=q s;have e:St.get ⟨n,sl,bs,rs⟩ s=.sc c:=K;rw[e]at this;exact this.isSc
  have g:s<B.tmps.size:=by rw[r];simpa[Pn]using M
  have E:B.tmps[s]? =some c:=by
   rw[O1 g];rw[O7,O1 g]at i;exact congrArg some i
  simp only[Region.wanted,A,yielded,G,PC,E,H.1 m];cases b<;>rfl
 have J:Region.wanted o (yielded ops a.tmps)=false:=by
  simp only[Region.wanted,A,yielded,G,PC,I];cases c with
  |bool x=>cases x<;>cases b<;>first|rfl|exact absurd (H.2 Z) m
  |_=>rfl
 rw[if_neg m]at k;simp only[wpList];rw[if_neg (by rw[J];exact Pd)];refine k _ _ ⟨bx,rv,L,by rw[dW];exact f,by rw[cU,u],?_⟩;have:=iK (S:=⟨n,sl,bs,rs⟩) (o:=o) (t:=.sc undef) (v:=undef) (rs:=rs) (w':=w) (G0:=G0) f y (fun _ _ h=>h) l (.pure (.sc _ .nil) .nil);rw[D]at this⊢;exact this
theorem qG{p b:Bool}:∃a,(Tree.sc (.bool p))=.sc a/\((p=b)↔a=.bool b):=⟨_,Z,by simp⟩
theorem Ld{A:Prop}[Decidable A]{p b:Bool}:∃a,(if A then Tree.sc (.bool p)else .sc undef)=.sc a/\((A/\p=b)↔a=.bool b):=⟨if A then .bool p else undef,by split<;>rfl,by split<;>simp_all [undef]⟩
theorem aw{d j s:Nat}{t:Tree}{b p:Bool}(c:o.guard=some (j,b))(g:(ops[j]?).bind (·.dst)=some s)(e:look sl s=.sc (.bool p))(f:o.dst=some d)(h:p=b->OpOK o ⟨n,sl,bs,rs⟩ t)(k:AOps w0 G0 ops rest Q ⟨n,(d,if p=b then t else .sc undef)::sl,bs,rs⟩)(a:(Nat.blt s n&&Nat.blt d n)=true:=by rfl):AOps w0 G0 ops (o::rest) Q ⟨n,sl,bs,rs⟩:=by
 rw[Oo]at a;exact Bm (p=b) c g a.1 (e▸qG) f a.2 h k
theorem ce{A:Prop}[Decidable A]{d j s:Nat}{t:Tree}{b p:Bool}(c:o.guard=some (j,b))(g:(ops[j]?).bind (·.dst)=some s)(e:look sl s=if A then .sc (.bool p)else .sc undef)(f:o.dst=some d)(h:A/\p=b->OpOK o ⟨n,sl,bs,rs⟩ t)(k:AOps w0 G0 ops rest Q ⟨n,(d,if A/\p=b then t else .sc undef)::sl,bs,rs⟩)(a:(Nat.blt s n&&Nat.blt d n)=true:=by rfl):AOps w0 G0 ops (o::rest) Q ⟨n,sl,bs,rs⟩:=by
 rw[Oo]at a;exact Bm (A/\p=b) c g a.1 (e▸Ld) f a.2 h k
theorem aL{c a b:Operand}{x:Bool}{t:Tree}(d:o.op=.pick c a b)(e:S.ev c=.sc (.bool x))(f:x=true->S.ev a=t)(g:x=false->S.ev b=t):OpOK o S t:=by
 cases x with
 |true=>exact Dc d e (f Z)
 |false=>exact Dc d e (g Z)
theorem ai{op:BinOp}{c i:TypeId}{x y:Operand}{b d v:Value}(a:o.op=.binOp op c x y i)(f:S.ev x=.sc b)(k:S.ev y=.sc d)(h:∀w,(do eqGuard op c x y b d;binOp op c b d:Sem Value).run Tryz.prog w=.ok v w):OpOK o S (.sc v):=by
 intro w0 G0 bx rv w T l e;have g:=(bH e f (by rw[a];simp[Op.operands])).isSc;have j:=(bH e k (by rw[a];simp[Op.operands])).isSc;refine aB (v:=v) (W':=w) ?_ ⟨.pure (.sc _ .nil) .nil,Below.refl _ _⟩;simp only[execOp,a,g,j];rw[Sem.run_bind,h w];rfl
theorem dw{op:UnOp}{e:TypeId}{x:Operand}{b v:Value}(a:o.op=.unOp op e x)(d:S.ev x=.sc b)(h:∀w,(Op.unary op b).run Tryz.prog w=.ok v w):OpOK o S (.sc v):=by
 intro w0 G0 bx rv w T g f;have c:=(bH f d (by rw[a];simp[Op.operands])).isSc;refine aB (v:=v) (W':=w) ?_ ⟨.pure (.sc _ .nil) .nil,Below.refl _ _⟩;simp only[execOp,a,c];rw[Sem.run_bind,h w];rfl
theorem bM{a b:TypeId}{x:Operand}{k e:IntKind}{m:Int}{d:TypeDesc}(c:o.op=.convert a b x)(j:Tryz.prog.underlying a=some d)(h:Tryz.prog.underlying b=some (.int k))(f:S.ev x=.sc (.int e m)):OpOK o S (.sc (.int k (k.wrap m))):=by
 intro w0 G0 bx rv w T l i;have g:=(bH i f (by rw[c];simp[Op.operands])).isSc;refine aB (v:=.int k (k.wrap m)) (W':=w) ?_ ⟨.pure (.sc _ .nil) .nil,Below.refl _ _⟩;simp[execOp,c,g,convert,run_underlying j,run_underlying h,Conv.intToInt]
theorem fj{x:Operand}{t:TypeId}{s:ByteArray}(a:o.op=.call {callee:=.builtin .len,args:=#[x],argTypes:=#[t]})(d:Tryz.prog.underlying t=some .string)(c:S.ev x=.sc (.string s)):OpOK o S (.sc (.int .i64 (s.size:Nat))):=by
 intro w0 G0 bx rv w T f e;have b:=(bH e c (by rw[a];simp[Op.operands,Call.operands])).isSc;refine aB (v:=.int .i64 (s.size:Nat)) (W':=w) ?_ ⟨.pure (.sc _ .nil) .nil,Below.refl _ _⟩;simp[execOp,a,resolve,invoke,builtin,Builtin.len_,b,run_underlying d,goInt]
theorem eg{x g:Operand}{t:TypeId}{s:ByteArray}{k:IntKind}{i:Int}{j:Nat}{c:UInt8}(e:o.op=.index t x g)(p:Tryz.prog.underlying t=some .string)(m:S.ev x=.sc (.string s))(l:S.ev g=.sc (.int k i))(q:i=j)(d:s.data.toList[j]? =some c):OpOK o S (.sc (.int .u8 c.toNat)):=by
 intro w0 G0 bx rv w T u h;have n:=(bH h m (by rw[e];simp[Op.operands])).isSc;have r:=(bH h l (by rw[e];simp[Op.operands])).isSc;subst q;have b:j<s.size:=by have:=(Ok.1 d).1;simpa using this
 have f:s[j]? =some c:=by
  rw[getElem?_pos s j b];rw[PJ]at d;have a:j<s.data.size:=b;rw[O1 a]at d;exact d
 refine aB (v:=.int .u8 c.toNat) (W':=w) ?_ ⟨.pure (.sc _ .nil) .nil,Below.refl _ _⟩;simp[execOp,e,n,r,Instr.index,asIntOf,run_underlying p,f]
theorem fK{x:Operand}{lo d:Option Operand}{t:TypeId}{l h:Nat}{s:ByteArray}(b:o.op=.slice t x lo d none)(e:Tryz.prog.underlying t=some .string)(r:S.ev x=.sc (.string s))(c:Lx S lo l)(a:Ly S s.size d h)(p:l<=h)(A:h<=s.size):OpOK o S (.sc (.string (s.extract l h))):=by
 intro w0 G0 bx rv w T z f;have g:=(bH f r (by rw[b];simp[Op.operands])).isSc;refine aB (v:=.string (s.extract l h)) (W':=w) ?_ ⟨.pure (.sc _ .nil) .nil,Below.refl _ _⟩;have n:¬s.size<h:=by omega
 cases lo with
 |none=>
  obtain rfl:l=0:=c;cases d with
  |none=>
   obtain rfl:h=s.size:=a;simp[execOp,b,g,Instr.sliceAt,Instr.slice,Instr.sliceBounds,run_underlying e]
  |some y=>
   obtain⟨k,j⟩:=a;have m:=(bH f j (by rw[b];simp[Op.operands])).isSc;simp[execOp,b,g,m,Instr.sliceAt,Instr.slice,Instr.sliceBounds,Instr.sliceBound,asIntOf,run_underlying e,n]
 |some x=>
  obtain⟨k,j⟩:=c;have q:=(bH f j (by rw[b];simp[Op.operands])).isSc;cases d with
  |none=>
   obtain rfl:h=s.size:=a;simp[execOp,b,g,q,Instr.sliceAt,Instr.slice,Instr.sliceBounds,Instr.sliceBound,asIntOf,run_underlying e,p]
  |some y=>
   obtain⟨u,i⟩:=a;have m:=(bH f i (by rw[b];simp[Op.operands])).isSc;simp[execOp,b,g,m,q,Instr.sliceAt,Instr.slice,Instr.sliceBounds,Instr.sliceBound,asIntOf,run_underlying e,n,p]
theorem aU{a:List (Option Nat)}{m i j s:Nat}{b p:Bool}{c:List Oper}{t:Tree}{ts:List Tree}(d:o.guard=some (j,b))(f:a[j]? =some (some s))(e:S.get s=.sc (.bool p))(h:p=b->OpOK o S t)(k:Chain ops a m (i+1) (S.put o.dst (if p=b then t else .sc undef)) c ts)(g:(j !=i&&reach ops m i j&&decide (j<i))=true:=by kernel_rfl):Chain ops a m i S (o::c) ((if p=b then t else .sc undef)::ts):=
 .cnd j b s (p=b) d (by rw[g,f];exact beq_self_eq_true _) (e▸qG) h k
theorem MJ{A:Prop}[Decidable A]{a:List (Option Nat)}{m i j s:Nat}{b p:Bool}{c:List Oper}{t:Tree}{ts:List Tree}(d:o.guard=some (j,b))(f:a[j]? =some (some s))(e:S.get s=if A then .sc (.bool p)else .sc undef)(h:A/\p=b->OpOK o S t)(k:Chain ops a m (i+1) (S.put o.dst (if A/\p=b then t else .sc undef)) c ts)(g:(j !=i&&reach ops m i j&&decide (j<i))=true:=by kernel_rfl):Chain ops a m i S (o::c) ((if A/\p=b then t else .sc undef)::ts):=
 .cnd j b s (A/\p=b) d (by rw[g,f];exact beq_self_eq_true _) (e▸Ld) h k
end
def LC(P:Program)(s:TypeId)(j:Nat):Option Nat:=
 match P.underlying s with
 |some (.struct fs)=>(fs[j]?).bind fun f=>if ja P f.type then some f.offset else none
 |_=>none
theorem De{S:St}{o:Oper}{x:Operand}{s:TypeId}{j off:Nat}{cs:List Tree}{t:Tree}(g:o.op=.field s x j)(h:S.ev x=.agg cs)(a:LC Tryz.prog s j=some off)(m:cs[off]? =some t):OpOK o S t:=by
 intro w0 G0 bx rv w T r n;obtain⟨xs,i,p⟩:=(bH n h (by rw[g];simp[Op.operands])).isAgg;obtain⟨u,k,l⟩:=p.get off t m;unfold LC at a;split at a
 ·next fs hu=>
  cases b:fs[j]? with
  |none=>simp[b]at a
  |some f=>
   simp only[b,PC]at a;split at a
   ·next hone=>
    injection a with a
    subst a;obtain⟨d,e,q⟩:=xj hone;have c:(isAgg f.type).run Tryz.prog w=.ok false w:=by
     unfold isAgg;rw[Sem.run_bind,run_underlying e w];cases d<;>simp_all
    refine aB (v:=u) (W':=w) ?_ ⟨l,Below.refl _ _⟩;simp[execOp,g,i,Instr.field,run_underlying hu,b,part,c,asAgg,k]
   cases a
 cases a
section
variable {w0:World} {G0:Bse} {ops:Array Oper} {rest:List Oper} {Q:Exit->St->Prop} {o:Oper} {n:Nat} {sl:List (Nat×Tree)} {bs:List (TypeId×List Tree)} {rs:List (Option Row)} {S:St}
theorem Eo{d b:Nat}{ty:TypeId}{x:Operand}{t:Tree}{cs:List Tree}(e:o.op=.box ty x)(f:o.guard=none)(c:o.dst=some d)(j:Nat.blt d n=true)(i:St.ev ⟨n,sl,bs,rs⟩ x=t)(h:t.oneA=true)(l:t.cells=cs)(m:cs.all Tree.noDig=true)(g:bs.length=b){bs':List (TypeId×List Tree)}(a:bs++[(ty,cs)]=bs')
  (k:AOps w0 G0 ops rest Q ⟨n,(d,.box b 0)::sl,bs',rs⟩):AOps w0 G0 ops (o::rest) Q ⟨n,sl,bs,rs⟩:=by
 subst l g a;refine dF f (Lz (S:=⟨n,sl,bs,rs⟩) e (by rw[c];simpa[cC,Pn]using j) i h m) ?_;rw[c];exact k
theorem yw{d b:Nat}{ty:TypeId}{c:List Value}{cs:List Tree}(f:o.op=.alloc ty)(g:o.guard=none)(e:o.dst=some d)(j:Nat.blt d n=true)(h:gJ Tryz.prog ty=some c)(m:c.all bG=true)(l:c.map dN=cs)(i:bs.length=b){bs':List (TypeId×List Tree)}(a:bs++[(ty,cs)]=bs')
  (k:AOps w0 G0 ops rest Q ⟨n,(d,.box b 0)::sl,bs',rs⟩):AOps w0 G0 ops (o::rest) Q ⟨n,sl,bs,rs⟩:=by
 subst l i a;refine dF g (sN (S:=⟨n,sl,bs,rs⟩) f (by rw[e];simpa[cC,Pn]using j) h m) ?_;rw[e];exact k
theorem yx{ty e:TypeId}{x y:Operand}{b off m:Nat}{cs:List Tree}{t:Tree}(g:o.op=.store ty x y)(h:o.guard=none)(a:o.dst=none)(j:St.ev ⟨n,sl,bs,rs⟩ x=.box b off)(i:bs[b]? =some (e,cs))(q:St.ev ⟨n,sl,bs,rs⟩ y=t)(l:t.oneA=true)(s:t.cells.all Tree.one=true)(p:t.cells.all Tree.noDig=true)(r:(Tryz.prog.info? ty).map (·.size)=some m)(f:t.cells.length=m)(d:Nat.ble (off+m) cs.length=true){bs':List (TypeId×List Tree)}(c:bs.set b (e,Ga cs off t)=bs')
  (k:AOps w0 G0 ops rest Q ⟨n,sl,bs',rs⟩):AOps w0 G0 ops (o::rest) Q ⟨n,sl,bs,rs⟩:=by
 subst c;exact dF h (lM (S:=⟨n,sl,bs,rs⟩) g a j i q l s p r f (by simpa using d)) k
theorem a8{d k m b:Nat}{x y:Operand}{t:TypeId}{R:Row}{a:List Tree}(s:o.op=.call {callee:=.builtin .append,args:=#[x,y],argTypes:=#[t,t]})(u:o.guard=none)(h:o.dst=some d)(q:Nat.blt d n=true)(j:jP Tryz.prog t=some (R.e,R.sz,b))(i:St.ev ⟨n,sl,bs,rs⟩ x=.own k)(l:rs[k]? =some (some R))(r:St.ev ⟨n,sl,bs,rs⟩ y=.sl a)(z:R.sz=m)(C:Sized m a)(A:AllC Tree.one a)(w:AllC Tree.noDig a)(B:R.es.length+a.length<=1073741824)(v:Nat.ble b 100000=true){sl':List (Nat×Tree)}{bs':List (TypeId×List Tree)}{rs':List (Option Row)}(c:sl.map (fun p=>(p.1,fi k p.2))=sl')(f:bs.map (fun p=>(p.1,p.2.map (ir k)))=bs')(g:rs.set k (some ⟨R.e,R.sz,R.es++a,false⟩)=rs')
  (K:AOps w0 G0 ops rest Q ⟨n,(d,.own k)::sl',bs',rs'⟩):AOps w0 G0 ops (o::rest) Q ⟨n,sl,bs,rs⟩:=by
 subst z c f g;refine dF u (vr (S:=⟨n,sl,bs,rs⟩) s (by rw[h];simpa[cC,Pn]using q) j i l r C A w B (by simpa using v)) ?_;rw[h];exact K
def jq:List (Nat×Tree)->List (Option Nat)->List Tree->List (Nat×Tree)
 |sl,some d::ds,t::ts=>jq ((d,t)::sl) ds ts
 |sl,none::ds,_::ts=>jq sl ds ts
 |sl,_,_=>sl
theorem kX(n:Nat)(bs:List (TypeId×List Tree))(rs:List (Option Row)):∀(a:List (Option Nat)) (ts:List Tree) (sl:List (Nat×Tree)),fO ⟨n,sl,bs,rs⟩ a ts=⟨n,jq sl a ts,bs,rs⟩
 |[],_,sl=>by cases sl<;>rfl
 |some d::a,[],sl=>rfl
 |none::a,[],sl=>rfl
 |some d::a,t::ts,sl=>kX n bs rs a ts _
 |none::a,t::ts,sl=>kX n bs rs a ts _
theorem ck{id fu:Nat}{ops:List Oper}(a:List (Option Nat))(ts:List Tree){sl':List (Nat×Tree)}(d:fE ops.toArray=true)(g:ops.map (·.dst)=a)(e:b7 n a=true)(b:mY ops.toArray a fu=true)(c:jq sl a ts=sl')(f:Chain ops.toArray a fu 0 ⟨n,sl,bs,rs⟩ ops ts)(k:Q .normal ⟨n,sl',bs,rs⟩):AWP w0 G0 (.region id ops.toArray true) Q ⟨n,sl,bs,rs⟩:=
 Ge d g e b f (by rw[kX,c];exact k)
theorem dS{id fu:Nat}{ops:List Oper}{c:Oper}(a:List (Option Nat))(ts:List Tree){sl':List (Nat×Tree)}{ty u:TypeId}{x y:Operand}{b off m:Nat}{cs:List Tree}{t:Tree}{bs':List (TypeId×List Tree)}(p:fE (ops++[c]).toArray=true)(C:ops.map (·.dst)=a)(f:c.dst=none)(g:c.guard=none)(r:(ops.all fun o=>o.guard.isNone)=true)(q:b7 n (a++[none])=true)(d:mY (ops++[c]).toArray (a++[none]) fu=true)(e:(List.range ops.length).all (fun i=>reach (ops++[c]).toArray ops.length ops.length i)=true)(j:jq sl a ts=sl')
  (A:c.op=.store ty x y) (w:St.ev ⟨n,sl',bs,rs⟩ x=.box b off) (B:bs[b]? =some (u,cs)) (z:St.ev ⟨n,sl',bs,rs⟩ y=t) (E:t.oneA=true) (D:t.cells.all Tree.one=true) (F:t.cells.all Tree.noDig=true) (G:(Tryz.prog.info? ty).map (·.size)=some m) (v:t.cells.length=m) (h:Nat.ble (off+m) cs.length=true) (l:bs.set b (u,Ga cs off t)=bs')
  (s:Chain (ops++[c]).toArray (a++[none]) fu 0 ⟨n,sl,bs,rs⟩ ops ts) (k:Q .normal ⟨n,sl',bs',rs⟩):AWP w0 G0 (.region id (ops++[c]).toArray true) Q ⟨n,sl,bs,rs⟩:=by
 subst j l;refine xo p C f g r q d e s ?_ k;rw[kX];exact lM (S:=⟨n,jq sl a ts,bs,rs⟩) A f w B z E D F G v (by simpa using h)
structure Le (S S':St) (m k:Nat):Prop where
 n:S'.n=S.n
 bs:S'.bs=S.bs.take m
 rs:S'.rs=S.rs.take k
 sl:Keeps S m k S'.sl
 ok:(S'.bs.all fun p=>p.2.all (within0 m k))=true
theorem Sim.le{S':St}{m k:Nat}{a:Act}{w:World}(h:Sim w0 G0 S a w)(d:Le S S' m k)(b:G0.pn<=m:=by first|exact OA _|exact Nat.le_of_ble_eq_true Z):Sim w0 G0 S' a w:=by
 obtain⟨e,c,f,g,i⟩:=d;have:=h.less m k S'.sl g (by rw[<-c];exact i) b;rw[<-e,<-c,<-f]at this;exact this
theorem Gf{c:Code}{S':St}(m k:Nat)(d:Le S S' m k)(h:AWP w0 G0 c Q S')(b:G0.pn<=m:=by first|exact OA _|exact Nat.le_of_ble_eq_true Z):AWP w0 G0 c Q S:=fun a w e=>h a w (e.le d b)
theorem aO{c:Code}(I:Nat->St->Prop){j:Nat}{i:St}(m k:Nat)(s:I j i)(g:Le S i m k)(a:∀n S,I n S->AWP w0 G0 c (yr (fun S'=>∃d b,d<n/\I d b/\Le S' b m k) Q) S)(f:G0.pn<=m:=by first|exact OA _|exact Nat.le_of_ble_eq_true Z):AWP w0 G0 (.loop c) Q S:=by
 refine Gd (fun n S=>∃b,I n b/\Le S b m k) j ⟨i,s,g⟩ ?_;rintro n S ⟨b,o,l⟩;refine Gf m k l ((a n b o).mono ?_) f;intro e S' h;cases e with
 |normal=>
  obtain⟨d,r,p,t,q⟩:=h;exact⟨d,p,r,t,q⟩
 |_=>exact h
theorem o8{x y:Code}{d:Exit->St->Prop}(c:St)(m k:Nat)(h:AWP w0 G0 x (yr (fun S'=>Le S' c m k) d) S)(f:AWP w0 G0 y Q c)(a:G0.pn<=m:=by first|exact OA _|exact Nat.le_of_ble_eq_true Z):AWP w0 G0 x (yr (AWP w0 G0 y Q) d) S:=h.mono fun e S' b=>by
 cases e with
 |normal=>exact Gf m k b f a
 |_=>exact b
end
theorem Df{a:Int}{m:Nat}(h:a=m)(b:m<9223372036854775808):(Tree.sc (.int .i64 (IntKind.i64.wrap a)))=.sc (.int .i64 (m:Nat)):=by
 subst h;congr 2;rw[Pj];omega
theorem r9{c:TypeId}{x y:Operand}{a b:ByteArray}{w:World}(h:a.size+b.size<=4611686018427387904):(do eqGuard .add c x y (.string a) (.string b);binOp .add c (.string a) (.string b):Sem Value).run Tryz.prog w=.ok (.string (a++b)) w:=by
 simp[eqGuard,binOp,Op.stringOp];omega
theorem eo{α:Type}{a b:α}{l m:List α}(h:a=b)(c:l=m):a::l=b::m:=by rw[h,c]
theorem ez{k:IntKind}{a b:Int}(h:a=b):(Tree.sc (.int k a))=.sc (.int k b):=by rw[h]
theorem au{p q:Bool}(h:p=q):(Tree.sc (.bool p))=.sc (.bool q):=by rw[h]
theorem gK(a b:Nat):decide ((a:Int)<(b:Int))=decide (a<b):=decide_eq_decide.2 (by omega)
theorem F0(a b:Nat):decide ((a:Int)<=(b:Int))=decide (a<=b):=decide_eq_decide.2 (by omega)
theorem qH(a b:Nat):decide ((a:Int)>(b:Int))=decide (b<a):=decide_eq_decide.2 (by omega)
theorem Gg(a b:Nat):decide ((a:Int)≥(b:Int))=decide (b<=a):=decide_eq_decide.2 (by omega)
theorem iF(a b:Nat):((a:Int)==(b:Int))=decide (a=b):=by
 rw[QQ,beq_iff_eq,decide_eq_true_eq];omega
theorem qC(a b:Nat):((a:Int) !=(b:Int))=decide (a≠b):=by
 rw[QQ,bne_iff_ne,decide_eq_true_eq];omega
end Go.Proofs.YtfoejfohbkmmeaaGreatDoor
