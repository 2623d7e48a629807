import Derived.Test.YtfoejfohbkmmeaaGreatDoorP01
import Derived.Test.YtfoejfohbkmmeaaGreatDoorP00
import Derived.Test.YtfoejfohbkmmeaaGreatDoorP04
namespace Go.Proofs.YtfoejfohbkmmeaaGreatDoor
open Go.RowKit
open Lib renaming hid→J
def Jb(P:Program)(ops:Array Oper)(dsts:List (Option Nat))(t:Array Value)(R:Nat->Value->World->Prop)(cons:Nat->Option Nat)(WI:World->Prop)(Ext:Nat->World->World->Prop)(i:Nat)(o:Oper):Prop:=
 (oH ops dsts R cons i o.guard/\∀(T:Nat->Value) (W:World),Given ops dsts t R cons WI i T W->OpRuns P o T W fun v W'=>R i v W'/\Ext i W W')\/
 (∃j b n s,o.guard=some (j,b)/\(j !=i&&reach ops n i j&&cons j==none&&dsts[j]? ==some (some s))=true/\(∀v W,R j v W->v≠ .bool b)/\∀W,R i undef W)
def StepsT(P:Program)(ops:Array Oper)(dsts:List (Option Nat))(t:Array Value)(R:Nat->Value->World->Prop)(cons:Nat->Option Nat)(WI:World->Prop)(Ext:Nat->World->World->Prop):Nat->List Oper->Prop
 |_,[]=>True
 |i,o::l=>Jb P ops dsts t R cons WI Ext i o/\StepsT P ops dsts t R cons WI Ext (i+1) l
theorem StepsT.at{P:Program}{ops:Array Oper}{a:List (Option Nat)}{t:Array Value}{R:Nat->Value->World->Prop}{cons:Nat->Option Nat}{c:World->Prop}{b:Nat->World->World->Prop}:∀(l:List Oper) (n:Nat),StepsT P ops a t R cons c b n l->∀(k:Nat) (o:Oper),l[k]? =some o->Jb P ops a t R cons c b (n+k) o
 |[],_,_,k,o,h=>by simp at h
 |x::l,n,hs,0,o,h=>by
  simp only[MV,MK]at h;subst h;exact hs.1
 |x::l,n,hs,k+1,o,h=>by
  have:=StepsT.at l (n+1) hs.2 k o (by simpa using h);rw[show n+1+k=n+(k+1) by omega]at this;exact this
theorem StepsT.cons{P:Program}{ops:Array Oper}{a:List (Option Nat)}{t:Array Value}{R:Nat->Value->World->Prop}{cons:Nat->Option Nat}{c:World->Prop}{b:Nat->World->World->Prop}{i:Nat}{o:Oper}{l:List Oper}
  (e:oH ops a R cons i o.guard) (h:∀(T:Nat->Value) (W:World),Given ops a t R cons c i T W->OpRuns P o T W fun v W'=>R i v W'/\b i W W') (d:StepsT P ops a t R cons c b (i+1) l):StepsT P ops a t R cons c b i (o::l):=⟨.inl ⟨e,h⟩,d⟩
theorem StepsT.skip{P:Program}{ops:Array Oper}{a:List (Option Nat)}{t:Array Value}{R:Nat->Value->World->Prop}{cons:Nat->Option Nat}{d:World->Prop}{c:Nat->World->World->Prop}{i:Nat}{o:Oper}{l:List Oper}{j:Nat}{b:Bool}(n s:Nat)
  (f:o.guard=some (j,b)) (h:(j !=i&&reach ops n i j&&cons j==none&&a[j]? ==some (some s))=true) (g:∀v W,R j v W->v≠ .bool b) (k:∀W,R i undef W) (e:StepsT P ops a t R cons d c (i+1) l):StepsT P ops a t R cons d c i (o::l):=⟨.inr ⟨j,b,n,s,f,h,g,k⟩,e⟩
theorem mo{P:Program}{id:Nat}{ops:Array Oper}{Q:Exit->Act->World->Prop}{a:Act}{w:World}(d:List (Option Nat))(R:Nat->Value->World->Prop)(cons:Nat->Option Nat)(D:World->Prop)(E:Nat->World->World->Prop)
  (hm:P.follows .mixedOrders=true) (a2:e8 ops=true) (hd:ops.toList.map (·.dst)=d) (q:b4 a.tmps.size d=true)
  (V:∀i W W',D W->E i W W'->D W') (F:∀i j v W W',cons j≠some i->D W->R j v W->E i W W'->R j v W') (h0:D w.drew)
  (H:StepsT P ops d a.tmps R cons D E 0 ops.toList)
  (Y:∀(us:List Value) (W:World),us.length=d.length->(∀j,j<ops.size->cons j=none->R j (us.getD j undef) W)->D W->Q .normal ⟨cj a.tmps (d.zip us),a.defers⟩ W):(Code.region id ops true).wp P Q a w:=by
 have a9:d.length=ops.size:=by rw[<-hd];simp
 refine fJ (fun L a' W=>∃us,a'=⟨cj a.tmps (d.zip us),a.defers⟩/\L.size=ops.size/\Closed ops L/\MonoAt R cons D (gC a.tmps d) L us W) hm a2 ⟨gC a.tmps d,?_,by simp,gi ops,⟨Z,fun j k=>absurd k j9,fun _ _=>rfl,h0⟩⟩ ?_ ?_
 ·rw[iB]
 ·rintro L a' W i o h1 h2 S h4 ⟨us,rfl,_,hc,m⟩;have hi:i<ops.size:=(MD.1 S).1;have X:d[i]? =some o.dst:=by
   rw[<-hd,MN];simp only[Nj,S,Nq]
  have l:us.length=d.length:=by rw[m.len,dK]
  have M:L.getD i false=false:=getD_both h2;have J:∀n j,j≠i->reach ops n i j=true->L.getD j false=true:=fun n j k A=>by
   have r:=hc.step S h4;have:=r.reach n i j A (dX (by omega));rwa[cl (fun e=>k e.symm)]at this
  have a0:∀n j,reach ops n j i=true->L.getD j false=false:=fun n j A=>by
   cases hl:L.getD j false with
   |false=>rfl
   |true=>
    have:=hc.reach n j i A hl;rw[M]at this;cases this
  have G:Given ops d a.tmps R cons D i (fun s=>(cj a.tmps (d.zip us)).getD s undef) W:=by
   refine⟨fun s f=>ez d us _ s f,fun n j s f=>?_,fun n j s f=>?_,m.wi⟩
   ·simp only[L8,bne_iff_ne,beq_iff_eq]at f;obtain⟨⟨⟨k,A⟩,t⟩,f⟩:=f;show R j ((cj a.tmps (d.zip us)).getD s undef) W
    rw[(co d us _ j s q l f).1];refine m.fact j (J n j k A) fun c h=>?_
    rw[BD,h]at t;exact a0 n c t
   simp only[L8,beq_iff_eq]at f;obtain⟨A,f⟩:=f;show(cj a.tmps (d.zip us)).getD s undef=_
   rw[(co d us _ j s q l f).1,m.old j (a0 n j A),jD _ _ _ _ f]
  have hS:=StepsT.at ops.toList 0 H i o (by simpa using S);rw[MT]at hS;have B:∀j b' n s,(j !=i&&reach ops n i j&&cons j==none&&d[j]? ==some (some s))=true->(∀v W,R j v W->v=.bool b')->yielded ops (cj a.tmps (d.zip us)) j=some b':=by
   intro j b' n s f K;simp only[L8,bne_iff_ne,beq_iff_eq]at f;obtain⟨⟨⟨k,A⟩,t⟩,f⟩:=f;have C:=K _ _ (m.fact j (J n j k A) fun c h=>by rw[t]at h;cases h);rw[<-(co d us _ j s q l f).1]at C;have N:=(co d us a.tmps j s q l f).2;have I:(ops[j]?).bind (·.dst)=some s:=by
    rw[<-hd,MN,Nj]at f;cases U:ops[j]? with
    |none=>simp[U]at f
    |some oj=>simpa[U]using f
   have:(cj a.tmps (d.zip us))[s]? =some (.bool b'):=by
    have T:s<(cj a.tmps (d.zip us)).size:=by rw[fb];exact N
    simp only[MO,MC T,MG]at C;rw[MC T,C]
   simp only[yielded,I,M9,this]
  rcases hS with hS|⟨j,b,n,s,O,f,K,a1⟩
  rotate_left
  ·have hw:Region.wanted o (yielded ops (cj a.tmps (d.zip us)))=false:=by
    unfold Region.wanted;rw[O];simp only[L8,bne_iff_ne,beq_iff_eq]at f;obtain⟨⟨⟨k,A⟩,t⟩,f⟩:=f;have C:=K _ _ (m.fact j (J n j k A) fun c h=>by rw[t]at h;cases h);rw[<-(co d us _ j s q l f).1]at C;have N:=(co d us a.tmps j s q l f).2;have I:(ops[j]?).bind (·.dst)=some s:=by
     rw[<-hd,MN,Nj]at f;cases U:ops[j]? with
     |none=>simp[U]at f
     |some oj=>simpa[U]using f
    have T:s<(cj a.tmps (d.zip us)).size:=by rw[fb];exact N
    simp only[MO,MC T,MG]at C;simp only[yielded,I,M9,MC T];generalize (cj a.tmps (d.zip us))[s]=u at C;cases u with
    |bool x=>
     cases x<;>cases b<;>first|rfl|(exact absurd Z C)
    |_=>rfl
   simp only[wpList];rw[if_neg (by rw[hw];exact MF)];refine⟨us.set i undef,?_,by simpa using h1,hc.step S h4,⟨by simpa using m.len,fun j k h=>?_,fun j k=>?_,m.wi⟩⟩
   ·exact iX d us _ _ i _ undef q l X
   ·by_cases g:i=j
    ·subst g;have:(us.set i undef).getD i undef=undef:=by simp[List.getD,show i<us.length by omega]
     rw[this];exact a1 _
    rw[cl g]at k;have:(us.set i undef).getD j undef=us.getD j undef:=by simp[List.getD,g]
    rw[this];refine m.fact j k fun c r=>?_
    have:=h c r;by_cases z:i=c
    ·subst z;exact M
    rwa[cl z]at this
   by_cases g:i=j
   ·subst g;rw[dX (by omega)]at k;cases k
   rw[cl g]at k;have:(us.set i undef).getD j undef=us.getD j undef:=by simp[List.getD,g]
   rw[this];exact m.old j k
  obtain⟨hg,y⟩:=hS;have y:=y _ W G;have hw:Region.wanted o (yielded ops (cj a.tmps (d.zip us)))=true:=by
   unfold Region.wanted;cases O:o.guard with
   |none=>rfl
   |some p=>
    obtain⟨j,b⟩:=p;rw[O]at hg;obtain⟨n,s,f,K⟩:=hg;have:=B j b n s f K;simp only[this];cases b<;>rfl
  simp only[wpList];rw[if_pos hw];refine .inl<|Oper.wp_mono ?_ y.wp;rintro a5 a4 ⟨v,e,K,hE⟩;refine⟨us.set i v,?_,by simpa using h1,hc.step S h4,⟨by simpa using m.len,fun j k h=>?_,fun j k=>?_,V _ _ _ m.wi hE⟩⟩
  ·rw[e];exact iX d us _ _ i _ v q l X
  ·by_cases g:i=j
   ·subst g;have:(us.set i v).getD i undef=v:=by simp[List.getD,show i<us.length by omega]
    rw[this];exact K
   rw[cl g]at k;have:(us.set i v).getD j undef=us.getD j undef:=by simp[List.getD,g]
   rw[this];refine F i j _ _ _ (fun e=>?_) m.wi (m.fact j k fun c r=>?_) hE
   ·have:=h i e;rw[dX (by omega)]at this;cases this
   have:=h c r;by_cases z:i=c
   ·subst z;exact M
   rwa[cl z]at this
  by_cases g:i=j
  ·subst g;rw[dX (by omega)]at k;cases k
  rw[cl g]at k;have:(us.set i v).getD j undef=us.getD j undef:=by simp[List.getD,g]
  rw[this];exact m.old j k
 rintro L a' W h1 ⟨us,rfl,a3,_,m⟩;refine Y us W (by rw[m.len,dK]) (fun j k h=>m.fact j (h1 j k) fun c r=>by rw[h]at r;cases r) m.wi
def eK(s:Nat):List (Option Nat)->Option Nat
 |[]=>none
 |d::ds=>if d=some s then some 0 else(eK s ds).map (· +1)
theorem eX{s:Nat}:∀{a:List (Option Nat)} {j:Nat},eK s a=some j->a[j]? =some (some s)
 |[],j,h=>by simp[eK]at h
 |d::a,j,h=>by
  simp only[eK]at h;split at h
  ·next e=>cases h;subst e;rfl
  simp only[Nb]at h;obtain⟨k,b,rfl⟩:=h;simpa using eX b
theorem fS{s:Nat}:∀{a:List (Option Nat)},eK s a=none->a.contains (some s)=false
 |[],_=>rfl
 |d::a,h=>by
  simp only[eK]at h;split at h
  ·cases h
  next e=>
  simp only[Pk]at h;simp only[OI,fS h,Qg,beq_eq_false_iff_ne];exact fun b=>e b.symm
theorem ke{n:Nat}:∀{a:List (Option Nat)} (i:Nat),b4 n a=true->b4 n (a.take i)=true
 |[],i,_=>by simp[b4]
 |d::a,0,_=>rfl
 |none::a,i+1,h=>by
  simp only[NR,b4]at h⊢;exact ke i h
 |some s::a,i+1,h=>by
  simp only[NR,b4,L8,Ng]at h⊢;refine⟨⟨?_,h.1.2⟩,ke i h.2⟩;cases b:(a.take i).contains (some s)with
  |false=>rfl
  |true=>
   have:=MM.2 (ME (MM.1 b));rw[h.1.1]at this;cases this
def xz(ops:Array Oper)(dsts:List (Option Nat))(n i s:Nat):Bool:=
 match eK s dsts with
 |none=>true
 |some j=>if j<i then reach ops n i j else reach ops n j i
def mp(ops:Array Oper)(dsts:List (Option Nat))(n:Nat):Bool:=(List.range ops.size).all fun i=>match ops[i]? with
 |some o=>(ej o.op).all (xz ops dsts n i)
 |none=>true
inductive Chain (ops:Array Oper) (dsts:List (Option Nat)) (n:Nat):Nat->St->List Oper->List Tree->Prop
 |nil {i:Nat} {S:St}:Chain ops dsts n i S [] []
 |op {i:Nat} {S:St} {o:Oper} {os:List Oper} {t:Tree} {ts:List Tree} (hg:o.guard=none) (h:OpOK o S t) (hs:Chain ops dsts n (i+1) (S.put o.dst t) os ts):Chain ops dsts n i S (o::os) (t::ts)
 |cnd {i:Nat} {S:St} {o:Oper} {os:List Oper} {t:Tree} {ts:List Tree} (j:Nat) (b:Bool) (s:Nat) (C:Prop) [Decidable C] (hg:o.guard=some (j,b)) (hj:(j !=i&&reach ops n i j&&decide (j<i)&&dsts[j]? ==some (some s))=true) (hG:∃gv,S.get s=.sc gv/\(C↔gv=.bool b)) (h:C->OpOK o S t) (hs:Chain ops dsts n (i+1) (S.put o.dst (if C then t else .sc undef)) os ts):Chain ops dsts n i S (o::os) ((if C then t else .sc undef)::ts)
def fq(S:St):List (Option Nat)->List Tree->St
 |d::ds,t::ts=>fq (S.put d t) ds ts
 |_,_=>S
theorem kf:∀(a:List (Option Nat)) (ts:List Tree) (S:St) (d:Option Nat) (t:Tree),a.length=ts.length->fq S (a++[d]) (ts++[t])=(fq S a ts).put d t
 |[],[],S,d,t,_=>rfl
 |_::a,_::ts,S,d,t,h=>kf a ts _ d t (by simpa using h)
theorem lB:∀(a:List (Option Nat)) (ts:List Tree) (S:St),(fq S a ts).bs=S.bs/\(fq S a ts).rs=S.rs/\(fq S a ts).n=S.n
 |[],_,S=>⟨Z,Z,Z⟩
 |_::_,[],S=>⟨Z,Z,Z⟩
 |d::a,t::ts,S=>by
  have:=lB a ts (S.put d t);rw[eB,c6,fd]at this;exact this
theorem jM:∀(a:List (Option Nat)) (ts:List Tree) (S:St) (s:Nat),a.contains (some s)=false->(fq S a ts).get s=S.get s
 |[],_,S,s,_=>rfl
 |_::_,[],S,s,_=>rfl
 |d::a,t::ts,S,s,h=>by
  simp only[OI,Mo]at h;have:=jM a ts (S.put d t) s h.2;rw[dV,if_neg (fun e=>by rw[e]at h;simp at h)]at this;exact this
theorem mV:∀(a:List (Option Nat)) (ts:List Tree) (S:St) (n j s:Nat) (t:Tree),b4 n a=true->a[j]? =some (some s)->ts[j]? =some t->(fq S a ts).get s=t
 |[],_,S,n,j,s,t,_,h,_=>by simp at h
 |_::_,[],S,n,j,s,t,_,_,h=>by simp at h
 |d::a,x::ts,S,n,0,s,t,ha,h,h'=>by
  simp only[MV,MK]at h h';subst h h';simp only[b4,L8,Ng]at ha;show(fq (S.put (some s) x) a ts).get s=x
  rw[jM a ts _ s ha.1.1,dV,if_pos Z]
 |d::a,x::ts,S,n,j+1,s,t,ha,h,h'=>by
  have b:b4 n a=true:=by
   cases d with
   |none=>exact ha
   |some _=>simp only[b4,L8]at ha;exact ha.2
  exact mV a ts (S.put d x) n j s t b (by simpa using h) (by simpa using h')
theorem Chain.length{ops:Array Oper}{a:List (Option Nat)}{n i:Nat}{S:St}{b:List Oper}{ts:List Tree}(h:Chain ops a n i S b ts):b.length=ts.length:=by induction h<;>simp_all
theorem gV:∀{n:Nat} {a:List (Option Nat)} {j b s:Nat},b4 n a=true->a[j]? =some (some s)->a[b]? =some (some s)->j=b
 |_,[],j,_,_,_,h,_=>by simp at h
 |n,d::a,0,0,s,_,_,_=>rfl
 |n,d::a,0,b+1,s,ha,h,c=>by
  simp only[MV,MK]at h;subst h;simp only[b4,L8,Ng]at ha;have e:=L7 (i:=b) (by simpa using c:a[b]? =some (some s));have:=MM.2 e;rw[ha.1.1]at this;cases this
 |n,d::a,j+1,0,s,ha,h,c=>by
  simp only[MV,MK]at c;subst c;simp only[b4,L8,Ng]at ha;have e:=L7 (i:=j) (by simpa using h:a[j]? =some (some s));have:=MM.2 e;rw[ha.1.1]at this;cases this
 |n,d::a,j+1,b+1,s,ha,h,c=>by
  have f:b4 n a=true:=by
   cases d with
   |none=>exact ha
   |some _=>simp only[b4,L8]at ha;exact ha.2
  rw[gV f (by simpa using h:a[j]? =_) (by simpa using c:a[b]? =_)]
section
variable {w0:World} {G0:Bse} {Q:Exit->St->Prop} {S:St}
def RT(G0:Bse)(bx:List Nat)(rv:List Value)(rs:List (Option Row))(ts:List Tree)(j:Nat)(v:Value)(W:World):Prop:=FT (en W G0 bx rv rs) [v] [ts.getD j .any]
def WT(w0 w:World)(G0:Bse)(S:St)(bx:List Nat)(rv:List Value)(W:World):Prop:=Mem w0 G0 S.bs S.rs bx rv W/\Below w.heap.size w W
theorem i6{ops:Array Oper}{c:List (Option Nat)}{n:Nat}{a:Act}{w:World}{bx:List Nat}{rv:List Value}(A:b4 a.tmps.size c=true)(m:mp ops c n=true)(q:ops.toList.map (·.dst)=c)(z:∀i,FT (en w G0 bx rv S.rs) [a.tmps.getD i undef] [S.get i])(ts:List Tree):
  ∀(D:List Oper) (i:Nat) (us:List Tree) (S':St),Chain ops c n i S' D us->(∀(k:Nat) (o:Oper),D[k]? =some o->ops[i+k]? =some o)->us=ts.drop i->S'=fq S (c.take i) (ts.take i)->i+D.length<=ops.size->i<=ts.length->StepsT Tryz.prog ops c a.tmps (RT G0 bx rv S.rs ts) (fun _=>none) (WT w0 w G0 S bx rv) (fun _ W W'=>Below W.heap.size W W') i D
 |[],i,us,S',h,_,_,_,_,_=>trivial
 |o::D,i,us,S',h,hops,hus,hS',hlen,hle=>by
  have Q:ops[i]? =some o:=hops 0 o Z;have a4:i<ops.size:=by simp only[L9]at hlen;omega
  have b0:c.length=ops.size:=by rw[<-q];simp
  have a5:c[i]? =some o.dst:=by
   rw[<-q,MN];simp only[Nj,Q,Nq]
  have d:=lB (c.take i) (ts.take i) S;rw[<-hS']at d;have B:∀t F,us=t::F->F=ts.drop (i+1)/\ts[i]? =some t/\S'.put o.dst t=fq S (c.take (i+1)) (ts.take (i+1))/\i+1<=ts.length:=fun t F e=>by
   have r:ts.drop i=t::F:=by rw[<-hus,e]
   have p:i<ts.length:=by
    rcases MA i ts.length with h|h
    ·exact h
    rw[Md h]at r;cases r
   rw[Mc p]at r;injection r with X h3
   refine⟨h3.symm,by rw[L3 p,X],?_,p⟩;obtain⟨a0,U⟩:=L6.1 a5;rw[Mx a0,Mx p,kf _ _ _ _ _ (by simp only[Mf];omega),U,X,hS']
  have J:∀s,(∀j,c[j]? =some (some s)->i<=j)->S'.get s=S.get s:=fun s K=>by
   rw[hS'];refine jM _ _ _ s ?_;cases N:(c.take i).contains (some s)with
   |false=>rfl
   |true=>
    obtain⟨j,f,a9⟩:=Nc (MM.1 N);have r:(c.take i)[j]? =some (some s):=by rw[L3 f,a9]
    obtain⟨X,h3⟩:=fe r;have:=K j h3;omega
  have y:∀s j,c[j]? =some (some s)->j<i->∃t,ts[j]? =some t/\S'.get s=t:=fun s j f Y=>by
   have a1:j<ts.length:=by omega
   refine⟨ts[j],L3 a1,?_⟩;rw[hS'];have a2:=ke i A;exact mV _ _ S a.tmps.size j s _ a2 (iZ f Y) (iZ (L3 a1) Y)
  have L:∀(T:Nat->Value) (W:World),Given ops c a.tmps (RT G0 bx rv S.rs ts) (fun _=>none) (WT w0 w G0 S bx rv) i T W->∀s,(ej o.op).contains s=true->FT (en W G0 bx rv S'.rs) [T s] [S'.get s]:=fun T W E s K=>by
   rw[d.2.1];have P:xz ops c n i s=true:=by
    have r:=Mh.1 m i (N6.2 a4);simp only[Q]at r;exact Mh.1 r s (MM.1 K)
   unfold xz at P;cases R:eK s c with
   |none=>
    have I:=fS R;rw[E.keep s I,J s (fun j f=>by
     have:=MM.2 (L7 f);rw[I]at this;cases this)]
    exact(z s).later E.wi.2
   |some j=>
    have f:=eX R;simp only[R]at P;split at P
    ·next p=>
     obtain⟨t,ht,he⟩:=y s j f p;have:=E.fact n j s (by simp only[L8,bne_iff_ne,beq_iff_eq];exact⟨⟨⟨by omega,P⟩,Z⟩,f⟩);unfold RT at this;rw[Mk,ht,MG]at this;rw[he];exact this
    next hge=>
    rw[E.old n j s (by simp only[L8,beq_iff_eq];exact⟨P,f⟩),J s (fun j' a3=>by
     rw[gV A a3 f];omega)]
    exact(z s).later E.wi.2
  have l:∀(k:Nat) (o:Oper),D[k]? =some o->ops[i+1+k]? =some o:=fun k x R=>by have:=hops (k+1) x (by simpa using R);rw[show i+1+k=i+(k+1) by omega,this]
  have g:i+1+D.length<=ops.size:=by simp only[L9]at hlen;omega
  have H:∀t,OpOK o S' t->ts[i]? =some t->∀(T:Nat->Value) (W:World),Given ops c a.tmps (RT G0 bx rv S.rs ts) (fun _=>none) (WT w0 w G0 S bx rv) i T W->OpRuns Tryz.prog o T W fun v W'=>RT G0 bx rv S.rs ts i v W'/\Below W.heap.size W W':=fun t u ht T W E=>by
   have:=u w0 G0 bx rv W T (by rw[d.1,d.2.1];exact E.wi.1) (L T W E);rw[d.2.1]at this;unfold RT;rw[Mk,ht,MG];exact this
  have G:∀j s V,(j !=i&&reach ops n i j&&decide (j<i)&&c[j]? ==some (some s))=true->S'.get s=.sc V->(j !=i&&reach ops n i j&&(none:Option Nat)==none&&c[j]? ==some (some s))=true/\∀v W,RT G0 bx rv S.rs ts j v W->v=V:=fun j s V f hS=>by
   simp only[L8,bne_iff_ne,beq_iff_eq,decide_eq_true_eq]at f⊢;obtain⟨⟨⟨r,X⟩,h3⟩,h4⟩:=f;refine⟨⟨⟨⟨r,X⟩,trivial⟩,h4⟩,fun v W M=>?_⟩;obtain⟨t,ht,he⟩:=y s j h4 h3;unfold RT at M;rw[Mk,ht,MG,<-he,hS]at M;exact M.isSc
  cases h with
  | @op _ _ _ _ t ts' hg u K=>
   obtain⟨e1,O,e3,e4⟩:=B t ts' rfl;exact .cons (by rw[hg];trivial) (H t u O) (i6 A m q z ts D (i+1) ts' _ K l e1 e3 g e4)
  | @cnd _ _ _ _ t ts' j b s C _ hg f E u K=>
   obtain⟨V,hS,hC⟩:=E;obtain⟨e1,O,e3,e4⟩:=B _ ts' rfl;obtain⟨g1,g2⟩:=G j s V f hS;by_cases N:C
   ·rw[if_pos N]at O;exact .cons (by rw[hg];exact⟨n,s,g1,fun v W M=>(g2 v W M).trans (hC.1 N)⟩) (H t (u N) O) (i6 A m q z ts D (i+1) ts' _ K l e1 e3 g e4)
   rw[if_neg N]at O;refine .skip n s hg g1 (fun v W M e=>N (hC.2 ((g2 v W M).symm.trans e))) (fun W=>?_) (i6 A m q z ts D (i+1) ts' _ K l e1 e3 g e4);unfold RT;rw[Mk,O,MG];exact .pure (.sc _ .nil) .nil
theorem C7{a:Act}{b:List (Option Nat)}{us:List Value}(c:b4 a.tmps.size b=true)(e:us.length=b.length)(s:Nat):(cj a.tmps (b.zip us)).getD s undef=match eK s b with|none=>a.tmps.getD s undef|some j=>us.getD j undef:=by
 cases d:eK s b with
 |none=>exact ez b us _ s (fS d)
 |some j=>exact(co b us _ j s c e (eX d)).1
theorem vV{a:Act}{W:World}{bx:List Nat}{rv:List Value}{b:List (Option Nat)}{us:List Value}{ts:List Tree}(d:b4 S.n b=true)(m:a.tmps.size=S.n)(g:a.defers=[])(l:us.length=b.length)(r:ts.length=b.length)(q:Mem w0 G0 S.bs S.rs bx rv W)(k:∀i,FT (en W G0 bx rv S.rs) [a.tmps.getD i undef] [S.get i])(s:∀j,j<b.length->RT G0 bx rv S.rs ts j (us.getD j undef) W):Sim w0 G0 (fq S b ts) ⟨cj a.tmps (b.zip us),a.defers⟩ W:=by
 have c:=lB b ts S;refine⟨bx,rv,by rw[c.1,c.2.1];exact q,by rw[c.2.2,fb];exact m,g,fun i=>?_⟩;rw[c.2.1];show FT _ [(cj a.tmps (b.zip us)).getD i undef] _
 rw[C7 (by rw[m];exact d) l];cases o:eK i b with
 |none=>rw[jM b ts S i (fS o)];exact k i
 |some j=>
  have p:=eX o;have h:=(L6.1 p).1;have:=s j h;unfold RT at this;have f:j<ts.length:=by omega
  have e:ts.getD j .any=ts[j]:=by rw[Mk,L3 f,MG]
  rw[e]at this;rw[mV b ts S S.n j i _ d p (L3 f)];exact this
theorem EM{id n:Nat}{ops:List Oper}{b:List (Option Nat)}{ts:List Tree}(q:e8 ops.toArray=true)(g:ops.map (·.dst)=b)(c:b4 S.n b=true)(d:mp ops.toArray b n=true)(e:Chain ops.toArray b n 0 S ops ts)(k:Q .normal (fq S b ts)):AWP w0 G0 (.region id ops.toArray true) Q S:=by
 rintro a w ⟨bx,rv,z,t,l,f⟩;have m:b.length=ops.length:=by rw[<-g];simp
 have p:=i6 (w0:=w0) (G0:=G0) (S:=S) (w:=w) (bx:=bx) (rv:=rv) (a:=a) (by rw[t];exact c) d (by simpa using g) f ts ops 0 ts S e (fun k o y=>by simpa using y) Z Z (by simp) (Mp _);refine mo b (RT G0 bx rv S.rs ts) (fun _=>none) (WT w0 w G0 S bx rv) (fun _ W W'=>Below W.heap.size W W') (by kernel_rfl) q (by simpa using g) (by rw[t];exact c)
  (fun _ W W' h x=>⟨h.1.later x,h.2.trans (x.mono h.2.size)⟩) (fun _ j v W W' _ _ r A=>FT.later r A) ⟨z.later (Below.refl _ _).drew,(Below.refl _ _).drew⟩ (by simpa using p) ?_
 intro us W s r u;exact⟨_,k,vV c t l s (by rw[m];exact e.length.symm) u.1 (fun i=>(f i).later u.2) (fun j B=>r j (by simp;omega) Z)⟩
theorem OpRuns.mono{P:Program}{o:Oper}{T:Nat->Value}{W:World}{K a:Value->World->Prop}(h:OpRuns P o T W K)(b:∀v W,K v W->a v W):OpRuns P o T W a:=by
 unfold OpRuns at h⊢;generalize (execOp (dU T) o).run P W=r at h;cases r with
 |ok n w'=>
  cases n<;>first
   |exact b _ _ h
   |exact Calls.mono h (fun e c ⟨v,d,h⟩=>⟨v,d,b _ _ h⟩)
   |exact h.elim
 |halt x w'=>exact h.elim
theorem StepsT.plain{P:Program}{ops:Array Oper}{a:List (Option Nat)}{t:Array Value}{R:Nat->Value->World->Prop}{cons:Nat->Option Nat}{f:World->Prop}{c:Nat->World->World->Prop}:∀{d:List Oper} {i:Nat},StepsT P ops a t R cons f c i d->(d.all fun o=>o.guard.isNone)=true->Steps P ops a t R cons f c i d
 |[],_,_,_=>trivial
 |o::d,i,h,hg=>by
  simp only[Ny,L8]at hg;refine⟨?_,StepsT.plain h.2 hg.2⟩;rcases h.1 with e|⟨j,b,n,s,e,_⟩
  ·exact e
  rw[e]at hg;simp at hg
theorem vW{id n:Nat}{ops:List Oper}{c:Oper}{b:List (Option Nat)}{ts:List Tree}{S':St}(C:e8 (ops++[c]).toArray=true)(I:ops.map (·.dst)=b)(f:c.dst=none)(G:c.guard=none)(B:(ops.all fun o=>o.guard.isNone)=true)(g:b4 S.n (b++[none])=true)(m:mp (ops++[c]).toArray (b++[none]) n=true)(q:(List.range ops.length).all (fun i=>reach (ops++[c]).toArray ops.length ops.length i)=true)
  (r:Chain (ops++[c]).toArray (b++[none]) n 0 S ops ts) (u:rk w0 G0 c (fq S b ts) S') (k:Q .normal S'):AWP w0 G0 (.region id (ops++[c]).toArray true) Q S:=by
 rintro a w ⟨bx,rv,N,H,y,t⟩;have z:b.length=ops.length:=by rw[<-I];simp
 have s:ts.length=b.length:=by rw[z];exact r.length.symm
 have p:(ops++[c]).map (·.dst)=b++[none]:=by rw[MX,I];simp[f]
 have A:=(i6 (w0:=w0) (G0:=G0) (S:=S) (w:=w) (bx:=bx) (rv:=rv) (a:=a) (by rw[H];exact g) m (by simpa using p) t ts ops 0 ts S r (fun k o K=>by rw[MT,NS,My (L6.1 K).1];exact K) Z Z (by simp) (Mp _)).plain B;refine rS (b++[none]) (RT G0 bx rv S.rs ts) (fun _=>none) (WT w0 w G0 S bx rv) (fun _ W W'=>Below W.heap.size W W') (by kernel_rfl) C (by simpa using p) (by rw[H];exact g) (fun _=>rfl)
  (fun _ W W' x L=>⟨x.1.later L,x.2.trans (L.mono x.2.size)⟩) (fun _ j v W W' _ E O=>FT.later E O) ⟨N.later (Below.refl _ _).drew,(Below.refl _ _).drew⟩ ops.length c (by simp) (by simp) G f q (by simpa using A) ?_
 intro us W F E J;have d:Sim w0 G0 (fq S (b++[none]) (ts++[.any])) ⟨cj a.tmps ((b++[none]).zip us),a.defers⟩ W:=vV g H y F (by simp[s]) J.1 (fun i=>(t i).later J.2) (fun j M=>by
  unfold RT;by_cases D:j<ts.length
  ·have:=E j (by omega);unfold RT at this;have e:(ts++[Tree.any]).getD j .any=ts.getD j .any:=by rw[Mk,My D,<-Mk]
   rw[e];exact this
  have:j=ts.length:=by simp at M;omega
  subst this;rw[Mk (l:=ts++[Tree.any]),Mz (L4 _),M2];exact .any _ .nil)
 rw[kf _ _ _ _ _ s.symm]at d;have:=u _ _ d;rw[f]at this;exact this.mono fun v W h=>⟨_,k,h⟩
end
section
variable {w0:World} {G0:Bse} {ops:Array Oper} {rest:List Oper} {Q:Exit->St->Prop} {o:Oper} {n:Nat} {sl:List (Nat×Tree)} {bs:List (TypeId×List Tree)} {rs:List (Option Row)} {S:St}
theorem ah{t a:Tree}(h:OpOK o S t)(e:t=a):OpOK o S a:=e▸h
theorem af{d:Nat}{t:Tree}(c:o.guard=none)(a:o.dst=some d)(b:Nat.blt d n=true)(h:OpOK o ⟨n,sl,bs,rs⟩ t)(k:AOps w0 G0 ops rest Q ⟨n,(d,t)::sl,bs,rs⟩):AOps w0 G0 ops (o::rest) Q ⟨n,sl,bs,rs⟩:=by
 refine BF c ?_ h ?_
 ·rw[a];simpa[dM,Nv]using b
 rw[a];exact k
theorem zO{d j s:Nat}{t:Tree}{b:Bool}(C:Prop)[Decidable C](H:o.guard=some (j,b))(D:(ops[j]?).bind (·.dst)=some s)(L:Nat.blt s n=true)(O:∃c,look sl s=.sc c/\(C↔c=.bool b))(A:o.dst=some d)(P:Nat.blt d n=true)(h:C->OpOK o ⟨n,sl,bs,rs⟩ t)
  (k:AOps w0 G0 ops rest Q ⟨n,(d,if C then t else .sc undef)::sl,bs,rs⟩):AOps w0 G0 ops (o::rest) Q ⟨n,sl,bs,rs⟩:=by
 obtain⟨c,I,B⟩:=O;rintro a w ⟨bx,rv,J,f,q,l⟩;have r:dM n o.dst=true:=by rw[A];simpa[dM,Nv]using P
 have y:a.tmps.getD s undef=c:=by
  have:=l s;have e:St.get ⟨n,sl,bs,rs⟩ s=.sc c:=I;rw[e]at this;exact this.isSc
 have z:s<a.tmps.size:=by rw[f];simpa[Nv]using L
 have M:a.tmps[s]? =some c:=by
  rw[MC z];rw[MO,MC z]at y;exact congrArg some y
 by_cases m:C
 ·have K:Region.wanted o (yielded ops a.tmps)=true:=by
   simp only[Region.wanted,H,yielded,D,M9,M,B.1 m];cases b<;>rfl
  rw[if_pos m]at k;refine ul (S:=⟨n,sl,bs,rs⟩) (t:=t) (fun G w' E=>?_) r (h m) (by rw[A];exact k) a w ⟨bx,rv,J,f,q,l⟩;obtain⟨R,N,_,p,_,u⟩:=E;have i:G.tmps.getD s undef=c:=by
   have:=u s;have e:St.get ⟨n,sl,bs,rs⟩ s=.sc c:=I;rw[e]at this;exact this.isSc
  have g:s<G.tmps.size:=by rw[p];simpa[Nv]using L
  have F:G.tmps[s]? =some c:=by
   rw[MC g];rw[MO,MC g]at i;exact congrArg some i
  simp only[Region.wanted,H,yielded,D,M9,F,B.1 m];cases b<;>rfl
 have K:Region.wanted o (yielded ops a.tmps)=false:=by
  simp only[Region.wanted,H,yielded,D,M9,M];cases c with
  |bool x=>cases x<;>cases b<;>first|rfl|exact absurd (B.2 Z) m
  |_=>rfl
 rw[if_neg m]at k;simp only[wpList];rw[if_neg (by rw[K];exact MF)];refine k _ _ ⟨bx,rv,J,by rw[dY];exact f,by rw[dg,q],?_⟩;have:=jE (S:=⟨n,sl,bs,rs⟩) (o:=o) (t:=.sc undef) (v:=undef) (rs:=rs) (w':=w) (G0:=G0) f r (fun _ _ h=>h) l (.pure (.sc _ .nil) .nil);rw[A]at this⊢;exact this
theorem EN{p b:Bool}:∃a,(Tree.sc (.bool p))=.sc a/\((p=b)↔a=.bool b):=⟨_,Z,by simp⟩
theorem Jc{A:Prop}[Decidable A]{p b:Bool}:∃a,(if A then Tree.sc (.bool p)else .sc undef)=.sc a/\((A/\p=b)↔a=.bool b):=⟨if A then .bool p else undef,by split<;>rfl,by split<;>simp_all [undef]⟩
theorem aq{d j s:Nat}{t:Tree}{b p:Bool}(f:o.guard=some (j,b))(g:(ops[j]?).bind (·.dst)=some s)(e:look sl s=.sc (.bool p))(c:o.dst=some d)(h:p=b->OpOK o ⟨n,sl,bs,rs⟩ t)(k:AOps w0 G0 ops rest Q ⟨n,(d,if p=b then t else .sc undef)::sl,bs,rs⟩)(a:(Nat.blt s n&&Nat.blt d n)=true:=by rfl):AOps w0 G0 ops (o::rest) Q ⟨n,sl,bs,rs⟩:=by
 rw[L8]at a;exact zO (p=b) f g a.1 (e▸EN) c a.2 h k
theorem bY{A:Prop}[Decidable A]{d j s:Nat}{t:Tree}{b p:Bool}(f:o.guard=some (j,b))(g:(ops[j]?).bind (·.dst)=some s)(e:look sl s=if A then .sc (.bool p)else .sc undef)(c:o.dst=some d)(h:A/\p=b->OpOK o ⟨n,sl,bs,rs⟩ t)(k:AOps w0 G0 ops rest Q ⟨n,(d,if A/\p=b then t else .sc undef)::sl,bs,rs⟩)(a:(Nat.blt s n&&Nat.blt d n)=true:=by rfl):AOps w0 G0 ops (o::rest) Q ⟨n,sl,bs,rs⟩:=by
 rw[L8]at a;exact zO (A/\p=b) f g a.1 (e▸Jc) c a.2 h k
theorem aK{c a b:Operand}{x:Bool}{t:Tree}(d:o.op=.pick c a b)(e:S.ev c=.sc (.bool x))(f:x=true->S.ev a=t)(g:x=false->S.ev b=t):OpOK o S t:=by
 cases x with
 |true=>exact BG d e (f Z)
 |false=>exact BG d e (g Z)
theorem ai{op:BinOp}{a k:TypeId}{x y:Operand}{b d v:Value}(c:o.op=.binOp op a x y k)(j:S.ev x=.sc b)(i:S.ev y=.sc d)(h:∀w,(do eqGuard op a x y b d;binOp op a b d:Sem Value).run Tryz.prog w=.ok v w):OpOK o S (.sc v):=by
 intro w0 G0 bx rv w T l e;have f:=(bL e j (by rw[c];simp[Op.operands])).isSc;have g:=(bL e i (by rw[c];simp[Op.operands])).isSc;refine aC (v:=v) (W':=w) ?_ ⟨.pure (.sc _ .nil) .nil,Below.refl _ _⟩;simp only[execOp,c,f,g];rw[Sem.run_bind,h w];rfl
theorem dm{op:UnOp}{c:TypeId}{x:Operand}{b v:Value}(a:o.op=.unOp op c x)(e:S.ev x=.sc b)(h:∀w,(Op.unary op b).run Tryz.prog w=.ok v w):OpOK o S (.sc v):=by
 intro w0 G0 bx rv w T g d;have f:=(bL d e (by rw[a];simp[Op.operands])).isSc;refine aC (v:=v) (W':=w) ?_ ⟨.pure (.sc _ .nil) .nil,Below.refl _ _⟩;simp only[execOp,a,f];rw[Sem.run_bind,h w];rfl
theorem g9{b a:TypeId}{x:Operand}{k j:IntKind}{m:Int}{d:TypeDesc}(c:o.op=.convert b a x)(h:Tryz.prog.underlying b=some d)(e:Tryz.prog.underlying a=some (.int k))(i:S.ev x=.sc (.int j m)):OpOK o S (.sc (.int k (k.wrap m))):=by
 intro w0 G0 bx rv w T l g;have f:=(bL g i (by rw[c];simp[Op.operands])).isSc;refine aC (v:=.int k (k.wrap m)) (W':=w) ?_ ⟨.pure (.sc _ .nil) .nil,Below.refl _ _⟩;simp[execOp,c,f,convert,run_underlying h,run_underlying e,Conv.intToInt]
theorem cW{x:Operand}{t:TypeId}{s:ByteArray}(a:o.op=.call {callee:=.builtin .len,args:=#[x],argTypes:=#[t]})(d:Tryz.prog.underlying t=some .string)(c:S.ev x=.sc (.string s)):OpOK o S (.sc (.int .i64 (s.size:Nat))):=by
 intro w0 G0 bx rv w T f b;have e:=(bL b c (by rw[a];simp[Op.operands,Call.operands])).isSc;refine aC (v:=.int .i64 (s.size:Nat)) (W':=w) ?_ ⟨.pure (.sc _ .nil) .nil,Below.refl _ _⟩;simp[execOp,a,resolve,invoke,builtin,Builtin.len_,e,run_underlying d,goInt]
theorem ce{x h:Operand}{t:TypeId}{s:ByteArray}{k:IntKind}{i:Int}{j:Nat}{c:UInt8}(f:o.op=.index t x h)(p:Tryz.prog.underlying t=some .string)(n:S.ev x=.sc (.string s))(r:S.ev h=.sc (.int k i))(q:i=j)(d:s.data.toList[j]? =some c):OpOK o S (.sc (.int .u8 c.toNat)):=by
 intro w0 G0 bx rv w T u g;have l:=(bL g n (by rw[f];simp[Op.operands])).isSc;have m:=(bL g r (by rw[f];simp[Op.operands])).isSc;subst q;have b:j<s.size:=by have:=(L6.1 d).1;simpa using this
 have e:s[j]? =some c:=by
  rw[getElem?_pos s j b];rw[Nj]at d;have a:j<s.data.size:=b;rw[MC a]at d;exact d
 refine aC (v:=.int .u8 c.toNat) (W':=w) ?_ ⟨.pure (.sc _ .nil) .nil,Below.refl _ _⟩;simp[execOp,f,l,m,Instr.index,asIntOf,run_underlying p,e]
theorem cJ{x:Operand}{lo g:Option Operand}{t:TypeId}{l h:Nat}{s:ByteArray}(b:o.op=.slice t x lo g none)(f:Tryz.prog.underlying t=some .string)(r:S.ev x=.sc (.string s))(c:Jn S lo l)(a:Jo S s.size g h)(p:l<=h)(z:h<=s.size):OpOK o S (.sc (.string (s.extract l h))):=by
 intro w0 G0 bx rv w T u d;have e:=(bL d r (by rw[b];simp[Op.operands])).isSc;refine aC (v:=.string (s.extract l h)) (W':=w) ?_ ⟨.pure (.sc _ .nil) .nil,Below.refl _ _⟩;have q:¬s.size<h:=by omega
 cases lo with
 |none=>
  obtain rfl:l=0:=c;cases g with
  |none=>
   obtain rfl:h=s.size:=a;simp[execOp,b,e,Instr.sliceAt,Instr.slice,Instr.sliceBounds,run_underlying f]
  |some y=>
   obtain⟨k,j⟩:=a;have m:=(bL d j (by rw[b];simp[Op.operands])).isSc;simp[execOp,b,e,m,Instr.sliceAt,Instr.slice,Instr.sliceBounds,Instr.sliceBound,asIntOf,run_underlying f,q]
 |some x=>
  obtain⟨k,j⟩:=c;have n:=(bL d j (by rw[b];simp[Op.operands])).isSc;cases g with
  |none=>
   obtain rfl:h=s.size:=a;simp[execOp,b,e,n,Instr.sliceAt,Instr.slice,Instr.sliceBounds,Instr.sliceBound,asIntOf,run_underlying f,p]
  |some y=>
   obtain⟨A,i⟩:=a;have m:=(bL d i (by rw[b];simp[Op.operands])).isSc;simp[execOp,b,e,m,n,Instr.sliceAt,Instr.slice,Instr.sliceBounds,Instr.sliceBound,asIntOf,run_underlying f,q,p]
theorem bk{a:List (Option Nat)}{m i j s:Nat}{b p:Bool}{c:List Oper}{t:Tree}{ts:List Tree}(f:o.guard=some (j,b))(e:a[j]? =some (some s))(d:S.get s=.sc (.bool p))(h:p=b->OpOK o S t)(k:Chain ops a m (i+1) (S.put o.dst (if p=b then t else .sc undef)) c ts)(g:(j !=i&&reach ops m i j&&decide (j<i))=true:=by kernel_rfl):Chain ops a m i S (o::c) ((if p=b then t else .sc undef)::ts):=
 .cnd j b s (p=b) f (by rw[g,e];exact beq_self_eq_true _) (d▸EN) h k
theorem KE{A:Prop}[Decidable A]{a:List (Option Nat)}{m i j s:Nat}{b p:Bool}{c:List Oper}{t:Tree}{ts:List Tree}(f:o.guard=some (j,b))(e:a[j]? =some (some s))(d:S.get s=if A then .sc (.bool p)else .sc undef)(h:A/\p=b->OpOK o S t)(k:Chain ops a m (i+1) (S.put o.dst (if A/\p=b then t else .sc undef)) c ts)(g:(j !=i&&reach ops m i j&&decide (j<i))=true:=by kernel_rfl):Chain ops a m i S (o::c) ((if A/\p=b then t else .sc undef)::ts):=
 .cnd j b s (A/\p=b) f (by rw[g,e];exact beq_self_eq_true _) (d▸Jc) h k
end
end Go.Proofs.YtfoejfohbkmmeaaGreatDoor
