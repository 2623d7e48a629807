import Derived.Test.YtmhcanmapkenbaaGreatDoorA04
set_option linter.defProp false
open Go.Proofs.Tryz
namespace Go.Proofs.YtmhcanmapkenbaaGreatDoor
open Go.RowKit
open Lib renaming hid→J
def Lp(P:Program)(ops:Array Oper)(dsts:List (Option Nat))(t:Array Value)(R:Nat->Value->World->Prop)(cons:Nat->Option Nat)(WI:World->Prop)(Ext:Nat->World->World->Prop)(i:Nat)(o:Oper):Prop:=
 (nS ops dsts R cons i o.guard/\∀(T:Nat->Value) (W:World),Given ops dsts t R cons WI i T W->OpRuns P o T W λv W'=>R i v W'/\Ext i W W')\/
 (∃j b n s,o.guard=some (j,b)/\(j !=i&&reach ops n i j&&cons j==none&&dsts[j]? ==some (some s))=true/\(∀v W,R j v W->v≠ .bool b)/\∀W,R i undef W)
def StepsT(P:Program)(ops:Array Oper)(dsts:List (Option Nat))(t:Array Value)(R:Nat->Value->World->Prop)(cons:Nat->Option Nat)(WI:World->Prop)(Ext:Nat->World->World->Prop):Nat->List Oper->Prop
 |_,[]=>True
 |i,o::l=>Lp P ops dsts t R cons WI Ext i o/\StepsT P ops dsts t R cons WI Ext (i+1) l
def StepsT.at{P:Program}{ops:Array Oper}{a:List (Option Nat)}{t:Array Value}{R:Nat->Value->World->Prop}{cons:Nat->Option Nat}{c:World->Prop}{b:Nat->World->World->Prop}:∀(l:List Oper) (n:Nat),StepsT P ops a t R cons c b n l->∀(k:Nat) (o:Oper),l[k]? =some o->Lp P ops a t R cons c b (n+k) o
 |[],_,_,k,o,h=>by simp at h
 |x::l,n,hs,0,o,h=>by
  simp only[QV,Qy]at h;subst h;exact hs.1
 |x::l,n,hs,k+1,o,h=>by
  have:=StepsT.at l (n+1) hs.2 k o (by simpa using h);rw[show n+1+k=n+(k+1) by omega]at this;exact this
def StepsT.cons{P:Program}{ops:Array Oper}{a:List (Option Nat)}{t:Array Value}{R:Nat->Value->World->Prop}{cons:Nat->Option Nat}{c:World->Prop}{b:Nat->World->World->Prop}{i:Nat}{o:Oper}{l:List Oper}
  (d:nS ops a R cons i o.guard) (h:∀(T:Nat->Value) (W:World),Given ops a t R cons c i T W->OpRuns P o T W λv W'=>R i v W'/\b i W W') (e:StepsT P ops a t R cons c b (i+1) l):StepsT P ops a t R cons c b i (o::l):=⟨.inl ⟨d,h⟩,e⟩
def StepsT.skip{P:Program}{ops:Array Oper}{a:List (Option Nat)}{t:Array Value}{R:Nat->Value->World->Prop}{cons:Nat->Option Nat}{d:World->Prop}{c:Nat->World->World->Prop}{i:Nat}{o:Oper}{l:List Oper}{j:Nat}{b:Bool}(n s:Nat)
  (f:o.guard=some (j,b)) (h:(j !=i&&reach ops n i j&&cons j==none&&a[j]? ==some (some s))=true) (e:∀v W,R j v W->v≠ .bool b) (g:∀W,R i undef W) (k:StepsT P ops a t R cons d c (i+1) l):StepsT P ops a t R cons d c i (o::l):=⟨.inr ⟨j,b,n,s,f,h,e,g⟩,k⟩
def rj{P:Program}{id:Nat}{ops:Array Oper}{Q:Exit->Act->World->Prop}{a:Act}{w:World}(d:List (Option Nat))(R:Nat->Value->World->Prop)(cons:Nat->Option Nat)(C:World->Prop)(E:Nat->World->World->Prop)
  (hm:P.follows .mixedOrders=true) (a2:d7 ops=true) (hd:ops.toList.map (·.dst)=d) (q:cc a.tmps.size d=true)
  (Y:∀i W W',C W->E i W W'->C W') (M:∀i j v W W',cons j≠some i->C W->R j v W->E i W W'->R j v W') (h0:C w.drew)
  (N:StepsT P ops d a.tmps R cons C E 0 ops.toList)
  (X:∀(us:List Value) (W:World),us.length=d.length->(∀j,j<ops.size->cons j=none->R j (us.getD j undef) W)->C W->Q .normal ⟨cJ a.tmps (d.zip us),a.defers⟩ W):(Code.region id ops true).wp P Q a w:=by
 have a9:d.length=ops.size:=by rw[<-hd];simp
 refine fH (λL a' W=>∃us,a'=⟨cJ a.tmps (d.zip us),a.defers⟩/\L.size=ops.size/\Closed ops L/\MonoAt R cons C (ib a.tmps d) L us W) hm a2 ⟨ib a.tmps d,?_,F,gr ops,⟨Z,λj k=>absurd k ko,λ_ _=>rfl,h0⟩⟩ ?_ ?_
 ·rw[jW]
 ·rintro L a' W i o h1 h2 U h4 ⟨us,rfl,_,hc,m⟩;have hi:i<ops.size:=(QK.1 U).1;have V:d[i]? =some o.dst:=by
   rw[<-hd,QL];simp only[QO,U,Rf]
  have l:us.length=d.length:=by rw[m.len,eM]
  have S:L.getD i false=false:=getD_both h2;have T:∀n j,j≠i->reach ops n i j=true->L.getD j false=true:=λn j k z=>by
   have r:=hc.step U h4;have:=r.reach n i j z (d8 O);rwa[bU (λe=>k e.symm)]at this
  have a0:∀n j,reach ops n j i=true->L.getD j false=false:=λn j z=>by
   cases hl:L.getD j false with
   |false=>rfl
   |true=>
    have:=hc.reach n j i z hl;rw[S]at this;cases this
  have G:Given ops d a.tmps R cons C i (λs=>(cJ a.tmps (d.zip us)).getD s undef) W:=by
   refine⟨λs f=>gN d us _ s f,λn j s f=>?_,λn j s f=>?_,m.wi⟩
   ·simp only[Qh,bne_iff_ne,beq_iff_eq]at f;obtain⟨⟨⟨k,z⟩,t⟩,f⟩:=f;show R j ((cJ a.tmps (d.zip us)).getD s undef) W
    rw[(dD d us _ j s q l f).1];refine m.fact j (T n j k z) λc h=>?_
    rw[Bx,h]at t;exact a0 n c t
   simp only[Qh,beq_iff_eq]at f;obtain⟨z,f⟩:=f;show(cJ a.tmps (d.zip us)).getD s undef=_
   rw[(dD d us _ j s q l f).1,m.old j (a0 n j z),lS _ _ _ _ f]
  have hS:=StepsT.at ops.toList 0 N i o (by simpa using U);rw[QT]at hS;have B:∀j b' n s,(j !=i&&reach ops n i j&&cons j==none&&d[j]? ==some (some s))=true->(∀v W,R j v W->v=.bool b')->yielded ops (cJ a.tmps (d.zip us)) j=some b':=by
   intro j b' n s f H;simp only[Qh,bne_iff_ne,beq_iff_eq]at f;obtain⟨⟨⟨k,z⟩,t⟩,f⟩:=f;have D:=H _ _ (m.fact j (T n j k z) λc h=>by rw[t]at h;cases h);rw[<-(dD d us _ j s q l f).1]at D;have J:=(dD d us a.tmps j s q l f).2;have K:(ops[j]?).bind (·.dst)=some s:=by
    rw[<-hd,QL,QO]at f;cases ho:ops[j]? with
    |none=>simp[ho]at f
    |some oj=>simpa[ho]using f
   have:(cJ a.tmps (d.zip us))[s]? =some (.bool b'):=by
    have hz:s<(cJ a.tmps (d.zip us)).size:=by rw[gM];exact J
    simp only[QG,QR hz,Q2]at D;rw[QR hz,D]
   simp only[yielded,K,QY,this]
  rcases hS with hS|⟨j,b,n,s,I,f,H,a1⟩
  rotate_left
  ·have hw:Region.wanted o (yielded ops (cJ a.tmps (d.zip us)))=false:=by
    unfold Region.wanted;rw[I];simp only[Qh,bne_iff_ne,beq_iff_eq]at f;obtain⟨⟨⟨k,z⟩,t⟩,f⟩:=f;have D:=H _ _ (m.fact j (T n j k z) λc h=>by rw[t]at h;cases h);rw[<-(dD d us _ j s q l f).1]at D;have J:=(dD d us a.tmps j s q l f).2;have K:(ops[j]?).bind (·.dst)=some s:=by
     rw[<-hd,QL,QO]at f;cases ho:ops[j]? with
     |none=>simp[ho]at f
     |some oj=>simpa[ho]using f
    have hz:s<(cJ a.tmps (d.zip us)).size:=by rw[gM];exact J
    simp only[QG,QR hz,Q2]at D;simp only[yielded,K,QY,QR hz];generalize (cJ a.tmps (d.zip us))[s]=u at D;cases u with
    |bool x=>
     cases x<;>cases b<;>first|rfl|(exact absurd Z D)
    |_=>rfl
   simp only[wpList];rw[if_neg (by rw[hw];exact Qk)];refine⟨us.set i undef,?_,by simpa using h1,hc.step U h4,⟨by simpa using m.len,λj k h=>?_,λj k=>?_,m.wi⟩⟩
   ·exact jX d us _ _ i _ undef q l V
   ·by_cases g:i=j
    ·subst g;have:(us.set i undef).getD i undef=undef:=by simp[List.getD,show i<us.length by omega]
     rw[this];exact a1 _
    rw[bU g]at k;have:(us.set i undef).getD j undef=us.getD j undef:=by simp[List.getD,g]
    rw[this];refine m.fact j k λc r=>?_
    have:=h c r;by_cases y:i=c
    ·subst y;exact S
    rwa[bU y]at this
   by_cases g:i=j
   ·subst g;rw[d8 O]at k;cases k
   rw[bU g]at k;have:(us.set i undef).getD j undef=us.getD j undef:=by simp[List.getD,g]
   rw[this];exact m.old j k
  obtain⟨hg,A⟩:=hS;have A:=A _ W G;have hw:Region.wanted o (yielded ops (cJ a.tmps (d.zip us)))=true:=by
   unfold Region.wanted;cases I:o.guard with
   |none=>rfl
   |some p=>
    obtain⟨j,b⟩:=p;rw[I]at hg;obtain⟨n,s,f,H⟩:=hg;have:=B j b n s f H;simp only[this];cases b<;>rfl
  simp only[wpList];rw[if_pos hw];refine .inl<|Oper.wp_mono ?_ A.wp;rintro a5 a4 ⟨v,e,H,hE⟩;refine⟨us.set i v,?_,by simpa using h1,hc.step U h4,⟨by simpa using m.len,λj k h=>?_,λj k=>?_,Y _ _ _ m.wi hE⟩⟩
  ·rw[e];exact jX d us _ _ i _ v q l V
  ·by_cases g:i=j
   ·subst g;have:(us.set i v).getD i undef=v:=by simp[List.getD,show i<us.length by omega]
    rw[this];exact H
   rw[bU g]at k;have:(us.set i v).getD j undef=us.getD j undef:=by simp[List.getD,g]
   rw[this];refine M i j _ _ _ (λe=>?_) m.wi (m.fact j k λc r=>?_) hE
   ·have:=h i e;rw[d8 O]at this;cases this
   have:=h c r;by_cases y:i=c
   ·subst y;exact S
   rwa[bU y]at this
  by_cases g:i=j
  ·subst g;rw[d8 O]at k;cases k
  rw[bU g]at k;have:(us.set i v).getD j undef=us.getD j undef:=by simp[List.getD,g]
  rw[this];exact m.old j k
 rintro L a' W h1 ⟨us,rfl,a3,_,m⟩;refine X us W (by rw[m.len,eM]) (λj k h=>m.fact j (h1 j k) λc r=>by rw[h]at r;cases r) m.wi
def ec(s:Nat):List (Option Nat)->Option Nat
 |[]=>none
 |d::ds=>if d=some s then some 0 else(ec s ds).map (· +1)
def eO{s:Nat}:∀{ds:List (Option Nat)} {j:Nat},ec s ds=some j->ds[j]? =some (some s)
 |[],j,h=>by simp[ec]at h
 |d::ds,j,h=>by
  simp only[ec]at h;split at h
  ·next e=>cases h;subst e;rfl
  simp only[Q4]at h;obtain⟨k,a,rfl⟩:=h;simpa using eO a
def f8{s:Nat}:∀{ds:List (Option Nat)},ec s ds=none->ds.contains (some s)=false
 |[],_=>rfl
 |d::ds,h=>by
  simp only[ec]at h;split at h
  ·cases h
  next e=>
  simp only[ST]at h;simp only[Sr,f8 h,TI,beq_eq_false_iff_ne];exact λa=>e a.symm
def ls{n:Nat}:∀{ds:List (Option Nat)} (i:Nat),cc n ds=true->cc n (ds.take i)=true
 |[],i,_=>by simp[cc]
 |d::ds,0,_=>rfl
 |none::ds,i+1,h=>by
  simp only[RU,cc]at h⊢;exact ls i h
 |some s::ds,i+1,h=>by
  simp only[RU,cc,Qh,Re]at h⊢;refine⟨⟨?_,h.1.2⟩,ls i h.2⟩;cases a:(ds.take i).contains (some s)with
  |false=>rfl
  |true=>
   have:=QX.2 (Ra (QX.1 a));rw[h.1.1]at this;cases this
def E4(ops:Array Oper)(dsts:List (Option Nat))(n i s:Nat):Bool:=
 match ec s dsts with
 |none=>true
 |some j=>if j<i then reach ops n i j else reach ops n j i
def rk(ops:Array Oper)(dsts:List (Option Nat))(n:Nat):Bool:=(List.range ops.size).all λi=>match ops[i]? with
 |some o=>(ew o.op).all (E4 ops dsts n i)
 |none=>true
inductive Chain (ops:Array Oper) (dsts:List (Option Nat)) (n:Nat):Nat->St->List Oper->List Tree->Prop
 |nil {i:Nat} {S:St}:Chain ops dsts n i S [] []
 |op {i:Nat} {S:St} {o:Oper} {os:List Oper} {t:Tree} {ts:List Tree} (hg:o.guard=none) (h:OpOK o S t) (hs:Chain ops dsts n (i+1) (S.put o.dst t) os ts):Chain ops dsts n i S (o::os) (t::ts)
 |cnd {i:Nat} {S:St} {o:Oper} {os:List Oper} {t:Tree} {ts:List Tree} (j:Nat) (b:Bool) (s:Nat) (C:Prop) [Decidable C] (hg:o.guard=some (j,b)) (hj:(j !=i&&reach ops n i j&&decide (j<i)&&dsts[j]? ==some (some s))=true) (hG:∃gv,S.get s=.sc gv/\(C↔gv=.bool b)) (h:C->OpOK o S t) (hs:Chain ops dsts n (i+1) (S.put o.dst (if C then t else .sc undef)) os ts):Chain ops dsts n i S (o::os) ((if C then t else .sc undef)::ts)
def fE(S:St):List (Option Nat)->List Tree->St
 |d::ds,t::ts=>fE (S.put d t) ds ts
 |_,_=>S
def lw:∀(ds:List (Option Nat)) (ts:List Tree) (S:St) (d:Option Nat) (t:Tree),ds.length=ts.length->fE S (ds++[d]) (ts++[t])=(fE S ds ts).put d t
 |[],[],S,d,t,_=>rfl
 |_::ds,_::ts,S,d,t,h=>lw ds ts _ d t (by simpa using h)
def m0:∀(ds:List (Option Nat)) (ts:List Tree) (S:St),(fE S ds ts).bs=S.bs/\(fE S ds ts).rs=S.rs/\(fE S ds ts).n=S.n
 |[],_,S=>⟨Z,Z,Z⟩
 |_::_,[],S=>⟨Z,Z,Z⟩
 |d::ds,t::ts,S=>by
  have:=m0 ds ts (S.put d t);rw[dc,b6,dQ]at this;exact this
def ky:∀(ds:List (Option Nat)) (ts:List Tree) (S:St) (s:Nat),ds.contains (some s)=false->(fE S ds ts).get s=S.get s
 |[],_,S,s,_=>rfl
 |_::_,[],S,s,_=>rfl
 |d::ds,t::ts,S,s,h=>by
  simp only[Sr,QD]at h;have:=ky ds ts (S.put d t) s h.2;rw[cF,if_neg (λe=>by rw[e]at h;simp at h)]at this;exact this
def pg:∀(ds:List (Option Nat)) (ts:List Tree) (S:St) (n j s:Nat) (t:Tree),cc n ds=true->ds[j]? =some (some s)->ts[j]? =some t->(fE S ds ts).get s=t
 |[],_,S,n,j,s,t,_,h,_=>by simp at h
 |_::_,[],S,n,j,s,t,_,_,h=>by simp at h
 |d::ds,x::ts,S,n,0,s,t,ha,h,h'=>by
  simp only[QV,Qy]at h h';subst h h';simp only[cc,Qh,Re]at ha;show(fE (S.put (some s) x) ds ts).get s=x
  rw[ky ds ts _ s ha.1.1,cF,if_pos Z]
 |d::ds,x::ts,S,n,j+1,s,t,ha,h,h'=>by
  have a:cc n ds=true:=by
   cases d with
   |none=>exact ha
   |some _=>simp only[cc,Qh]at ha;exact ha.2
  exact pg ds ts (S.put d x) n j s t a (by simpa using h) (by simpa using h')
def Chain.length{ops:Array Oper}{a:List (Option Nat)}{n i:Nat}{S:St}{b:List Oper}{ts:List Tree}(h:Chain ops a n i S b ts):b.length=ts.length:=by induction h<;>simp_all
def ie:∀{n:Nat} {ds:List (Option Nat)} {j a s:Nat},cc n ds=true->ds[j]? =some (some s)->ds[a]? =some (some s)->j=a
 |_,[],j,_,_,_,h,_=>by simp at h
 |n,d::ds,0,0,s,_,_,_=>rfl
 |n,d::ds,0,a+1,s,ha,h,b=>by
  simp only[QV,Qy]at h;subst h;simp only[cc,Qh,Re]at ha;have e:=Qo (i:=a) (by simpa using b:ds[a]? =some (some s));have:=QX.2 e;rw[ha.1.1]at this;cases this
 |n,d::ds,j+1,0,s,ha,h,b=>by
  simp only[QV,Qy]at b;subst b;simp only[cc,Qh,Re]at ha;have e:=Qo (i:=j) (by simpa using h:ds[j]? =some (some s));have:=QX.2 e;rw[ha.1.1]at this;cases this
 |n,d::ds,j+1,a+1,s,ha,h,b=>by
  have c:cc n ds=true:=by
   cases d with
   |none=>exact ha
   |some _=>simp only[cc,Qh]at ha;exact ha.2
  rw[ie c (by simpa using h:ds[j]? =_) (by simpa using b:ds[a]? =_)]
section
variable {w0:World} {G0:Bse} {Q:Exit->St->Prop} {S:St}
def RT(G0:Bse)(bx:List Nat)(rv:List Value)(rs:List (Option Row))(ts:List Tree)(j:Nat)(v:Value)(W:World):Prop:=FT (en W G0 bx rv rs) [v] [ts.getD j .any]
def WT(w0 w:World)(G0:Bse)(S:St)(bx:List Nat)(rv:List Value)(W:World):Prop:=Mem w0 G0 S.bs S.rs bx rv W/\Below w.heap.size w W
def ig{ops:Array Oper}{c:List (Option Nat)}{n:Nat}{a:Act}{w:World}{bx:List Nat}{rv:List Value}(r:cc a.tmps.size c=true)(m:rk ops c n=true)(u:ops.toList.map (·.dst)=c)(B:∀i,FT (en w G0 bx rv S.rs) [a.tmps.getD i undef] [S.get i])(ts:List Tree):
  ∀(E:List Oper) (i:Nat) (us:List Tree) (S':St),Chain ops c n i S' E us->(∀(k:Nat) (o:Oper),E[k]? =some o->ops[i+k]? =some o)->us=ts.drop i->S'=fE S (c.take i) (ts.take i)->i+E.length<=ops.size->i<=ts.length->StepsT prog ops c a.tmps (RT G0 bx rv S.rs ts) (λ_=>none) (WT w0 w G0 S bx rv) (λ_ W W'=>Below W.heap.size W W') i E
 |[],i,us,S',h,_,_,_,_,_=>trivial
 |o::E,i,us,S',h,hops,hus,hS',hlen,hle=>by
  have a2:ops[i]? =some o:=hops 0 o Z;have a4:i<ops.size:=by simp only[Qn]at hlen;omega
  have b0:c.length=ops.size:=by rw[<-u];simp
  have a3:c[i]? =some o.dst:=by
   rw[<-u,QL];simp only[QO,a2,Rf]
  have d:=m0 (c.take i) (ts.take i) S;rw[<-hS']at d;have z:∀t G,us=t::G->G=ts.drop (i+1)/\ts[i]? =some t/\S'.put o.dst t=fE S (c.take (i+1)) (ts.take (i+1))/\i+1<=ts.length:=λt G e=>by
   have q:ts.drop i=t::G:=by rw[<-hus,e]
   have p:i<ts.length:=by
    rcases Rm i ts.length with h|h
    ·exact h
    rw[Q1 h]at q;cases q
   rw[Q3 p]at q;injection q with R U
   refine⟨U.symm,by rw[Qj p,R],?_,p⟩;obtain⟨Y,X⟩:=Qm.1 a3;rw[Ro Y,Ro p,lw _ _ _ _ _ (by simp only[QN];omega),X,R,hS']
  have H:∀s,(∀j,c[j]? =some (some s)->i<=j)->S'.get s=S.get s:=λs K=>by
   rw[hS'];refine ky _ _ _ s ?_;cases M:(c.take i).contains (some s)with
   |false=>rfl
   |true=>
    obtain⟨j,f,a9⟩:=So (QX.1 M);have q:(c.take i)[j]? =some (some s):=by rw[Qj f,a9]
    obtain⟨R,U⟩:=eU q;have:=K j U;omega
  have y:∀s j,c[j]? =some (some s)->j<i->∃t,ts[j]? =some t/\S'.get s=t:=λs j f a0=>by
   have a1:j<ts.length:=O
   refine⟨ts[j],Qj a1,?_⟩;rw[hS'];have V:=ls i r;exact pg _ _ S a.tmps.size j s _ V (lr f a0) (lr (Qj a1) a0)
  have L:∀(T:Nat->Value) (W:World),Given ops c a.tmps (RT G0 bx rv S.rs ts) (λ_=>none) (WT w0 w G0 S bx rv) i T W->∀s,(ew o.op).contains s=true->FT (en W G0 bx rv S'.rs) [T s] [S'.get s]:=λT W D s K=>by
   rw[d.2.1];have hd:E4 ops c n i s=true:=by
    have q:=Qt.1 m i (SL.2 a4);simp only[a2]at q;exact Qt.1 q s (QX.1 K)
   unfold E4 at hd;cases hx:ec s c with
   |none=>
    have I:=f8 hx;rw[D.keep s I,H s (λj f=>by
     have:=QX.2 (Qo f);rw[I]at this;cases this)]
    exact(B s).later D.wi.2
   |some j=>
    have f:=eO hx;simp only[hx]at hd;split at hd
    ·next p=>
     obtain⟨t,ht,he⟩:=y s j f p;have:=D.fact n j s (by simp only[Qh,bne_iff_ne,beq_iff_eq];exact⟨⟨⟨O,hd⟩,Z⟩,f⟩);unfold RT at this;rw[Qp,ht,Q2]at this;rw[he];exact this
    next hge=>
    rw[D.old n j s (by simp only[Qh,beq_iff_eq];exact⟨hd,f⟩),H s (λj' a5=>by
     rw[ie r a5 f];omega)]
    exact(B s).later D.wi.2
  have l:∀(k:Nat) (o:Oper),E[k]? =some o->ops[i+1+k]? =some o:=λk x hx=>by have:=hops (k+1) x (by simpa using hx);rw[show i+1+k=i+(k+1) by omega,this]
  have g:i+1+E.length<=ops.size:=by simp only[Qn]at hlen;omega
  have J:∀t,OpOK o S' t->ts[i]? =some t->∀(T:Nat->Value) (W:World),Given ops c a.tmps (RT G0 bx rv S.rs ts) (λ_=>none) (WT w0 w G0 S bx rv) i T W->OpRuns prog o T W λv W'=>RT G0 bx rv S.rs ts i v W'/\Below W.heap.size W W':=λt A ht T W D=>by
   have:=A w0 G0 bx rv W T (by rw[d.1,d.2.1];exact D.wi.1) (L T W D);rw[d.2.1]at this;unfold RT;rw[Qp,ht,Q2];exact this
  have F:∀j s Q,(j !=i&&reach ops n i j&&decide (j<i)&&c[j]? ==some (some s))=true->S'.get s=.sc Q->(j !=i&&reach ops n i j&&(none:Option Nat)==none&&c[j]? ==some (some s))=true/\∀v W,RT G0 bx rv S.rs ts j v W->v=Q:=λj s Q f hS=>by
   simp only[Qh,bne_iff_ne,beq_iff_eq,decide_eq_true_eq]at f⊢;obtain⟨⟨⟨q,R⟩,U⟩,h4⟩:=f;refine⟨⟨⟨⟨q,R⟩,trivial⟩,h4⟩,λv W N=>?_⟩;obtain⟨t,ht,he⟩:=y s j h4 U;unfold RT at N;rw[Qp,ht,Q2,<-he,hS]at N;exact N.isSc
  cases h with
  | @op _ _ _ _ t ts' hg A K=>
   obtain⟨e1,P,e3,e4⟩:=z t ts' Z;exact .cons (by rw[hg];trivial) (J t A P) (ig r m u B ts E (i+1) ts' _ K l e1 e3 g e4)
  | @cnd _ _ _ _ t ts' j b s C _ hg f D A K=>
   obtain⟨Q,hS,hC⟩:=D;obtain⟨e1,P,e3,e4⟩:=z _ ts' Z;obtain⟨g1,g2⟩:=F j s Q f hS;by_cases M:C
   ·rw[if_pos M]at P;exact .cons (by rw[hg];exact⟨n,s,g1,λv W N=>(g2 v W N).trans (hC.1 M)⟩) (J t (A M) P) (ig r m u B ts E (i+1) ts' _ K l e1 e3 g e4)
   rw[if_neg M]at P;refine .skip n s hg g1 (λv W N e=>M (hC.2 ((g2 v W N).symm.trans e))) (λW=>?_) (ig r m u B ts E (i+1) ts' _ K l e1 e3 g e4);unfold RT;rw[Qp,P,Q2];exact .pure (.sc _ .nil) .nil
def DD{a:Act}{b:List (Option Nat)}{us:List Value}(c:cc a.tmps.size b=true)(hl:us.length=b.length)(s:Nat):(cJ a.tmps (b.zip us)).getD s undef=match ec s b with|none=>a.tmps.getD s undef|some j=>us.getD j undef:=by
 cases d:ec s b with
 |none=>exact gN b us _ s (f8 d)
 |some j=>exact(dD b us _ j s c hl (eO d)).1
def BD{a:Act}{W:World}{bx:List Nat}{rv:List Value}{b:List (Option Nat)}{us:List Value}{ts:List Tree}(d:cc S.n b=true)(o:a.tmps.size=S.n)(g:a.defers=[])(l:us.length=b.length)(s:ts.length=b.length)(r:Mem w0 G0 S.bs S.rs bx rv W)(k:∀i,FT (en W G0 bx rv S.rs) [a.tmps.getD i undef] [S.get i])(q:∀j,j<b.length->RT G0 bx rv S.rs ts j (us.getD j undef) W):Sim w0 G0 (fE S b ts) ⟨cJ a.tmps (b.zip us),a.defers⟩ W:=by
 have c:=m0 b ts S;refine⟨bx,rv,by rw[c.1,c.2.1];exact r,by rw[c.2.2,gM];exact o,g,λi=>?_⟩;rw[c.2.1];show FT _ [(cJ a.tmps (b.zip us)).getD i undef] _
 rw[DD (by rw[o];exact d) l];cases p:ec i b with
 |none=>rw[ky b ts S i (f8 p)];exact k i
 |some j=>
  have m:=eO p;have h:=(Qm.1 m).1;have:=q j h;unfold RT at this;have f:j<ts.length:=O
  have e:ts.getD j .any=ts[j]:=by rw[Qp,Qj f,Q2]
  rw[e]at this;rw[pg b ts S S.n j i _ d m (Qj f)];exact this
def E5{id n:Nat}{ops:List Oper}{b:List (Option Nat)}{ts:List Tree}(l:d7 ops.toArray=true)(hd:ops.map (·.dst)=b)(c:cc S.n b=true)(e:rk ops.toArray b n=true)(d:Chain ops.toArray b n 0 S ops ts)(k:Q .normal (fE S b ts)):AWP w0 G0 (.region id ops.toArray true) Q S:=by
 rintro a w ⟨bx,rv,y,q,m,f⟩;have p:b.length=ops.length:=by rw[<-hd];simp
 have r:=ig (w0:=w0) (G0:=G0) (S:=S) (w:=w) (bx:=bx) (rv:=rv) (a:=a) (by rw[q];exact c) e (by simpa using hd) f ts ops 0 ts S d (λk o z=>by simpa using z) Z Z F (QF _);refine rj b (RT G0 bx rv S.rs ts) (λ_=>none) (WT w0 w G0 S bx rv) (λ_ W W'=>Below W.heap.size W W') U l (by simpa using hd) (by rw[q];exact c)
  (λ_ W W' g t=>⟨g.1.later t,g.2.trans (t.mono g.2.size)⟩) (λ_ j v W W' _ _ h x=>FT.later h x) ⟨y.later (Below.refl _ _).drew,(Below.refl _ _).drew⟩ (by simpa using r) ?_
 intro us W s h u;exact⟨_,k,BD c q m s (by rw[p];exact d.length.symm) u.1 (λi=>(f i).later u.2) (λj A=>h j (by simp;omega) Z)⟩
def OpRuns.mono{P:Program}{o:Oper}{T:Nat->Value}{W:World}{K a:Value->World->Prop}(h:OpRuns P o T W K)(b:∀v W,K v W->a v W):OpRuns P o T W a:=by
 unfold OpRuns at h⊢;generalize (execOp (eX T) o).run P W=r at h;cases r with
 |ok n w'=>
  cases n<;>first
   |exact b _ _ h
   |exact Calls.mono h (λe d ⟨v,c,h⟩=>⟨v,c,b _ _ h⟩)
   |exact h.elim
 |halt x w'=>exact h.elim
def StepsT.plain{P:Program}{ops:Array Oper}{a:List (Option Nat)}{t:Array Value}{R:Nat->Value->World->Prop}{cons:Nat->Option Nat}{f:World->Prop}{c:Nat->World->World->Prop}:∀{d:List Oper} {i:Nat},StepsT P ops a t R cons f c i d->(d.all λo=>o.guard.isNone)=true->Steps P ops a t R cons f c i d
 |[],_,_,_=>trivial
 |o::d,i,h,hg=>by
  simp only[Rc,Qh]at hg;refine⟨?_,StepsT.plain h.2 hg.2⟩;rcases h.1 with e|⟨j,b,n,s,e,_⟩
  ·exact e
  rw[e]at hg;simp at hg
def vj{id n:Nat}{ops:List Oper}{c:Oper}{b:List (Option Nat)}{ts:List Tree}{S':St}(y:d7 (ops++[c]).toArray=true)(hd:ops.map (·.dst)=b)(g:c.dst=none)(C:c.guard=none)(G:(ops.all λo=>o.guard.isNone)=true)(f:cc S.n (b++[none])=true)(r:rk (ops++[c]).toArray (b++[none]) n=true)(m:(List.range ops.length).all (λi=>reach (ops++[c]).toArray ops.length ops.length i)=true)
  (p:Chain (ops++[c]).toArray (b++[none]) n 0 S ops ts) (B:qi w0 G0 c (fE S b ts) S') (k:Q .normal S'):AWP w0 G0 (.region id (ops++[c]).toArray true) Q S:=by
 rintro a w ⟨bx,rv,P,E,z,s⟩;have A:b.length=ops.length:=by rw[<-hd];simp
 have t:ts.length=b.length:=by rw[A];exact p.length.symm
 have q:(ops++[c]).map (·.dst)=b++[none]:=by rw[Qz,hd];simp[g]
 have H:=(ig (w0:=w0) (G0:=G0) (S:=S) (w:=w) (bx:=bx) (rv:=rv) (a:=a) (by rw[E];exact f) r (by simpa using q) s ts ops 0 ts S p (λk o L=>by rw[QT,Ry,Qv (Qm.1 L).1];exact L) Z Z F (QF _)).plain G;refine qX (b++[none]) (RT G0 bx rv S.rs ts) (λ_=>none) (WT w0 w G0 S bx rv) (λ_ W W'=>Below W.heap.size W W') U y (by simpa using q) (by rw[E];exact f) (λ_=>rfl)
  (λ_ W W' u J=>⟨u.1.later J,u.2.trans (J.mono u.2.size)⟩) (λ_ j v W W' _ x M=>FT.later x M) ⟨P.later (Below.refl _ _).drew,(Below.refl _ _).drew⟩ ops.length c F F C g m (by simpa using H) ?_
 intro us W I x K;have d:Sim w0 G0 (fE S (b++[none]) (ts++[.any])) ⟨cJ a.tmps ((b++[none]).zip us),a.defers⟩ W:=BD f E z I (by simp[t]) K.1 (λi=>(s i).later K.2) (λj N=>by
  unfold RT;by_cases D:j<ts.length
  ·have:=x j O;unfold RT at this;have e:(ts++[Tree.any]).getD j .any=ts.getD j .any:=by rw[Qp,Qv D,<-Qp]
   rw[e];exact this
  have:j=ts.length:=by simp at N;omega
  subst this;rw[Qp (l:=ts++[Tree.any]),Qx (Qi _),RI];exact .any _ .nil)
 rw[lw _ _ _ _ _ t.symm]at d;have:=B _ _ d;rw[g]at this;exact this.mono λv W h=>⟨_,k,h⟩
end
section
variable {w0:World} {G0:Bse} {ops:Array Oper} {rest:List Oper} {Q:Exit->St->Prop} {o:Oper} {n:Nat} {sl:List (Nat×Tree)} {bs:List (TypeId×List Tree)} {rs:List (Option Row)} {S:St}
def av{t a:Tree}(h:OpOK o S t)(e:t=a):OpOK o S a:=e▸h
def iz{d:Nat}{t:Tree}(a:o.guard=none)(hd:o.dst=some d)(b:Nat.blt d n=true)(h:OpOK o ⟨n,sl,bs,rs⟩ t)(k:AOps w0 G0 ops rest Q ⟨n,(d,t)::sl,bs,rs⟩):AOps w0 G0 ops (o::rest) Q ⟨n,sl,bs,rs⟩:=by
 refine BA a ?_ h ?_
 ·rw[hd];simpa[df,Q7]using b
 rw[hd];exact k
def vm{d j s:Nat}{t:Tree}{b:Bool}(C:Prop)[Decidable C](D:o.guard=some (j,b))(E:(ops[j]?).bind (·.dst)=some s)(J:Nat.blt s n=true)(N:∃c,look sl s=.sc c/\(C↔c=.bool b))(hd:o.dst=some d)(O:Nat.blt d n=true)(h:C->OpOK o ⟨n,sl,bs,rs⟩ t)
  (k:AOps w0 G0 ops rest Q ⟨n,(d,if C then t else .sc undef)::sl,bs,rs⟩):AOps w0 G0 ops (o::rest) Q ⟨n,sl,bs,rs⟩:=by
 obtain⟨c,H,B⟩:=N;rintro a w ⟨bx,rv,I,f,p,l⟩;have q:df n o.dst=true:=by rw[hd];simpa[df,Q7]using O
 have r:a.tmps.getD s undef=c:=by
  have:=l s;have e:St.get ⟨n,sl,bs,rs⟩ s=.sc c:=H;rw[e]at this;exact this.isSc
 have u:s<a.tmps.size:=by rw[f];simpa[Q7]using J
 have L:a.tmps[s]? =some c:=by
  rw[QR u];rw[QG,QR u]at r;exact congrArg some r
 by_cases m:C
 ·have K:Region.wanted o (yielded ops a.tmps)=true:=by
   simp only[Region.wanted,D,yielded,E,QY,L,B.1 m];cases b<;>rfl
  rw[if_pos m]at k;refine ud (S:=⟨n,sl,bs,rs⟩) (t:=t) (λA w' F=>?_) q (h m) (by rw[hd];exact k) a w ⟨bx,rv,I,f,p,l⟩;obtain⟨M,P,_,z,_,y⟩:=F;have g:A.tmps.getD s undef=c:=by
   have:=y s;have e:St.get ⟨n,sl,bs,rs⟩ s=.sc c:=H;rw[e]at this;exact this.isSc
  have i:s<A.tmps.size:=by rw[z];simpa[Q7]using J
  have G:A.tmps[s]? =some c:=by
   rw[QR i];rw[QG,QR i]at g;exact congrArg some g
  simp only[Region.wanted,D,yielded,E,QY,G,B.1 m];cases b<;>rfl
 have K:Region.wanted o (yielded ops a.tmps)=false:=by
  simp only[Region.wanted,D,yielded,E,QY,L];cases c with
  |bool x=>cases x<;>cases b<;>first|rfl|exact absurd (B.2 Z) m
  |_=>rfl
 rw[if_neg m]at k;simp only[wpList];rw[if_neg (by rw[K];exact Qk)];refine k _ _ ⟨bx,rv,I,by rw[d9];exact f,by rw[c6,p],?_⟩;have:=lV (S:=⟨n,sl,bs,rs⟩) (o:=o) (t:=.sc undef) (v:=undef) (rs:=rs) (w':=w) (G0:=G0) f q (λ_ _ h=>h) l (.pure (.sc _ .nil) .nil);rw[hd]at this⊢;exact this
def E6{p b:Bool}:∃a,(Tree.sc (.bool p))=.sc a/\((p=b)↔a=.bool b):=⟨_,Z,F⟩
def Lq{A:Prop}[Decidable A]{p b:Bool}:∃a,(if A then Tree.sc (.bool p)else .sc undef)=.sc a/\((A/\p=b)↔a=.bool b):=⟨if A then .bool p else undef,by split<;>rfl,by split<;>simp_all [undef]⟩
def aj{d j s:Nat}{t:Tree}{b p:Bool}(c:o.guard=some (j,b))(e:(ops[j]?).bind (·.dst)=some s)(f:look sl s=.sc (.bool p))(hd:o.dst=some d)(h:p=b->OpOK o ⟨n,sl,bs,rs⟩ t)(k:AOps w0 G0 ops rest Q ⟨n,(d,if p=b then t else .sc undef)::sl,bs,rs⟩)(a:(Nat.blt s n&&Nat.blt d n)=true:=by rfl):AOps w0 G0 ops (o::rest) Q ⟨n,sl,bs,rs⟩:=by
 rw[Qh]at a;exact vm (p=b) c e a.1 (f▸E6) hd a.2 h k
def B:type_of% @aj:=@aj
def ci{A:Prop}[Decidable A]{d j s:Nat}{t:Tree}{b p:Bool}(c:o.guard=some (j,b))(e:(ops[j]?).bind (·.dst)=some s)(f:look sl s=if A then .sc (.bool p)else .sc undef)(hd:o.dst=some d)(h:A/\p=b->OpOK o ⟨n,sl,bs,rs⟩ t)(k:AOps w0 G0 ops rest Q ⟨n,(d,if A/\p=b then t else .sc undef)::sl,bs,rs⟩)(a:(Nat.blt s n&&Nat.blt d n)=true:=by rfl):AOps w0 G0 ops (o::rest) Q ⟨n,sl,bs,rs⟩:=by
 rw[Qh]at a;exact vm (A/\p=b) c e a.1 (f▸Lq) hd a.2 h k
def fM{c a b:Operand}{x:Bool}{t:Tree}(e:o.op=.pick c a b)(d:S.ev c=.sc (.bool x))(f:x=true->S.ev a=t)(g:x=false->S.ev b=t):OpOK o S t:=by
 cases x with
 |true=>exact lW e d (f Z)
 |false=>exact lW e d (g Z)
def aL{op:BinOp}{d k:TypeId}{x y:Operand}{b c v:Value}(a:o.op=.binOp op d x y k)(i:S.ev x=.sc b)(j:S.ev y=.sc c)(h:∀w,(do eqGuard op d x y b c;binOp op d b c:Sem Value).run prog w=.ok v w):OpOK o S (.sc v):=by
 intro w0 G0 bx rv w T l e;have f:=(bY e i (by rw[a];simp[Op.operands])).isSc;have g:=(bY e j (by rw[a];simp[Op.operands])).isSc;refine OpRuns.of_ok (v:=v) (W':=w) ?_ ⟨.pure (.sc _ .nil) .nil,Below.refl _ _⟩;simp only[execOp,a,f,g];rw[Sem.run_bind,h w];rfl
def dl{op:UnOp}{f:TypeId}{x:Operand}{b v:Value}(a:o.op=.unOp op f x)(e:S.ev x=.sc b)(h:∀w,(Op.unary op b).run prog w=.ok v w):OpOK o S (.sc v):=by
 intro w0 G0 bx rv w T g d;have c:=(bY d e (by rw[a];simp[Op.operands])).isSc;refine OpRuns.of_ok (v:=v) (W':=w) ?_ ⟨.pure (.sc _ .nil) .nil,Below.refl _ _⟩;simp only[execOp,a,c];rw[Sem.run_bind,h w];rfl
def qq{b a:TypeId}{x:Operand}{k i:IntKind}{m:Int}{d:TypeDesc}(c:o.op=.convert b a x)(g:prog.underlying b=some d)(hd:prog.underlying a=some (.int k))(h:S.ev x=.sc (.int i m)):OpOK o S (.sc (.int k (k.wrap m))):=by
 intro w0 G0 bx rv w T j f;have e:=(bY f h (by rw[c];simp[Op.operands])).isSc;refine OpRuns.of_ok (v:=.int k (k.wrap m)) (W':=w) ?_ ⟨.pure (.sc _ .nil) .nil,Below.refl _ _⟩;simp[execOp,c,e,convert,run_underlying g,run_underlying hd,Conv.intToInt]
def dJ{x:Operand}{t:TypeId}{s:ByteArray}(a:o.op=.call {callee:=.builtin .len,args:=#[x],argTypes:=#[t]})(d:prog.underlying t=some .string)(e:S.ev x=.sc (.string s)):OpOK o S (.sc (.int .i64 (s.size:Nat))):=by
 intro w0 G0 bx rv w T f c;have b:=(bY c e (by rw[a];simp[Op.operands,Call.operands])).isSc;refine OpRuns.of_ok (v:=.int .i64 (s.size:Nat)) (W':=w) ?_ ⟨.pure (.sc _ .nil) .nil,Below.refl _ _⟩;simp[execOp,a,resolve,invoke,builtin,Builtin.len_,b,run_underlying d,goInt]
def bM{x h:Operand}{t:TypeId}{s:ByteArray}{k:IntKind}{i:Int}{j:Nat}{c:UInt8}(f:o.op=.index t x h)(q:prog.underlying t=some .string)(r:S.ev x=.sc (.string s))(n:S.ev h=.sc (.int k i))(p:i=j)(d:s.data.toList[j]? =some c):OpOK o S (.sc (.int .u8 c.toNat)):=by
 intro w0 G0 bx rv w T u g;have l:=(bY g r (by rw[f];simp[Op.operands])).isSc;have m:=(bY g n (by rw[f];simp[Op.operands])).isSc;subst p;have a:j<s.size:=by have:=(Qm.1 d).1;simpa using this
 have e:s[j]? =some c:=by
  rw[getElem?_pos s j a];rw[QO]at d;have b:j<s.data.size:=a;rw[QR b]at d;exact d
 refine OpRuns.of_ok (v:=.int .u8 c.toNat) (W':=w) ?_ ⟨.pure (.sc _ .nil) .nil,Below.refl _ _⟩;simp[execOp,f,l,m,Instr.index,asIntOf,run_underlying q,e]
def dZ{x:Operand}{n f:Option Operand}{t:TypeId}{l h:Nat}{s:ByteArray}(b:o.op=.slice t x n f none)(g:prog.underlying t=some .string)(u:S.ev x=.sc (.string s))(c:PB S n l)(a:PC S s.size f h)(r:l<=h)(z:h<=s.size):OpOK o S (.sc (.string (s.extract l h))):=by
 intro w0 G0 bx rv w T A e;have d:=(bY e u (by rw[b];simp[Op.operands])).isSc;refine OpRuns.of_ok (v:=.string (s.extract l h)) (W':=w) ?_ ⟨.pure (.sc _ .nil) .nil,Below.refl _ _⟩;have p:¬s.size<h:=O
 cases n with
 |none=>
  obtain rfl:l=0:=c;cases f with
  |none=>
   obtain rfl:h=s.size:=a;simp[execOp,b,d,Instr.sliceAt,Instr.slice,Instr.sliceBounds,run_underlying g]
  |some y=>
   obtain⟨k,j⟩:=a;have i:=(bY e j (by rw[b];simp[Op.operands])).isSc;simp[execOp,b,d,i,Instr.sliceAt,Instr.slice,Instr.sliceBounds,Instr.sliceBound,asIntOf,run_underlying g,p]
 |some x=>
  obtain⟨k,j⟩:=c;have q:=(bY e j (by rw[b];simp[Op.operands])).isSc;cases f with
  |none=>
   obtain rfl:h=s.size:=a;simp[execOp,b,d,q,Instr.sliceAt,Instr.slice,Instr.sliceBounds,Instr.sliceBound,asIntOf,run_underlying g,r]
  |some y=>
   obtain⟨B,m⟩:=a;have i:=(bY e m (by rw[b];simp[Op.operands])).isSc;simp[execOp,b,d,i,q,Instr.sliceAt,Instr.slice,Instr.sliceBounds,Instr.sliceBound,asIntOf,run_underlying g,p,r]
def aq{a:List (Option Nat)}{m i j s:Nat}{b p:Bool}{c:List Oper}{t:Tree}{ts:List Tree}(d:o.guard=some (j,b))(g:a[j]? =some (some s))(f:S.get s=.sc (.bool p))(h:p=b->OpOK o S t)(k:Chain ops a m (i+1) (S.put o.dst (if p=b then t else .sc undef)) c ts)(e:(j !=i&&reach ops m i j&&decide (j<i))=true:=by kernel_rfl):Chain ops a m i S (o::c) ((if p=b then t else .sc undef)::ts):=
 .cnd j b s (p=b) d (by rw[e,g];exact beq_self_eq_true _) (f▸E6) h k
def Og{A:Prop}[Decidable A]{a:List (Option Nat)}{m i j s:Nat}{b p:Bool}{c:List Oper}{t:Tree}{ts:List Tree}(d:o.guard=some (j,b))(g:a[j]? =some (some s))(f:S.get s=if A then .sc (.bool p)else .sc undef)(h:A/\p=b->OpOK o S t)(k:Chain ops a m (i+1) (S.put o.dst (if A/\p=b then t else .sc undef)) c ts)(e:(j !=i&&reach ops m i j&&decide (j<i))=true:=by kernel_rfl):Chain ops a m i S (o::c) ((if A/\p=b then t else .sc undef)::ts):=
 .cnd j b s (A/\p=b) d (by rw[e,g];exact beq_self_eq_true _) (f▸Lq) h k
end
