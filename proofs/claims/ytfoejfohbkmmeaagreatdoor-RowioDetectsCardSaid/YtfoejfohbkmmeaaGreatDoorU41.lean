import Derived.Test.YtfoejfohbkmmeaaGreatDoorU40
import Derived.Test.YtfoejfohbkmmeaaGreatDoorU28
import Derived.Test.YtfoejfohbkmmeaaGreatDoorU00
import Derived.Test.YtfoejfohbkmmeaaGreatDoorU08
import Derived.Test.YtfoejfohbkmmeaaGreatDoorU31
import Derived.Test.YtfoejfohbkmmeaaGreatDoorU18
import Derived.Test.YtfoejfohbkmmeaaGreatDoorU03
import Derived.Test.YtfoejfohbkmmeaaGreatDoorU02
import Derived.Test.YtfoejfohbkmmeaaGreatDoorU04
import Derived.Test.YtfoejfohbkmmeaaGreatDoorU15
import Derived.Test.YtfoejfohbkmmeaaGreatDoorU24
import Derived.Deep.RegionWith
import Derived.Deep.DrawnRows
import Derived.Test.YtfoejfohbkmmeaaGreatDoorU30
import Derived.StillTailTactics
import Derived.IntWalk
set_option maxRecDepth 100000
set_option maxHeartbeats 4000000
namespace Go.Proofs.YtfoejfohbkmmeaaGreatDoor
open Go.RowKit
open Lib renaming hid→J
theorem Dz{r:Rel}(h:bF r.sch none r.tups=0)(i:Nat):gO r.tups i<=1:=by
 unfold gO;cases a:r.tups[i]? with
 |none=>simp;decide
 |some t=>
  have:=(gf (ek (fN h t (L9 a))).2.1).2;show t.prob<=1
  grind
theorem nk{r:Rel}(h:bF r.sch none r.tups=0)(d:∀t∈r.tups,aG r.sch t.vals=[]):nC (aP r)=false/\kG r.tups (aP r)=false:=by
 have a:∀b∈aP r,∃i,b=[i]:=fun b a=>by
  unfold aP at a;split at a
  ·cases a
  rw[lJ r.tups ([],[]) 0 d]at a;simp only[M6,Ny]at a;obtain⟨i,_,rfl⟩:=a;exact⟨i,Z⟩
 refine⟨nD fun j b c=>?_,md fun j b c=>?_⟩
 ·obtain⟨i,rfl⟩:=a b (L9 c);simp
 obtain⟨i,rfl⟩:=a b (L9 c);rw[kF];have:=Dz h i;simp only[dR,NH,Pc]
 grind
theorem qv{r:Rel}(j:r.sch.cert=false)(i:∀t∈r.tups,aG r.sch t.vals≠ []):(nC (aP r)=false↔∀t∈r.tups,ii r.sch (aG r.sch t.vals) r.tups<=16)/\(kG r.tups (aP r)=false↔∀t∈r.tups,i7 r.sch (aG r.sch t.vals) r.tups<=1):=by
 obtain⟨g,l,c,a⟩:=vZ j i;rw[l];unfold nC kG;rw[N4,N4];constructor
 ·constructor
  ·intro h t d;have:=h _ (Ny.2 ⟨_,c t d,Z⟩);rw[iD]at this;simpa using this
  intro h b f;obtain⟨k,e,rfl⟩:=Ny.1 f;obtain⟨t,d,rfl⟩:=a k e;rw[iD];simpa using h t d
 constructor
 ·intro h t d;have:=h _ (Ny.2 ⟨_,c t d,Z⟩);rw[nG,decide_eq_true_eq,kF]at this
  grind
 intro h b f;obtain⟨k,e,rfl⟩:=Ny.1 f;obtain⟨t,d,rfl⟩:=a k e;have:=h t d;rw[nG,decide_eq_true_eq,kF]
 grind
theorem ir{s:Sch}{t:Tp}(h:bG s t=0):aG s t.vals=[]↔dL s.cols=false:=by
 have a:=(ek h).1;unfold aG;rw[if_pos a,nM a]
theorem qw{cert:Bool}(e:cert=true):∀{l a:List Col},gN cert a l=false->dL l=false
 |[],_,_=>rfl
 |c::l,a,h=>by
  rw[gN,Mz,Mz]at h;have b:=h.1.1;unfold nw at b;rw[Mz]at b;have f:=qw e h.2;have d:=b.2;rw[e,OC]at d;unfold dL at f⊢;rw[Pm,d,f];rfl
theorem te{s:Sch}(h:fF s=true)(a:s.cert=true):dL s.cols=false:=by
 unfold fF at h;rw[Nj,Mz]at h;rw[a]at h;exact qw Z h.2
def FX(r:Rel):Prop:=dL r.sch.cols=false\/∀t∈r.tups,ii r.sch (aG r.sch t.vals) r.tups<=16/\i7 r.sch (aG r.sch t.vals) r.tups<=1
theorem H5{r:Rel}(f:fF r.sch=true)(h:bF r.sch none r.tups=0):(nC (aP r)=false/\kG r.tups (aP r)=false)↔FX r:=by
 have c:=fN h;cases b:dL r.sch.cols
 ·have:=nk h fun t a=>(ir (c t a)).2 b
  exact⟨fun _=>.inl b,fun _=>this⟩
 have d:r.sch.cert=false:=by
  cases d:r.sch.cert
  ·rfl
  rw[te f d]at b;cases b
 have:=qv d fun t a e=>by rw[ir (c t a),b]at e;cases e
 rw[this.1,this.2];unfold FX;rw[b];simp only[Bool.true_eq_false,false_or];exact⟨fun h t a=>⟨h.1 t a,h.2 t a⟩,fun h=>⟨fun t a=>(h t a).1,fun t a=>(h t a).2⟩⟩
theorem o8{s:Sch}:∀(ts:List Tp) (p:List V),bF s (some p) ts=0↔(∀t∈ts,bG s t=0/\aO p t.vals<0)/\ts.Pairwise fun a b=>aO a.vals b.vals<0
 |[],p=>by simp[bF]
 |t::ts,p=>by
  have m:=o8 (s:=s) ts t.vals;rw[bF];by_cases g:bG s t=0
  ·rw[if_neg (c:=bG s t≠0) (by omega)];have n:=nE p t.vals;by_cases j:aO p t.vals=0
   ·rw[if_pos j];constructor
    ·intro h;cases h
    intro h;have:=(h.1 t (Mr ..)).2;omega
   rw[if_neg j];by_cases k:aO p t.vals=1
   ·rw[if_pos k];constructor
    ·intro h;cases h
    intro h;have:=(h.1 t (Mr ..)).2;omega
   have f:aO p t.vals<0:=by omega
   rw[if_neg k,m,Oc];constructor
   ·rintro⟨e,i⟩;refine⟨fun x d=>?_,fun x d=>(e x d).2,i⟩;rcases Mi.1 d with rfl|d
    ·exact⟨g,f⟩
    exact⟨(e x d).1,iC f (e x d).2⟩
   rintro⟨e,i,l⟩;exact⟨fun x d=>⟨(e x (MB _ d)).1,i x d⟩,l⟩
  rw[if_pos g];constructor
  ·intro h;exact absurd h g
  intro h;exact absurd (h.1 t (Mr ..)).1 g
theorem fQ{s:Sch}(ts:List Tp):bF s none ts=0↔(∀t∈ts,bG s t=0)/\ts.Pairwise fun a b=>aO a.vals b.vals<0:=by
 cases ts with
 |nil=>simp[bF]
 |cons t ts=>
  rw[bF,Oc];by_cases f:bG s t=0
  ·rw[if_neg (c:=bG s t≠0) (by omega),o8];constructor
   ·rintro⟨e,g⟩;refine⟨fun x d=>?_,fun x d=>(e x d).2,g⟩;rcases Mi.1 d with rfl|d
    ·exact f
    exact(e x d).1
   rintro⟨e,g,i⟩;exact⟨fun x d=>⟨e x (MB _ d),g x d⟩,i⟩
  rw[if_pos f];constructor
  ·intro h;exact absurd h f
  intro h;exact absurd (h.1 t (Mr ..)) f
theorem gw{r:Rel}:bm r=0↔fF r.sch=true/\r.tups.length<=64/\bF r.sch none r.tups=0/\FX r:=by
 unfold bm;by_cases b:fF r.sch=true
 ·rw[if_neg (by rw[b];simp)];by_cases e:64<r.tups.length
  ·rw[if_pos e];constructor
   ·intro h;cases h
   intro h;omega
  rw[if_neg e];by_cases a:bF r.sch none r.tups=0
  ·rw[if_neg (c:=bF r.sch none r.tups≠0) (by omega)];have d:=H5 b a;cases f:nC (aP r)
   ·cases g:kG r.tups (aP r)
    ·simp only[N9,if_false,true_iff];exact⟨b,by omega,a,d.1 ⟨f,g⟩⟩
    simp only[N9,if_false,if_true];constructor
    ·intro h;cases h
    rintro⟨_,_,_,h⟩;have:=(d.2 h).2;rw[g]at this;cases this
   simp only[if_true];constructor
   ·intro h;cases h
   rintro⟨_,_,_,h⟩;have:=(d.2 h).1;rw[f]at this;cases this
  rw[if_pos a];exact⟨fun h=>absurd h a,fun h=>absurd h.2.2.1 a⟩
 rw[if_pos (by simpa using b)];constructor
 ·intro h;cases h
 intro h;exact absurd h.1 b
theorem FY{s:Sch}{k:List V}{us ts:List Tp}(h:us.Sublist ts):ii s k us<=ii s k ts:=by
 induction h with
 |slnil=>exact L5 _
 |cons a _ ih=>rw[ii];split<;>omega
 |cons_cons a _ ih=>rw[ii,ii];split<;>omega
theorem FZ{s:Sch}{k:List V}{us ts:List Tp}(h:us.Sublist ts):(∀t∈ts,0<=t.prob)->i7 s k us<=i7 s k ts:=by
 induction h with
 |slnil=>intro _;exact Rat.le_refl
 |cons a _ ih=>
  intro b;have d:=ih fun t c=>b t (MB _ c)
  have e:=b a (Mr ..);rw[i7];split<;>grind
 |cons_cons a _ ih=>
  intro b;have d:=ih fun t c=>b t (MB _ c)
  rw[i7,i7];split<;>grind
theorem mW{s:Sch}{us ts:List Tp}(h:bm ⟨s,ts⟩=0)(a:us.Sublist ts):bm ⟨s,us⟩=0:=by
 obtain⟨f,g,e,c⟩:=gw.1 h;simp only at f g e;have d:=(fQ ts).1 e;refine gw.2 ⟨f,L6 a.length_le g,(fQ us).2 ⟨fun t b=>d.1 t (a.subset b),d.2.sublist a⟩,?_⟩;rcases c with c|c
 ·exact .inl c
 refine .inr fun t b=>?_
 obtain⟨i,j⟩:=c t (a.subset b);refine⟨L6 (FY a) i,?_⟩;have:=FZ (s:=s) (k:=aG s t.vals) a fun t b=>(gf (ek (d.1 t b)).2.1).1
 simp only at j⊢
 grind
theorem tf{vs:List V}:∀{ts:List Tp} {i:Nat},(gU vs ts i).isSome=false->∀t∈ts,aO t.vals vs≠0
 |[],_,_,t,a=>by cases a
 |x::ts,i,h,t,a=>by
  rw[gU]at h;split at h
  ·cases h
  next hx=>
  rcases Mi.1 a with rfl|a
  ·exact hx
  exact tf h t a
theorem mm(r:Rel)(t:Tp):∃a b,r.tups=a++b/\(bD r t).tups=a++t::b/\(∀x∈a,aO x.vals t.vals<0)/\∀y c,b=y::c->¬aO y.vals t.vals<0:=by
 obtain⟨a,b,d,j,f,i⟩:=uC (fun x=>decide (aO x.vals t.vals<0)) r.tups;have g:pN t.vals r.tups=a.length:=by unfold pN;rw[j]
 refine⟨a,b,d,?_,fun x h=>of_decide_eq_true (f x h),fun y c e=>of_decide_eq_false (i y c e)⟩;unfold bD;rw[g,d];simp
theorem yl{r:Rel}{t:Tp}(h:bF r.sch none r.tups=0)(m:bG r.sch t=0)(p:(gU t.vals r.tups 0).isSome=false):bF (bD r t).sch none (bD r t).tups=0:=by
 obtain⟨a,b,n,q,l,o⟩:=mm r t;obtain⟨g,i⟩:=(fQ r.tups).1 h;have e:=tf p;show bF r.sch none _=0
 rw[q];rw[n]at g i e;have f:=Od.1 i;have k:∀y∈b,aO t.vals y.vals<0:=fun y d=>by
  cases b with
  |nil=>cases d
  |cons z b=>
   have j:aO t.vals z.vals<0:=BX (o z b Z) (e z (by simp));rcases Mi.1 d with rfl|d
   ·exact j
   exact iC j ((Oc.1 f.2.1).1 y d)
 refine(fQ _).2 ⟨fun x c=>?_,Od.2 ⟨f.1,Oc.2 ⟨k,f.2.1⟩,fun x c y d=>?_⟩⟩
 ·simp only[My,Mi]at c;rcases c with c|rfl|c
  ·exact g x (Om _ c)
  ·exact m
  exact g x (Pq _ c)
 rcases Mi.1 d with rfl|d
 ·exact l x c
 exact f.2.2 x c y d
theorem ym(r:Rel)(t:Tp)(k:List V):ii r.sch k (bD r t).tups=ii r.sch k r.tups+if aO (aG r.sch t.vals) k=0 then 1 else 0:=by
 obtain⟨a,b,d,c,_⟩:=mm r t;rw[c,d,sK,sK,ii];split<;>omega
theorem yn(r:Rel)(t:Tp)(k:List V):i7 r.sch k (bD r t).tups=i7 r.sch k r.tups+if aO (aG r.sch t.vals) k=0 then t.prob else 0:=by
 obtain⟨a,b,d,c,_⟩:=mm r t;rw[c,d,sL,sL,i7];split<;>grind
theorem mn{r:Rel}{t x:Tp}:x∈(bD r t).tups↔x∈r.tups\/x=t:=by
 obtain⟨a,b,d,c,_⟩:=mm r t;rw[c,d];simp only[My,Mi];constructor
 ·rintro(h|h|h)
  ·exact .inl (.inl h)
  ·exact .inr h
  exact .inl (.inr h)
 rintro((h|h)|h)
 ·exact .inl h
 ·exact .inr (.inr h)
 exact .inr (.inl h)
theorem F0(r:Rel)(t:Tp):(bD r t).tups.length=r.tups.length+1:=by
 obtain⟨a,b,d,c,_⟩:=mm r t;rw[c,d];simp;omega
theorem AC{r:Rel}(a:fF r.sch=true)(d:r.tups.length<=64)(b:bF r.sch none r.tups=0):bm r=if nC (aP r)=true then 4 else if kG r.tups (aP r)=true then 19 else 0:=by
 unfold bm;rw[if_neg (c:=fF r.sch=false) (by rw[a];simp),if_neg (c:=64<r.tups.length) (by omega),if_neg (c:=bF r.sch none r.tups≠0) (by omega)]
theorem AD{r:Rel}(b:fF r.sch=true)(a:64<r.tups.length):bm r=4:=by
 unfold bm;rw[if_neg (c:=fF r.sch=false) (by rw[b];simp),if_pos a]
theorem DA(r:Rel)(t:Tp):cJ r t=bK r t:=by
 unfold cJ bK;by_cases y:bm r=0
 ·rw[if_neg (c:=bm r≠0) (by omega),if_neg (c:=bm r≠0) (by omega)];by_cases b:bG r.sch t=0
  ·rw[if_neg (c:=bG r.sch t≠0) (by omega),if_neg (c:=bG r.sch t≠0) (by omega)];cases I:(gU t.vals r.tups 0).isSome
   ·simp only[N9,if_false];obtain⟨v,K,C,s⟩:=gw.1 y;have B:=yl C b I;have F:=F0 r t;have p:=(fQ r.tups).1 C;have G:=gf (ek b).2.1;have d:(bD r t).sch=r.sch:=rfl;by_cases w:64<=r.tups.length
    ·rw[AD (r:=bD r t) v (by omega),if_pos (c:=64<=r.tups.length\/16<=(eV r t.vals).length) (.inl w)]
    rw[AC (r:=bD r t) v (by omega) B];cases g:dL r.sch.cols
    ·have A:∀x∈(bD r t).tups,aG (bD r t).sch x.vals=[]:=fun x i=>by
      rcases mn.1 i with h|rfl
      ·exact(ir (p.1 x h)).2 g
      exact(ir b).2 g
     have m:=nk B A;have j:eV r t.vals=[]:=by unfold eV;rw[if_pos ((ir b).2 g)]
     have z:¬0<lO t.prob (1-dR r.tups []):=by
      rw[sB];simp only[dR,Pc]
      grind
     rw[m.1,m.2,j,if_neg (c:=64<=r.tups.length\/16<=([]:List Nat).length) (fun h=>h.elim w (by simp)),if_neg z,if_neg MR,if_neg MR]
    have k:r.sch.cert=false:=by
     cases b:r.sch.cert
     ·rfl
     rw[te v b]at g;cases g
    have o:aG r.sch t.vals≠ []:=fun e=>by rw[ir b,g]at e;cases e
    have u:∀x∈(bD r t).tups,aG (bD r t).sch x.vals≠ []:=fun x i e=>by
     rcases mn.1 i with h|rfl
     ·have e:aG r.sch x.vals=[]:=e;rw[ir (p.1 x h),g]at e;cases e
     exact o e
    have q:=qv (r:=bD r t) k u;have s:∀t∈r.tups,ii r.sch (aG r.sch t.vals) r.tups<=16/\i7 r.sch (aG r.sch t.vals) r.tups<=1:=by
     rcases s with h|h
     ·rw[g]at h;cases h
     exact h
    have j:eV r t.vals=bX r.sch (aG r.sch t.vals) r.tups 0:=by unfold eV;rw[if_neg o]
    rw[j,iD,nG];have n:t∈(bD r t).tups:=mn.2 (.inr Z);have E:=ym r t (aG r.sch t.vals);have D:=yn r t (aG r.sch t.vals);rw[if_pos (kI _)]at E D;have H:nC (aP (bD r t))=decide (16<=ii r.sch (aG r.sch t.vals) r.tups):=by
     by_cases l:16<=ii r.sch (aG r.sch t.vals) r.tups
     ·rw[decide_eq_true l];cases m:nC (aP (bD r t))
      ·have:=q.1.1 m t n;rw[d,E]at this;omega
      rfl
     rw[decide_eq_false l];refine q.1.2 fun x i=>?_
     rw[d,ym];rcases mn.1 i with h|rfl
     ·by_cases a:aO (aG r.sch t.vals) (aG r.sch x.vals)=0
      ·rw[if_pos a,<-(jZ _ _).1 a];omega
      rw[if_neg a];have:=(s x h).1;omega
     rw[if_pos (kI _)];omega
    have J:kG (bD r t).tups (aP (bD r t))=decide (0<lO t.prob (1-i7 r.sch (aG r.sch t.vals) r.tups)):=by
     by_cases l:0<lO t.prob (1-i7 r.sch (aG r.sch t.vals) r.tups)
     ·rw[decide_eq_true l];rw[sB]at l;cases m:kG (bD r t).tups (aP (bD r t))
      ·have:=q.2.1 m t n;rw[d,D]at this;grind
      rfl
     rw[decide_eq_false l];rw[sB]at l;refine q.2.2 fun x i=>?_
     rw[d,yn];rcases mn.1 i with h|rfl
     ·by_cases a:aO (aG r.sch t.vals) (aG r.sch x.vals)=0
      ·rw[if_pos a,<-(jZ _ _).1 a];grind
      rw[if_neg a];have:=(s x h).2;grind
     rw[if_pos (kI _)];grind
    rw[H,J];simp only[decide_eq_true_eq];by_cases f:16<=ii r.sch (aG r.sch t.vals) r.tups
    ·rw[if_pos (c:=64<=r.tups.length\/16<=ii r.sch (aG r.sch t.vals) r.tups) (.inr f),if_pos f]
    rw[if_neg (c:=64<=r.tups.length\/16<=ii r.sch (aG r.sch t.vals) r.tups) (fun h=>h.elim w f),if_neg f]
   simp only[if_true]
  rw[if_pos b,if_pos b]
 rw[if_pos y,if_pos y]
theorem o9{a b:ByteArray}(h:a=b):(Tree.sc (.string a))=sT b:=by rw[h]
theorem F1{k:IntKind}{a b:Nat}(h:a=b):(Tree.sc (.int k ((a:Nat):Int)))=.sc (.int k ((b:Nat):Int)):=by rw[h]
theorem wl{α:Type}{p:α->Bool}:∀{l:List α} {x:α},x∈l.takeWhile p->p x=true
 |[],x,h=>by simp at h
 |a::l,x,h=>by
  rw[Nh]at h;split at h
  ·next ha=>
   rcases Mi.1 h with rfl|h
   ·exact ha
   exact wl h
  cases h
theorem rh{l:List UInt8}(h:tO l=l.length):l.all dK=true:=by
 have e:l.takeWhile dK=l:=(Ox _).eq_of_length h;rw[Mh];intro x a;rw[<-e]at a;exact wl a
theorem yo(l:List UInt8):(l.take (tO l)).all dK=true:=by
 unfold tO;rw[Mh];intro x a;rw[show l.take (l.takeWhile dK).length=l.takeWhile dK from(List.prefix_iff_eq_take.1 (List.takeWhile_prefix _)).symm]at a;exact wl a
def AE(s:ByteArray):Bool:=decide (0<s.size)&&decide ((ck s 0).toNat=45)
def eT(s:ByteArray):ByteArray:=if AE s then s.extract 1 s.size else s
def mo(c:UInt8)(r:ByteArray):Bool:=((decide (c.toNat≠47)&&decide (c.toNat≠46))||(r.toList==(⟨#[]⟩:ByteArray).toList))||decide (tO r.data.toList≠r.size)
def lC(ng:Bool)(u:ByteArray)(n:Nat)(r:ByteArray):Rat×Int:=
 if n=0 then(0,2)else if n=u.size then(cF ng (eB u.data.toList) 1,0)
 else if mo (ck u n) r then(0,2)
 else if(ck u n).toNat=46 then(cF ng (eB (u.extract 0 n++r).data.toList) (10^r.size),0)
 else if eB r.data.toList=0 then(0,20)else(cF ng (eB (u.extract 0 n).data.toList) (eB r.data.toList),0)
def gR(s:ByteArray):Rat×Int:=if 4000<s.size then(0,4)else lC (AE s) (eT s) (tO (eT s).data.toList) ((eT s).extract (tO (eT s).data.toList+1) (eT s).size)
def Ju:Tree:=.agg [.sc (.bool false),.sl [],.sl []]
def yp(x:Rat×Int):Tree:=.tup [if x.2=0 then dp x.1 else Ju,.sc (.int .i64 x.2)]
theorem gz(x:Rat×Int):(yp x).plain=true:=by unfold yp;split<;>rfl
def qM(n:Nat):ByteArray:=⟨(Lib.decDigits n).toArray⟩
def yq(q:Rat):ByteArray:=if q.num<0 then(⟨#[45]⟩:ByteArray)++qM q.num.natAbs else qM q.num.natAbs
def gF(q:Rat):ByteArray:=if q.den=1 then yq q else yq q++((⟨#[47]⟩:ByteArray)++qM q.den)
theorem yr:∀(l:List UInt8) (a:Nat),(∀c∈l,dK c=true)->l.foldl (fun a c=>a*10+(c.toNat-48)) a<(a+1)*10^l.length
 |[],a,_=>by simp
 |c::l,a,h=>by
  rw[NH];have e:=yr l (a*10+(c.toNat-48)) (fun x d=>h x (MB _ d));have b:=h c (Mr ..);unfold dK at b;simp only[Ma,decide_eq_true_eq]at b;refine Mp e ?_;rw[Mb,MM,show(a+1)*(10^l.length*10)=((a+1)*10)*10^l.length by rw[Mt (10^l.length),Mu]];exact MJ _ (by omega)
theorem H6{l:List UInt8}(h:l.all dK=true):eB l<10^l.length:=by
 have:=yr l 0 (Mh.1 h);unfold eB;simpa using this
theorem yu{n k:Nat}(h:n<10^k):(ay n).length<=k:=by
 refine aR (Mp h (OJ (by decide) k))
theorem gD{l:List UInt8}{L:Nat}(h:l.all dK=true)(a:l.length<=L):(ay (eB l)).length<=L:=L6 (yu (H6 h)) a
theorem tg{k L:Nat}(h:k<L):(ay (10^k)).length<=L:=L6 (yu (k:=k+1) (NS (by decide) (by omega))) (by omega)
theorem Jv:tJ Tryz.prog 65=some ([(0,1),(1,1),(2,1)],[.bool false,.slice none 0 0,.slice none 0 0]):=by kernel_rfl
theorem yv(s:ByteArray)(P:s.size<=1048576):Ct 79 [sT s] (yp (gR s)):=by
 refine Ct.of (n:=100) Tryz.func79 Z Z Z Z Z fun w0 G0=>?_
 refine ab<|aj 2 Z<|ab<|ab<|ae<|aa 1 Z<|af (t:=nI s.size) Z Z Z (eK Z a8 Z)<|af (t:=bT (decide (4000<s.size))) Z Z Z (ah (ai Z Z Z Zy) (av (tE s.size 4000)))<|ag<|aF Z (fun x=>?_) (fun x=>?_)
 ·refine ab<|aj 3 Z<|aC<|⟨.inr Z,_,.cons ⟨_,_,_,_,Z,Z,.inl ⟨_,aN,Z,Z⟩⟩ (.cons Z .nil),by unfold yp gR;rw[if_pos x];rfl,gz _⟩
 refine ax<|ab ?_;obtain⟨u,G⟩:∃u,eT s=u:=⟨_,rfl⟩;have I:u.size<=4000:=by
  rw[<-G];unfold eT;split
  ·simp only[MO];omega
  omega
 obtain⟨n,D⟩:∃n,tO u.data.toList=n:=⟨_,rfl⟩;obtain⟨r,H⟩:∃r,u.extract (n+1) u.size=r:=⟨_,rfl⟩;have g:gR s=lC (AE s) u n r:=by unfold gR;rw[if_neg x,G,D,H]
 refine ae<|aa 1 Z<|af (t:=nI s.size) Z Z Z (eK Z a8 Z)<|af (t:=bT (decide (0<s.size))) Z Z Z (ah (ai Z Z Z Zy) (av (tE s.size 0)))<|aa 1 Z<|aA (t:=sT s) ((decide (0<s.size))=true) Z Z Z au Z Z (fun b=>aw Z Z)<|aA (t:=.sc (.int .u8 (((ck s 0).toNat:Nat):Int))) ((decide (0<s.size))=true) Z Z Z au Z Z (fun b=>dE (j:=0) Z a8 (if_pos b) Z Z (eH (of_decide_eq_true b)))<|aA (t:=bT (decide ((ck s 0).toNat=45))) ((decide (0<s.size))=true) Z Z Z au Z Z (fun b=>ah (ai Z (if_pos b) Z (fun _=>rfl)) (av (lY ((ck s 0).toNat) 45)))<|af (t:=bT ((decide (0<s.size))&&(decide ((ck s 0).toNat=45)))) Z Z Z (aL Z Z (fun c=>(if_pos c).trans (av (by rw[c];rfl))) (fun c=>(av (by rw[c];rfl))))<|af (t:=bT (AE s)) Z Z Z (ah (bW Z Z) (av Z))<|ag<|ab<|rE ⟨100,[(0,sT u),(2,.box 0 0),(3,iT 0),(4,bT (AE s))],[(65,[bT false,.sl [],.sl []])],[]⟩ 1 0 ?_ ?_
 ·refine ab<|aj 1 Z<|aH Z (fun m=>?_) (fun m=>?_)
  ·have O:0<s.size:=by have h:=m;unfold AE at h;rw[Ma]at h;exact of_decide_eq_true h.1
   refine ae<|aa 1 Z<|af (t:=sT (s.extract 1 s.size)) Z Z Z (fa (l:=1) (h:=s.size) Z a8 Z ⟨_,Z⟩ Z (by omega) (by omega))<|aa 1 Z<|ag<|⟨Z,Z,Z,.cons (o9 (by rw[<-G];unfold eT;rw[if_pos m])) Z (.cons Z Z (.cons Z Z (.cons Z Z .nil))),Z⟩
  refine ax<|⟨Z,Z,Z,.cons (o9 (by rw[<-G];unfold eT;rw[if_neg (by rw[show AE s=false from m];exact MR)])) Z (.cons Z Z (.cons Z Z (.cons Z Z .nil))),Z⟩
 refine ab<|ae<|aa 1 Z<|af (t:=nI n) Z Z Z (ar Z (by rw[<-D];exact FJ u (by omega)) Z Z)<|aa 1 Z<|ag<|ab<|ab<|ae<|aa 1 Z<|af (t:=bT (decide (n=0))) Z Z Z (ah (ai Z Z Z Zy) (av (lY n 0)))<|ag<|aF Z (fun w=>?_) (fun w=>?_)
 ·have v:=w;refine ab<|aj 3 Z<|aC<|⟨.inr Z,_,.cons ⟨_,_,_,_,Z,Z,.inl ⟨_,aN,Z,Z⟩⟩ (.cons Z .nil),by rw[g];unfold lC;rw[if_pos v];rfl,gz _⟩
 have v:=w;have K:n<=u.size:=by rw[<-D,bN];exact FH _
 refine ax<|ab<|ab<|ae<|aa 2 Z<|af (t:=nI u.size) Z Z Z (eK Z a8 Z)<|af (t:=bT (decide (n=u.size))) Z Z Z (ah (ai Z Z Z Zy) (av (lY n u.size)))<|ag<|aF Z (fun o=>?_) (fun o=>?_)
 ·have f:=o;have p:u.data.toList.all dK=true:=rh (by rw[<-bN,D];exact o);refine ab<|ae<|aa 2 Z<|af Z Z Z (ar Z (mV u (by omega) I p) Z Z)<|af Z Z Z (ar Z (kz 1 (by decide)) Z Z)<|af Z Z Z (ar Z (mM _ _ _ (gD p (by rw[<-bN];omega)) (by decide)) Z Z)<|aa 2 Z<|ag<|aC<|⟨.inr Z,_,.cons ⟨_,_,_,_,Z,Z,.inl ⟨_,aN,Z,Z⟩⟩ (.cons Z .nil),by rw[g];unfold lC;rw[if_neg v,if_pos f];rfl,gz _⟩
 have f:=o;have E:n<u.size:=by omega
 have N:r.size=u.size-(n+1):=by rw[<-H];simp only[MO];omega
 have M:(u.extract 0 n).size=n:=by simp only[MO];omega
 have C:(u.extract 0 n).data.toList.all dK=true:=by rw[kM,Nx,<-D];exact yo _
 refine ax<|ab<|ci (fu:=9) [some 40,some 41,some 42,some 43,some 44,some 45,some 46,some 6,some 7] [sT u,nI n,.sc (.int .u8 (((ck u n).toNat:Nat):Int)),sT u,nI n,nI (n+1),sT r,.sc (.int .u8 (((ck u n).toNat:Nat):Int)),sT r] (by kernel_rfl) Z Z (by kernel_rfl) Z ?_ ?_
 ·refine Chain.op Z (aw Z Z)<|Chain.op Z (aw Z Z)<|Chain.op Z (dE Z a8 Z Z Z (eH E))<|Chain.op Z (aw Z Z)<|Chain.op Z (aw Z Z)<|Chain.op Z (ah (ai Z Z Z Zy) (bu (by omega)))<|Chain.op Z (ah (fa (l:=n+1) (h:=u.size) Z a8 Z ⟨_,Z⟩ Z (by omega) (by omega)) (o9 H))<|Chain.op Z (bW Z Z)<|Chain.op Z (bW Z Z)<|Chain.nil
 refine ab<|ab<|ae<|aa 1 Z<|af (t:=bT (decide ((ck u n).toNat≠47))) Z Z Z (ah (ai Z Z Z Zy) (av (wD ((ck u n).toNat) 47)))<|aa 1 Z<|aA (t:=.sc (.int .u8 (((ck u n).toNat:Nat):Int))) ((decide ((ck u n).toNat≠47))=true) Z Z Z au Z Z (fun b=>aw Z Z)<|aA (t:=bT (decide ((ck u n).toNat≠46))) ((decide ((ck u n).toNat≠47))=true) Z Z Z au Z Z (fun b=>ah (ai Z (if_pos b) Z (fun _=>rfl)) (av (wD ((ck u n).toNat) 46)))<|af (t:=bT ((decide ((ck u n).toNat≠47))&&(decide ((ck u n).toNat≠46)))) Z Z Z (aL Z Z (fun c=>(if_pos c).trans (av (by rw[c];rfl))) (fun c=>(av (by rw[c];rfl))))<|aa 1 Z<|aA (t:=sT r) (((decide ((ck u n).toNat≠47))&&(decide ((ck u n).toNat≠46)))=false) Z Z Z au Z Z (fun b=>aw Z Z)<|aA (t:=bT (r.toList==(⟨#[]⟩:ByteArray).toList)) (((decide ((ck u n).toNat≠47))&&(decide ((ck u n).toNat≠46)))=false) Z Z Z au Z Z (fun b=>ah (ai Z (if_pos b) Z (fun _=>rfl)) (av Z))<|af (t:=bT (((decide ((ck u n).toNat≠47))&&(decide ((ck u n).toNat≠46)))||(r.toList==(⟨#[]⟩:ByteArray).toList))) Z Z Z (aL Z Z (fun c=>(av (by rw[c];rfl))) (fun c=>(if_pos c).trans (av (by rw[c];rfl))))<|aa 1 Z<|aA (t:=sT r) ((((decide ((ck u n).toNat≠47))&&(decide ((ck u n).toNat≠46)))||(r.toList==(⟨#[]⟩:ByteArray).toList))=false) Z Z Z au Z Z (fun b=>aw Z Z)<|aA (t:=nI (tO r.data.toList)) ((((decide ((ck u n).toNat≠47))&&(decide ((ck u n).toNat≠46)))||(r.toList==(⟨#[]⟩:ByteArray).toList))=false) Z Z Z au Z Z (fun b=>ar Z (FJ r (by omega)) (eU (if_pos b) Z) Z)<|aA (t:=sT r) ((((decide ((ck u n).toNat≠47))&&(decide ((ck u n).toNat≠46)))||(r.toList==(⟨#[]⟩:ByteArray).toList))=false) Z Z Z au Z Z (fun b=>aw Z Z)<|aA (t:=nI r.size) ((((decide ((ck u n).toNat≠47))&&(decide ((ck u n).toNat≠46)))||(r.toList==(⟨#[]⟩:ByteArray).toList))=false) Z Z Z au Z Z (fun b=>eK Z a8 (if_pos b))<|aA (t:=bT (decide ((tO r.data.toList)≠r.size))) ((((decide ((ck u n).toNat≠47))&&(decide ((ck u n).toNat≠46)))||(r.toList==(⟨#[]⟩:ByteArray).toList))=false) Z Z Z au Z Z (fun b=>ah (ai Z (if_pos b) (if_pos b) (fun _=>rfl)) (av (wD ((tO r.data.toList)) r.size)))<|af (t:=bT (mo (ck u n) r)) Z Z Z (ah (t:=bT ((((decide ((ck u n).toNat≠47))&&(decide ((ck u n).toNat≠46)))||(r.toList==(⟨#[]⟩:ByteArray).toList))||(decide ((tO r.data.toList)≠r.size)))) (aL Z Z (fun c=>(av (by rw[c];rfl))) (fun c=>(if_pos c).trans (av (by rw[c];rfl)))) (av Z))<|ag<|aH Z (fun i=>?_) (fun i=>?_)
 ·have k:=i;refine ab<|aj 3 Z<|aC<|⟨.inr Z,_,.cons ⟨_,_,_,_,Z,Z,.inl ⟨_,aN,Z,Z⟩⟩ (.cons Z .nil),by rw[g];unfold lC;rw[if_neg v,if_neg f,if_pos (show mo (ck u n) r=true from k)];rfl,gz _⟩
 have k:¬mo (ck u n) r=true:=by rw[i];exact MR
 have A:r.data.toList.all dK=true:=rh (by have h:=i;unfold mo at h;rw[Mz]at h;rw[<-bN];simpa using h.2);have L:1<=r.size:=by
  have h:=i;unfold mo at h;rw[Mz,Mz]at h;have J:=h.1.2;rw[Lib.toList_data,bN]at*;cases e:r.data.toList with
  |nil=>rw[e]at J;simp at J
  |cons a l=>simp
 have q:(u.extract 0 n++r).data.toList.all dK=true:=by rw[Pr,Nv,NX,C,A];rfl
 refine ax<|ab<|ab<|ae<|aa 1 Z<|af (t:=bT (decide ((ck u n).toNat=46))) Z Z Z (ah (ai Z Z Z Zy) (av (lY ((ck u n).toNat) 46)))<|ag<|aF Z (fun y=>?_) (fun y=>?_)
 ·have d:=y;refine ab<|ae<|af Z Z Z (ar Z (kz 10 (by decide)) Z Z)<|aa 1 Z<|af (t:=nI r.size) Z Z Z (eK Z a8 Z)<|af Z Z Z (ar Z (Hw r.size (by omega)) Z Z)<|aa 5 Z<|ag<|ab<|ab<|ae<|aa 1 Z<|af (t:=bT (decide (0≠0))) Z Z Z (ah (ai Z Z Z Zy) (av (wD 0 0)))<|ag<|aF Z (fun F=>?_) (fun F=>?_)
  ·exact absurd Z F
  refine ax<|ab<|ae<|aa 3 Z<|af (t:=sT (u.extract 0 n)) Z Z Z (fa (l:=0) (h:=n) Z a8 Z Z ⟨_,Z⟩ (by omega) (by omega))<|aa 1 Z<|af (t:=sT (u.extract 0 n++r)) Z Z Z (ai Z Z Z (fun _=>qR (by rw[<-H];simp only[MO];omega)))<|af Z Z Z (ar Z (mV _ (by rw[NM];omega) (by rw[NM];omega) q) Z Z)<|aa 1 Z<|af Z Z Z (ar Z (mM _ _ _ (gD q (by rw[<-bN,NM];omega)) (tg (by omega))) Z Z)<|aa 2 Z<|ag<|aC<|⟨.inr Z,_,.cons ⟨_,_,_,_,Z,Z,.inl ⟨_,aN,Z,Z⟩⟩ (.cons Z .nil),by rw[g];unfold lC;rw[if_neg v,if_neg f,if_neg k,if_pos d];rfl,gz _⟩
 have d:=y;refine ax<|ab<|ae<|aa 1 Z<|af Z Z Z (ar Z (mV r (by omega) (by omega) A) Z Z)<|aa 1 Z<|ag<|ab<|ab<|ae<|aa 1 Z<|af (t:=nI ((ay (eB r.data.toList)).length)) Z Z Z (ah (bd Z dw Z) (by simp only[L8]))<|af (t:=bT (decide ((ay (eB r.data.toList)).length=0))) Z Z Z (ah (ai Z Z Z Zy) (av (lY ((ay (eB r.data.toList)).length) 0)))<|ag<|aF Z (fun B=>?_) (fun B=>?_)
 ·have z:=bR.1 B;refine ab<|aj 3 Z<|aC<|⟨.inr Z,_,.cons ⟨_,_,_,_,Z,Z,.inl ⟨_,aN,Z,Z⟩⟩ (.cons Z .nil),by rw[g];unfold lC;rw[if_neg v,if_neg f,if_neg k,if_neg d,if_pos z];rfl,gz _⟩
 have z:¬eB r.data.toList=0:=fun e=>B (bR.2 e)
 refine ax<|ab<|ae<|aa 3 Z<|af (t:=sT (u.extract 0 n)) Z Z Z (fa (l:=0) (h:=n) Z a8 Z Z ⟨_,Z⟩ (by omega) (by omega))<|af Z Z Z (ar Z (mV _ (by omega) (by omega) C) Z Z)<|aa 1 Z<|af Z Z Z (ar Z (mM _ _ _ (gD C (by rw[<-bN];omega)) (gD A (by rw[<-bN];omega))) Z Z)<|aa 2 Z<|ag<|aC<|⟨.inr Z,_,.cons ⟨_,_,_,_,Z,Z,.inl ⟨_,aN,Z,Z⟩⟩ (.cons Z .nil),by rw[g];unfold lC;rw[if_neg v,if_neg f,if_neg k,if_neg d,if_neg z];rfl,gz _⟩
theorem DB(q:Rat)(d:Fit 262144 q)(e:(qM q.num.natAbs).size<=1073741824)(g:(qM q.den).size<=1073741824):Ct 47 [dp q] (sT (gF q)):=by
 refine Ct.of (n:=25) Tryz.func47 Z Z Z Z Z fun w0 G0=>?_
 refine ab<|aj 2 Z<|ab<|ae<|aa 1 Z<|af (t:=.agg (aU q)) Z Z Z (ar Z (su q d) Z Z)<|aa 2 Z<|ag<|ab ?_;obtain⟨t,c⟩:∃t,yq q=t:=⟨_,rfl⟩;have f:t.size<=1073741825:=by
  rw[<-c];unfold yq;split
  ·rw[NM];have:=e;show 1+_<=_;omega
  omega
 refine ae<|aa 2 Z<|af (t:=sT (qM q.num.natAbs)) Z Z Z (ar Z (sV _ d.num) Z Z)<|aa 1 Z<|ag<|ab<|rE ⟨25,[(1,.box 0 0),(2,sT (⟨#[]⟩)),(3,.box 1 0),(4,sT t)],[(65,(aU q)),(65,(aU q))],[]⟩ 2 0 ?_ ?_
 ·refine ab<|aj 2 Z<|aF Z (fun a=>?_) (fun a=>?_)
  ·refine ae<|aa 1 Z<|af (t:=sT ((⟨#[45]⟩:ByteArray)++qM q.num.natAbs)) Z Z Z (ai Z Z Z (fun _=>qR (by show 1+_<=_;omega)))<|aa 1 Z<|ag<|⟨Z,Z,Z,.cons Z Z (.cons Z Z (.cons Z Z (.cons (o9 (by rw[<-c];unfold yq;rw[if_pos a])) Z .nil))),Z⟩
  refine ax<|⟨Z,Z,Z,.cons Z Z (.cons Z Z (.cons Z Z (.cons (o9 (by rw[<-c];unfold yq;rw[if_neg a])) Z .nil))),Z⟩
 refine ab<|ab<|ae<|aa 2 Z<|af (t:=bT (decide (q.den=1))) Z Z Z (ar Z (E9 _) Z Z)<|af (t:=bT (!(decide (q.den=1)))) Z Z Z (ef Z Z Zy)<|ag<|aH Z (fun b=>?_) (fun b=>?_)
 ·refine ae<|aa 3 Z<|af (t:=sT (qM q.den)) Z Z Z (ar Z (sV _ d.den) Z Z)<|af (t:=sT ((⟨#[47]⟩:ByteArray)++qM q.den)) Z Z Z (ai Z Z Z (fun _=>qR (by show 1+_<=_;omega)))<|af (t:=sT (t++((⟨#[47]⟩:ByteArray)++qM q.den))) Z Z Z (ai Z Z Z (fun _=>qR (by rw[NM];show _+(1+_)<=_;omega)))<|aa 1 Z<|ag<|ab<|aj 2 Z<|aC<|⟨.inr Z,_,.cons Z .nil,o9 (by unfold gF;rw[c,if_neg (by simpa using b)]),Z⟩
 refine ax<|ab<|aj 2 Z<|aC<|⟨.inr Z,_,.cons Z .nil,o9 (by unfold gF;rw[c,if_pos (by simpa using b)]),Z⟩
attribute [local go_sem ↓] Go.wp_at_zero Go.wp_at_succ
structure KS (w:World) (g:Nat) (W:World):Prop where
 blk:IsBlk W g 77 #[.int .i64 2,.int .i64 0,.string ⟨#[105,116,39,115]⟩]
 env:Env W
 below:Below w.heap.size w W
theorem mp{t n:Int}{s:ByteArray}{b:Bool}(h:be t n s=b)(w:World)(a:s.size<=9223372036854775807):
  Calls Tryz.prog 98 #[.agg #[.int .i64 t,.int .i64 n,.string s]] w fun e w'=>e=.returned (.bool b)/\Below w.heap.size w w':=by subst h;exact jc t n s w a
theorem Ix{l:List V}(h:l.all V.ok=true):(fE l).length<=66*l.length:=by
 induction l with
 |nil=>simp[fE]
 |cons v l ih=>
  simp only[NP,Ma]at h;have:=ih h.2;have b:v.enc.length<=66:=by
   unfold V.enc;split
   ·rename_i ht;have a:v.s.size<=64:=by
     have:=h.1;simp only[V.ok,be,ht]at this;simp at this;exact this.1.2
    simp;omega
   simp[ma]
  simp only[fE,OD,Mc,Mb]at this⊢;omega
def H9(w:World)(e:Ending)(w':World):Prop:=e=.returned (.bool true)/\Below w.heap.size w w'
theorem DE(n:Int):Dd (decide (n<0)) n.natAbs=Lib.itoa n:=by
 unfold Dd Lib.itoa;by_cases h:n<0
 ·simp[h]
 have:n.natAbs=n.toNat:=by omega
 simp[h,this]
theorem DF(n:Int)(e: -9223372036854775808<=n)(f:n<=9223372036854775807):(Lib.decDigits n.natAbs).length<=1073741824:=by
 have key:∀(k u:Nat),u<10^k->0<k->(Lib.decDigits u).length<=k:=by
  intro k;induction k with
  |zero=>intro u _ h;exact absurd h (by omega)
  |succ k ih=>
   intro u a _;rw[Lib.decDigits];split
   ·simp
   rename_i h;have c:0<k:=by
    rcases M1 k with rfl|d
    ·simp at a;omega
    exact d
   have:=ih (u/10) (by rw[Nz (by decide)];rw[MM]at a;exact a) c;simp;omega
 have b:(10^20:Nat)=100000000000000000000:=by decide
 have:=key 20 n.natAbs (by rw[b];omega) (by decide);omega
theorem AG(t n:Int)(s:ByteArray)(w:World)(h:be t n s=false)(o:s.size<=9223372036854775807):
  Calls Tryz.prog 41 #[.agg #[.int .i64 t,.int .i64 n,.string s]] w (mI (cB t n s) w):=by
 have k:=J (show cB t n s=[] by simp[cB,h]);obtain⟨W,i,a,f,d⟩:=lQ w 77 #[.int .i64 t,.int .i64 n,.string s];have l:=J i;have j:=J a;have g:=a.size;have m:=J (mp h W o);clear i a f d h
 go_enter Tryz.func41,Tryz.ntmps41
 go_wp2_with fail
 rw[l.out];refine m.out.mono ?_;rintro e p ⟨rfl,b⟩;have c:=J (ak j.out b g);clear b
 go_wp2
 go_ret
 exact⟨by rw[k.out];rfl,c.out⟩
theorem AH(n:Int)(s:ByteArray)(w:World)(h:be 1 n s=true)(q: -9223372036854775808<=n)(r:n<=9223372036854775807)(Q:s.size<=9223372036854775807):
  Calls Tryz.prog 41 #[.agg #[.int .i64 1,.int .i64 n,.string s]] w (mI (cB 1 n s) w):=by
 have D:=J (show cB 1 n s=Lib.itoa n by simp[cB,h]);obtain⟨W,B,c,j,p⟩:=lQ w 77 #[.int .i64 1,.int .i64 n,.string s];have E:=J B;have C:=J c;have f:=c.size;have A:=J j;have O:=J (mp h W Q);clear B c j p h
 go_enter Tryz.func41,Tryz.ntmps41
 go_wp2_with fail
 rw[E.out];refine O.out.mono ?_;rintro e F ⟨rfl,a⟩;have x:=J (ak C.out a f);have m:w.heap.size<=F.heap.size:=L6 f a.size;obtain⟨G,L,N,_,_,_⟩:=(A.out.below a A.out.lt).three;clear a
 go_wp2_with fail
 refine(Dc n _ q r).mono ?_;rintro e z ⟨R,T,rfl,k,i,d⟩;obtain⟨H,K,en,o⟩:=k.is (bY _);obtain⟨I,M,P,g⟩:=i.is (bY _);subst en P;have v:=J (ak x.out d m);have t:w.heap.size<=z.heap.size:=L6 m d.size;have b:=xY (decide (n<0)) H I K M n.natAbs z o g (by have:=BG n q r;omega) (fun h=>by simp at h;omega) (DF n q r);rw[DE]at b;have u:=J b;clear k i d o g b G L N
 go_wp2_with fail
 refine u.out.mono ?_;rintro e S ⟨rfl,l⟩;have y:=J (ak v.out l t);clear l
 go_wp2
 go_ret
 exact⟨by rw[D.out];rfl,y.out⟩
theorem wm(s:ByteArray)(k:Nat)(h:k<s.size):s.extract k (k+1)=⟨[s[k]].toArray⟩:=by
 rw[<-iY (s.extract k (k+1)),Lib.extract_data];congr 2;have a:k<s.data.toList.length:=by simpa using h
 rw[Md a,show k+1-k=1 by omega];rfl
theorem F3(l:List UInt8)(c:UInt8):gG (l++[c])=gG l++(if c=39 then [39,39]else [c]):=by
 induction l with
 |nil=>by_cases h:c=39<;>simp[gG,h]
 |cons a l ih=>by_cases h:a=39<;>simp[gG,h,ih]
theorem AI(n:Int)(s:ByteArray)(w:World)(h:be 2 n s=true):
  Calls Tryz.prog 41 #[.agg #[.int .i64 2,.int .i64 n,.string s]] w (mI (cB 2 n s) w):=by
 have x:=J (show cB 2 n s=[39]++gG s.data.toList++[39] by simp[cB,h]);have q:s.size<=64:=by simp[be]at h;omega
 obtain⟨W,t,c,j,m⟩:=lQ w 77 #[.int .i64 2,.int .i64 n,.string s];have y:=J t;have u:=J c;have o:=c.size;have r:=J j;have B:=J (mp h W (by omega));clear t c j m h
 go_enter Tryz.func41,Tryz.ntmps41
 go_wp2_with fail
 rw[y.out];refine B.out.mono ?_;rintro e D ⟨rfl,f⟩;have p:=J (ak u.out f o);obtain⟨E,H,I,_,_,_⟩:=(r.out.below f r.out.lt).three;clear f
 go_wp2
 go_loop [3,4] (fun v i=>∃k:Nat,k<=s.size/\i=.int .i64 k/\v=.string ⟨(39::gG (s.data.toList.take k)).toArray⟩) (fun _ i=>s.size-(intOf i).toNat)
 case atStart=>exact⟨0,by omega,Z,by simp[gG]⟩
 case round=>
  obtain⟨k,F,rfl,rfl⟩:=hrel;have C:(gG (s.data.toList.take k)).length<=200:=by
   have:=iB (s.data.toList.take k);rw[Mf]at this;omega
  by_cases b:k<s.size
  ·have l:=J (show gG (s.data.toList.take (k+1))=gG (s.data.toList.take k)++(if s[k]=39 then [39,39]else [s[k]]) by
    rw[Mq (by simpa using b),F3];rfl)
   by_cases g:s[k].toNat=39
   ·have a:s[k]=39:=O5.1 g;have d:=J (wm s k b);have A:=J a;rw[if_pos a]at l;clear a
    go_wp2
    go_round
    case rel=>
     refine⟨k+1,by omega,by go_num,?_⟩;rw[l.out,d.out,A.out,j9 (39::gG (s.data.toList.take k)) [39],j9 (39::gG (s.data.toList.take k)++[39]) [39]];simp
    case measure=>simp[intOf];omega
   have a:s[k]≠39:=fun e=>g (by rw[e];rfl)
   have d:=J (wm s k b);have G:((s[k].toNat:Int)==39)=false:=by rw[beq_eq_false_iff_ne];omega
   rw[if_neg a]at l;clear a g
   go_wp2
   go_round
   case rel=>
    refine⟨k+1,by omega,by go_num,?_⟩;rw[l.out,d.out,j9];simp
   case measure=>simp[intOf];omega
  have z:=J (show s.data.toList.take k=s.data.toList from Me (by simp;omega))
  go_wp2
  go_ret
  refine⟨?_,p.out⟩;rw[x.out];show Ending.returned (.string (⟨(39::gG (s.data.toList.take k)).toArray⟩++⟨[39].toArray⟩))=_
  rw[z.out,j9 (39::gG s.data.toList) [39]];rfl
theorem lD(t n:Int)(s:ByteArray)(w:World)(e: -9223372036854775808<=n)(f:n<=9223372036854775807)(d:s.size<=9223372036854775807):
  Calls Tryz.prog 41 #[.agg #[.int .i64 t,.int .i64 n,.string s]] w (mI (cB t n s) w):=by
 cases a:be t n s
 ·exact AG t n s w a d
 by_cases c:t=1
 ·subst c;exact AH n s w a e f d
 have b:t=2:=by
  by_cases b:t=2
  ·exact b
  simp[be,c,b]at a
 subst b;exact AI n s w a
theorem yy(k:Nat):∀(u:Nat),u<10^k->0<k->(Lib.decDigits u).length<=k:=by
 induction k with
 |zero=>intro u _ h;exact absurd h (by omega)
 |succ k ih=>
  intro u a _;rw[Lib.decDigits];split
  ·simp
  rename_i h;have b:0<k:=by
   rcases M1 k with rfl|c
   ·simp at a;omega
   exact c
  have:=ih (u/10) (by rw[Nz (by decide)];rw[MM]at a;exact a) b;simp;omega
theorem F5(n:Int)(b: -9223372036854775808<=n)(c:n<=9223372036854775807):(Lib.itoa n).length<=21:=by
 have a:(10^20:Nat)=100000000000000000000:=by decide
 unfold Lib.itoa;split
 ·have:=yy 20 n.natAbs (by rw[a];omega) (by decide);simp;omega
 have:=yy 20 n.toNat (by rw[a];omega) (by decide);omega
theorem Ck{t n:Int}{b:ByteArray}(a:be t n b=true)(h: -9223372036854775808<=n)(i:n<=9223372036854775807):1<=(cB t n b).length/\(cB t n b).length<=130:=by
 by_cases d:t=1
 ·subst d;rw[show cB 1 n b=Lib.itoa n by simp[cB,a]];obtain⟨c,r,e,j⟩:=g8 n;have:=F5 n h i;rw[e]at this⊢;simp at this⊢;omega
 obtain⟨rfl,rfl,g,_⟩:=fT d a;rw[show cB 2 0 b=[39]++gG b.data.toList++[39] by simp[cB,a]];have:=iB b.data.toList;have f:b.data.toList.length=b.size:=by simp
 simp only[Mc,Mb,Mo];omega
end Go.Proofs.YtfoejfohbkmmeaaGreatDoor
