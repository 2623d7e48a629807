import Derived.Test.YtfoejfohbkmmeaaGreatDoorQ08
import Derived.Test.YtfoejfohbkmmeaaGreatDoorQ00
namespace Go.Proofs.YtfoejfohbkmmeaaGreatDoor
open Go.RowKit
open Lib renaming hid→J
structure Cfg where
 on:List Nat
 sl:List (Nat×Tree)
 bs:List (TypeId×List Tree)
 rs:List (Option Row)
 ts:List Tree
def GK(dsts:List (Option Nat))(c:Cfg)(L:Nat->Bool)(s:Nat):Tree:=
 match eJ s dsts with
 |none=>look c.sl s
 |some j=>cond (L j) (c.ts.getD j .any) (look c.sl s)
def ki(dsts:List (Option Nat))(ts:List Tree)(sl:List (Nat×Tree)):List Nat->List (Nat×Tree)
 |[]=>sl
 |j::js=>match dsts[j]? with
  |some (some d)=>(d,ts.getD j .any)::ki dsts ts sl js
  |_=>ki dsts ts sl js
theorem pu{dsts:List (Option Nat)}{ts:List Tree}{sl:List (Nat×Tree)}{s:Nat}(h:eJ s dsts=none):∀anc,look (ki dsts ts sl anc) s=look sl s
 |[]=>rfl
 |j::js=>by
  simp only[ki];split
  ·next d hd=>
   rw[cV,if_neg,pu h js];rintro rfl;have:=MT.2 (L9 hd);rw[fI h]at this;cases this
  exact pu h js
theorem wR{dsts:List (Option Nat)}{ts:List Tree}{sl:List (Nat×Tree)}{s j n:Nat}(c:bV n dsts=true)(h:eJ s dsts=some j):∀anc,look (ki dsts ts sl anc) s=if anc.contains j then ts.getD j .any else look sl s
 |[]=>by simp[ki]
 |i::js=>by
  have b:=wR (ts:=ts) (sl:=sl) c h js;simp only[ki];have f:=eP h;by_cases a:i=j
  ·subst a;simp only[f,cV];simp
  have g:(i::js).contains j=js.contains j:=by
   rw[OM,show(j==i)=false from beq_eq_false_iff_ne.2 fun e=>a e.symm,Qm]
  rw[g];split
  ·next d hd=>
   rw[cV,if_neg,b];rintro rfl;exact a (gA c hd f)
  exact b
def za(ops:Array Oper)(fu:Nat)(dsts:List (Option Nat))(i:Nat)(anc:List Nat)(o:Oper):Bool:=(dN o.op).all fun s=>match eJ s dsts with
 |none=>true
 |some j=>cond (anc.contains j) (!Nat.beq j i&&reach ops fu i j) (Nat.beq j i||reach ops fu j i)
def IQ(ops:Array Oper)(fu:Nat)(ws:List Nat)(c:Cfg)(i:Nat):Bool:= !c.on.contains i&&ws.all fun j=>Nat.beq j i||cond (reach ops fu i j) (c.on.contains j) (cond (reach ops fu j i) (!c.on.contains j) true)
def J7(ws:List Nat)(c:Cfg)(L:Nat->Bool):Prop:=(∀j,ws.contains j=true->L j=c.on.contains j)/\∀j,c.on.contains j=true->ws.contains j=true
def wS(o:Oper)(S0:St)(K:Tree->Tree)(tt:Tree)(bs':List (TypeId×List Tree))(rs':List (Option Row)):Prop:=∀w0 G0 (S:St),S.n=S0.n->S.bs=S0.bs->S.rs=S0.rs->(∀s,(dN o.op).contains s=true->S0.get s=.any\/S.get s=S0.get s)->
 ∃S',n5 w0 G0 o S S'/\S'.n=S.n/\S'.bs=bs'/\S'.rs=rs'/\∀s,S'.get s=if o.dst=some s then tt else K (S.get s)
inductive TsK (ops:Array Oper) (fu i:Nat) (K:Tree->Tree):Nat->List Tree->List Tree->Prop
 |nil {j:Nat}:TsK ops fu i K j [] []
 |k {j:Nat} {t t':Tree} {ts ts':List Tree} (h:t'=K t) (r:TsK ops fu i K (j+1) ts ts'):TsK ops fu i K j (t::ts) (t'::ts')
 |a {j:Nat} {t t':Tree} {ts ts':List Tree} (h:t'=.any) (r:TsK ops fu i K (j+1) ts ts'):TsK ops fu i K j (t::ts) (t'::ts')
 |i {j:Nat} {t t':Tree} {ts ts':List Tree} (h:j=i) (r:TsK ops fu i K (j+1) ts ts'):TsK ops fu i K j (t::ts) (t'::ts')
 |d {j:Nat} {t t':Tree} {ts ts':List Tree} (h:reach ops fu j i=true) (r:TsK ops fu i K (j+1) ts ts'):TsK ops fu i K j (t::ts) (t'::ts')
theorem TsK.at{ops:Array Oper}{fu i:Nat}{K:Tree->Tree}:∀{j:Nat} {ts b:List Tree},TsK ops fu i K j ts b->∀q,b.getD q .any=K (ts.getD q .any)\/b.getD q .any=.any\/j+q=i\/reach ops fu (j+q) i=true
 |_,_,_,.nil,q=>.inr (.inl (by simp))
 |_,_,_,.k h _,0=>.inl (by simpa using h)
 |_,_,_,.a h _,0=>.inr (.inl (by simpa using h))
 |_,_,_,.i h _,0=>.inr (.inr (.inl h))
 |_,_,_,.d h _,0=>.inr (.inr (.inr h))
 |j,_,_,.k _ r,q+1=>by have:=r.at q;rw[show j+1+q=j+(q+1) by omega]at this;simpa using this
 |j,_,_,.a _ r,q+1=>by have:=r.at q;rw[show j+1+q=j+(q+1) by omega]at this;simpa using this
 |j,_,_,.i _ r,q+1=>by have:=r.at q;rw[show j+1+q=j+(q+1) by omega]at this;simpa using this
 |j,_,_,.d _ r,q+1=>by have:=r.at q;rw[show j+1+q=j+(q+1) by omega]at this;simpa using this
def Lt(i:Nat)(on on':List Nat):Bool:=on'.contains i&&(on.all fun j=>on'.contains j)&&on'.all fun j=>j==i||on.contains j
theorem Ek{i:Nat}{c a:List Nat}(h:Lt i c a=true)(j:Nat):a.contains j=(j==i||c.contains j):=by
 simp only[Lt,Ma]at h;obtain⟨⟨e,f⟩,g⟩:=h;cases b:a.contains j with
 |true=>exact(Mh.1 g j (MT.1 b)).symm
 |false=>
  symm;rw[Mz];constructor
  ·cases d:j==i with
   |false=>rfl
   |true=>rw[beq_iff_eq.1 d,e]at b;cases b
  cases d:c.contains j with
  |false=>rfl
  |true=>
   have:=Mh.1 f j (MT.1 d);rw[this]at b;cases b
inductive OpC (ops:Array Oper) (fu n:Nat) (dsts:List (Option Nat)) (ws:List Nat) (Cs:List Cfg) (i:Nat) (o:Oper) (anc:List Nat):List Cfg->Prop
 |nil:OpC ops fu n dsts ws Cs i o anc []
 |no {c:Cfg} {cs:List Cfg} (h:IQ ops fu ws c i=false) (r:OpC ops fu n dsts ws Cs i o anc cs):OpC ops fu n dsts ws Cs i o anc (c::cs)
 |ok {c:Cfg} {cs:List Cfg} {t:Tree} (hw:ws.contains i=false) (ht:c.ts[i]? =some t) (hg:o.guard=none) (h:OpOK o ⟨n,ki dsts c.ts c.sl anc,c.bs,c.rs⟩ t) (r:OpC ops fu n dsts ws Cs i o anc cs):OpC ops fu n dsts ws Cs i o anc (c::cs)
 |wr {c:Cfg} {cs:List Cfg} (m:Nat) {c':Cfg} (K:Tree->Tree) (tt:Tree) (hw:ws.contains i=true) (hm:Cs[m]? =some c') (hg:o.guard=none) (h:wS o ⟨n,ki dsts c.ts c.sl anc,c.bs,c.rs⟩ K tt c'.bs c'.rs) (hon:Lt i c.on c'.on=true) (hK:K .any=.any) (hsl:c.sl.map (fun p=>(p.1,K p.2))=c'.sl) (hti:c'.ts[i]? =some tt) (hts:TsK ops fu i K 0 c.ts c'.ts) (r:OpC ops fu n dsts ws Cs i o anc cs):OpC ops fu n dsts ws Cs i o anc (c::cs)
inductive StepsW (ops:Array Oper) (fu n:Nat) (dsts:List (Option Nat)) (ws:List Nat) (Cs:List Cfg):Nat->List Oper->Prop
 |nil {i:Nat}:StepsW ops fu n dsts ws Cs i []
 |op {i:Nat} {o:Oper} {os:List Oper} (anc:List Nat) (hr:za ops fu dsts i anc o=true) (h:OpC ops fu n dsts ws Cs i o anc Cs) (r:StepsW ops fu n dsts ws Cs (i+1) os):StepsW ops fu n dsts ws Cs i (o::os)
def JN(n:Nat)(dsts:List (Option Nat))(ws:List Nat)(Cs:List Cfg)(L:Nat->Bool)(S:St):Prop:=∃c,c∈Cs/\J7 ws c L/\S.n=n/\S.bs=c.bs/\S.rs=c.rs/\∀s,GK dsts c L s=.any\/S.get s=GK dsts c L s
section
variable {w0:World} {G0:Nat->Prop} {Q:Exit->St->Prop} {S:St} {ops:Array Oper} {fu n:Nat} {dsts:List (Option Nat)} {ws:List Nat} {Cs:List Cfg} {o:Oper}
theorem OpOK.up{S S':St}{t:Tree}(h:OpOK o S t)(f:S'.bs=S.bs)(d:S'.rs=S.rs)(g:∀s,(dN o.op).contains s=true->S.get s=.any\/S'.get s=S.get s):OpOK o S' t:=by
 intro w0 G0 bx rv w T e b;rw[f,d]at e;rw[d]at b⊢;refine h w0 G0 bx rv w T e fun s c=>?_
 rcases g s c with a|a
 ·rw[a];exact .any _ .nil
 rw[<-a];exact b s c
theorem Io{c:Cfg}{L:Nat->Bool}{i:Nat}{anc:List Nat}(m:bV n dsts=true)(k:za ops fu dsts i anc o=true)(e:Kn ops L i)(h:∀s,GK dsts c L s=.any\/S.get s=GK dsts c L s)(s:Nat)(l:(dN o.op).contains s=true):(⟨n,ki dsts c.ts c.sl anc,c.bs,c.rs⟩:St).get s=.any\/S.get s=(⟨n,ki dsts c.ts c.sl anc,c.bs,c.rs⟩:St).get s:=by
 have a:=Mh.1 k s (MT.1 l);have b:=h s;show look (ki dsts c.ts c.sl anc) s=.any\/S.get s=look (ki dsts c.ts c.sl anc) s
 unfold GK at b;cases d:eJ s dsts with
 |none=>
  rw[d]at b;rw[pu d];exact b
 |some j=>
  rw[d]at a b;dsimp only at a b;rw[wR m d];cases g:anc.contains j with
  |true=>
   simp only[g,cond_true]at a;simp only[Ma,Nj]at a;have f:L j=true:=e.up fu j (by rw[a.1,a.2];rfl);simp only[f,cond_true]at b;simpa using b
  |false=>
   simp only[g,cond_false,M5]at a;have f:L j=false:=by
    rcases a with a|a
    ·rw[N7 a];exact e.self
    exact e.down fu j a
   simp only[f,cond_false]at b;simpa using b
theorem GL{c:Cfg}{L:Nat->Bool}{i:Nat}(a:J7 ws c L)(d:Kn ops L i):IQ ops fu ws c i=true:=by
 unfold IQ;rw[Ma];refine⟨?_,Mh.2 fun j k=>?_⟩
 ·cases e:c.on.contains i with
  |false=>rfl
  |true=>
   have:=a.1 i (a.2 i e);rw[d.self,e]at this;cases this
 have b:=MT.2 k;cases g:Nat.beq j i with
 |true=>rfl
 |false=>
  cases f:reach ops fu i j with
  |true=>
   have:=a.1 j b;rw[d.up fu j (by rw[g,f];rfl)]at this;rw[<-this];rfl
  |false=>
   cases h:reach ops fu j i with
   |true=>
    have:=a.1 j b;rw[d.down fu j h]at this;rw[<-this];rfl
   |false=>rfl
theorem oe(L:Nat->Bool)(i:Nat):DU L i i=true:=by simp[DU]
theorem rJ{L:Nat->Bool}{i j:Nat}(h:j≠i):DU L i j=L j:=by
 unfold DU;cases a:Nat.beq j i with
 |true=>exact absurd (N7 a) h
 |false=>rfl
theorem El(r:bV n dsts=true){i:Nat}{anc:List Nat}(a:dsts[i]? =some o.dst)(D:za ops fu dsts i anc o=true){L:Nat->Bool}(y:Kn ops L i)(N:JN n dsts ws Cs L S):∀{cs:List Cfg},OpC ops fu n dsts ws Cs i o anc cs->(∀c,c∈Cs->c∈cs)->AOps w0 G0 ops [o] (fun e S'=>e=.normal/\JN n dsts ws Cs (DU L i) S') S:=by
 obtain⟨c,F,k,B,u,v,l⟩:=N;have E:cT S.n o.dst=true:=by
  cases P:o.dst with
  |none=>rfl
  |some d=>
   rw[B];rw[P]at a;clear D k l y F;induction dsts generalizing i with
   |nil=>simp at a
   |cons x xs ih=>
    cases i with
    |zero=>
     simp only[MW,MN]at a;subst a;simp only[bV,Ma]at r;simpa[cT]using r.1.2
    |succ i=>
     refine ih ?_ (by simpa using a);cases x with
     |none=>exact r
     |some _=>simp only[bV,Ma]at r;exact r.2
 have key:∀{cs:List Cfg},OpC ops fu n dsts ws Cs i o anc cs->c∈cs->AOps w0 G0 ops [o] (fun e S'=>e=.normal/\JN n dsts ws Cs (DU L i) S') S:=by
  intro cs h p;induction h with
  |nil=>cases p
  | @no c1 cs h _ ih=>
   rcases Mi.1 p with rfl|p
   ·rw[GL k y]at h;cases h
   exact ih p
  | @ok c1 cs t hw ht hg h _ ih=>
   rcases Mi.1 p with rfl|p
   ·have C:OpOK o S t:=h.up u v (Io r D y l);refine Bg hg E C (ag ⟨Z,c,F,⟨fun j g=>?_,k.2⟩,by rw[eo];exact B,by rw[dC];exact u,by rw[ch];exact v,fun s=>?_⟩)
    ·rw[rJ (fun e=>by rw[e,hw]at g;cases g)];exact k.1 j g
    rw[dk];have b:=l s;unfold GK at b⊢;cases q:eJ s dsts with
    |none=>
     rw[q]at b;have:o.dst≠some s:=fun e=>by
      rw[e]at a;have:=MT.2 (L9 a);rw[fI q]at this;cases this
     rw[if_neg this];exact b
    |some j=>
     rw[q]at b;dsimp only at b⊢;have g:=eP q;by_cases f:j=i
     ·subst f;rw[g]at a;injection a with a
      rw[if_pos a.symm,oe];right;simp[ht]
     rw[rJ f,if_neg (fun e=>f (by rw[e]at a;exact gA r g a))];exact b
   exact ih p
  | @wr c1 cs m c' K tt hw hm' hg h hon' hKa hsl' hti hts _ ih=>
   rcases Mi.1 p with rfl|p
   ·obtain⟨S',G,J,M,O,I⟩:=h w0 G0 S B u v (Io r D y l);refine eD hg G (ag ⟨Z,c',L9 hm',⟨fun j g=>?_,fun j g=>?_⟩,J.trans B,M,O,fun s=>?_⟩)
    ·rw[Ek hon'];by_cases f:j=i
     ·subst f;rw[oe];simp
     rw[rJ f,k.1 j g];have:(j==i)=false:=beq_eq_false_iff_ne.2 f;rw[this];rfl
    ·rw[Ek hon',M5]at g;rcases g with g|g
     ·rw[beq_iff_eq.1 g];exact hw
     exact k.2 j g
    rw[I];have b:=l s;have z:look c'.sl s=K (look c.sl s):=by rw[<-hsl',jp K hKa]
    unfold GK at b⊢;cases q:eJ s dsts with
    |none=>
     rw[q]at b;have:o.dst≠some s:=fun e=>by
      rw[e]at a;have:=MT.2 (L9 a);rw[fI q]at this;cases this
     simp only;rw[if_neg this,z];rcases b with b|b
     ·simp only at b;rw[b];exact .inl hKa
     simp only at b;rw[b];exact .inr Z
    |some j=>
     rw[q]at b;have g:=eP q;dsimp only at b⊢;by_cases f:j=i
     ·subst f;rw[g]at a;injection a with a
      rw[if_pos a.symm,oe,cond_true];right;simp[hti]
     rw[rJ f,if_neg (fun e=>f (by rw[e]at a;exact gA r g a))];cases H:L j with
     |false=>
      rw[H,cond_false]at b;rw[cond_false,z];rcases b with b|b
      ·rw[b];exact .inl hKa
      rw[b];exact .inr Z
     |true=>
      rw[H,cond_true]at b;rw[cond_true];rcases hts.at j with w|w|w|w
      ·rw[w];rcases b with b|b
       ·rw[b];exact .inl hKa
       rw[b];exact .inr Z
      ·exact .inl w
      ·exact absurd (by omega) f
      rw[M0]at w;have:=y.down fu j w;rw[H]at this;cases this
   exact ih p
 intro cs h A;exact key h (A c F)
theorem StepsW.at(c:bV n dsts=true)(d:ops.toList.map (·.dst)=dsts):∀{b:List Oper} {i:Nat},StepsW ops fu n dsts ws Cs i b->(∀(k:Nat) (o:Oper),b[k]? =some o->ops[i+k]? =some o)->∀(k:Nat) (o:Oper),b[k]? =some o->∀L,Kn ops L (i+k)->∀S,JN n dsts ws Cs L S->AOps w0 G0 ops [o] (fun e S'=>e=.normal/\JN n dsts ws Cs (DU L (i+k)) S') S
 |_,_,.nil,_,k,o,h,_,_,_,_=>by simp at h
 |_,i,.op anc hr h _,hall,0,o,ho,L,hK,S,hS=>by
  have a:=hall 0 o ho;simp only[MW,MN]at ho;subst ho;refine El c ?_ hr hK hS h (fun _ h=>h);rw[No]at a;rw[<-d,MQ,Np,a];rfl
 |_,i,.op _ _ _ r,hall,k+1,o,ho,L,hK,S,hS=>by
  have:=r.at c d (fun q x f=>by have:=hall (q+1) x (by simpa using f);rwa[show i+(q+1)=i+1+q by omega]at this) k o (by simpa using ho) L (by rw[show i+1+k=i+(k+1) by omega];exact hK) S hS;rw[show i+1+k=i+(k+1) by omega]at this;exact this
theorem Sim.leG{S':St}{a:Act}{w:World}(h:Sim w0 G0 S a w)(l:S'.n=S.n)(g:S'.bs=S.bs)(f:S'.rs=S.rs)(k:∀s,S'.get s=.any\/S'.get s=S.get s):Sim w0 G0 S' a w:=by
 obtain⟨bx,rv,j,e,b,d⟩:=h;refine⟨bx,rv,by rw[g,f];exact j,by rw[l];exact e,b,fun i=>?_⟩;rw[f];rcases k i with c|c
 ·rw[c];exact .any _ .nil
 rw[c];exact d i
theorem mE{s:Nat}:∀(a:List (Option Nat)) (ts:List Tree) (sl:List (Nat×Tree)),eJ s a=none->look (iS sl a ts) s=look sl s
 |[],ts,sl,_=>by cases sl<;>rfl
 |some d::a,[],sl,_=>rfl
 |none::a,[],sl,_=>rfl
 |some d::a,t::ts,sl,h=>by
  simp only[eJ]at h;split at h
  ·cases h
  next hne=>
  simp only[Pi]at h;simp only[iS];rw[mE a ts _ h,cV,if_neg (fun e=>hne (by rw[e]))]
 |none::a,t::ts,sl,h=>by
  simp only[eJ]at h;split at h
  ·cases h
  simp only[Pi]at h;simp only[iS];exact mE a ts _ h
theorem rK{s n:Nat}:∀(a:List (Option Nat)) (ts:List Tree) (sl:List (Nat×Tree)) (j:Nat),bV n a=true->a.length=ts.length->eJ s a=some j->look (iS sl a ts) s=ts.getD j .any
 |[],ts,sl,j,_,_,h=>by simp[eJ]at h
 |some d::a,[],sl,j,_,hl,_=>by simp at hl
 |none::a,[],sl,j,_,hl,_=>by simp at hl
 |some d::a,t::ts,sl,j,ha,hl,h=>by
  simp only[bV,Ma,Nj]at ha;simp only[eJ]at h;simp only[iS];split at h
  ·next b=>
   cases h;injection b with b
   subst b;have:eJ d a=none:=by
    cases e:eJ d a with
    |none=>rfl
    |some q=>
     have:=MT.2 (L9 (eP e));rw[ha.1.1]at this;cases this
   rw[mE a ts _ this,cV,if_pos Z];rfl
  simp only[Na]at h;obtain⟨q,c,rfl⟩:=h;rw[rK a ts _ q ha.2 (by simpa using hl) c];simp
 |none::a,t::ts,sl,j,ha,hl,h=>by
  simp only[eJ]at h;simp only[iS];split at h
  ·next b=>cases b
  simp only[Na]at h;obtain⟨q,c,rfl⟩:=h;rw[rK a ts _ q ha (by simpa using hl) c];simp
theorem fz{id fu n:Nat}{ops:List Oper}{sl sl':List (Nat×Tree)}{bs:List (TypeId×List Tree)}{rs:List (Option Row)}(dsts:List (Option Nat))(ws:List Nat)(ts:List Tree)(G:List Cfg)(g:Cfg)(N:dM ops.toArray=true)(T:ops.map (·.dst)=dsts)(u:bV n dsts=true)(P:(ws.all fun j=>Nat.blt j ops.length)=true)(I:((⟨[],sl,bs,rs,ts⟩::G).all fun c=> !(ws.all fun j=>c.on.contains j))=true)(t:dsts.length=g.ts.length)(m:iS g.sl dsts g.ts=sl')
  (V:StepsW ops.toArray fu n dsts ws ((⟨[],sl,bs,rs,ts⟩::G)++[g]) 0 ops) (k:Q .normal ⟨n,sl',g.bs,g.rs⟩):AWP w0 G0 (.region id ops.toArray true) Q ⟨n,sl,bs,rs⟩:=by
 subst m;intro a w d;refine dF (fun L a W=>L.size=ops.toArray.size/\Closed ops.toArray L/\∃S,JN n dsts ws ((⟨[],sl,bs,rs,ts⟩::G)++[g]) (fun j=>L.getD j false) S/\Sim w0 G0 S a W) (by kernel_rfl) N ⟨by simp,eI _,⟨n,sl,bs,rs⟩,?_,d.drew⟩ ?_ ?_
 ·have:(fun j=>(Array.replicate ops.toArray.size false).getD j false)=fun _=>false:=by
   funext j;cases h:(Array.replicate ops.toArray.size false).getD j false with
   |false=>rfl
   |true=>exact absurd h dG
  rw[this];refine⟨⟨[],sl,bs,rs,ts⟩,by simp,⟨fun j b=>rfl,fun j b=>by simp at b⟩,Z,Z,Z,fun s=>?_⟩;right;unfold GK;split<;>rfl
 ·rintro L a W i o O f z R ⟨_,y,S,Y,d⟩;have hi:i<ops.toArray.size:=(ML.1 z).1;have q:L.getD i false=false:=getD_both f;have M:∀n j,j≠i->reach ops.toArray n i j=true->L.getD j false=true:=fun n j b F=>by
   have K:=y.step z R;have:=K.reach n i j F (cM (by omega));rwa[am (fun e=>b e.symm)]at this
  have C:∀n j,reach ops.toArray n j i=true->L.getD j false=false:=fun n j F=>by
   cases hl:L.getD j false with
   |false=>rfl
   |true=>
    have:=y.reach n j i F hl;rw[q]at this;cases this
  have U:Kn ops.toArray (fun j=>L.getD j false) i:=⟨q,fun n j b=>by
   simp only[Ma,Nj]at b;exact M n j (fun e=>by subst e;simp at b) b.2,C⟩
  have x:=V.at (w0:=w0) (G0:=G0) u (by simpa using T) (fun k o ho=>by simpa using ho) i o (by simpa using z) (fun j=>L.getD j false) (by rw[M0];exact U) S Y a W d;rw[M0]at x;refine rH ?_ x;rintro e a' W' ⟨S',⟨rfl,E⟩,p⟩;refine⟨by simpa using O,y.step z R,S',?_,p⟩;have:(fun j=>(L.setIfInBounds i true).getD j false)=DU (fun j=>L.getD j false) i:=by
   funext j;by_cases b:j=i
   ·subst b;rw[cM (by omega),oe]
   rw[am (fun e=>b e.symm),rJ b]
  rw[this];exact E
 rintro L a W O ⟨_,_,S,⟨c,y,B,X,A,D,m⟩,d⟩;have l:∀j,j<ops.length->L.getD j false=true:=fun j b=>O j (by simpa using b)
 have J:c=g:=by
  rcases My.1 y with h|h
  ·have:=Mh.1 I c h;simp only[Nj]at this;rw[PO]at this;obtain⟨j,b,H⟩:=this;have:=B.1 j (MT.2 b);have r:=Mh.1 P j b;rw[Nn]at r;simp only[l j r]at this;exact absurd this.symm H
  exact Ml.1 h
 subst J;refine⟨_,k,d.leG X.symm A.symm D.symm fun s=>?_⟩;have f:=m s;show look (iS c.sl dsts c.ts) s=.any\/look (iS c.sl dsts c.ts) s=S.get s
 unfold GK at f;cases v:eJ s dsts with
 |none=>
  rw[v]at f;rw[mE _ _ _ v];exact f.imp (fun h=>h) Eq.symm
 |some j=>
  rw[v]at f;dsimp only at f;rw[rK _ _ _ j u t v];have b:=(L7.1 (eP v)).1;have:L.getD j false=true:=l j (by rw[<-T]at b;simpa using b);simp only[this,cond_true]at f;exact f.imp (fun h=>h) Eq.symm
end
theorem iw{w0:World}{G0:Nat->Prop}{c:Code}{Q:Exit->St->Prop}{n:Nat}{sl sl':List (Nat×Tree)}{bs:List (TypeId×List Tree)}{rs:List (Option Row)}(d:KeepsP ⟨n,sl,bs,rs⟩ sl')(h:AWP w0 G0 c Q ⟨n,sl',bs,rs⟩):AWP w0 G0 c Q ⟨n,sl,bs,rs⟩:=fun a w b=>h a w (b.leP ⟨Z,Z,Z,d⟩)
theorem og{S b:St}{op:Op}{x:Operand}{t:Tree}(i:∀s,(dN op).contains s=true->b.get s=.any\/S.get s=b.get s)(c:x∈op.operands.toList)(h:b.ev x=t)(e:t≠ .any):S.ev x=t:=by
 cases x with
 |tmp s=>
  have d:(dN op).contains s=true:=MT.2 (PG.2 ⟨_,c,Z⟩);rcases i s d with a|a
  ·exact absurd (h.symm.trans a) e
  exact a.trans h
 |const v=>exact h
 |global g=>exact h
 |func f=>exact h
theorem kj{o:Oper}{n d k m b:Nat}{sl:List (Nat×Tree)}{bs bs':List (TypeId×List Tree)}{rs rs':List (Option Row)}{x y:Operand}{t:TypeId}{R:Row}{a:List Tree}(j:o.op=.call {callee:=.builtin .append,args:=#[x,y],argTypes:=#[t,t]})(H:o.dst=some d)(C:Nat.blt d n=true)(v:lM Tryz.prog t=some (R.e,R.sz,b))(u:St.ev ⟨n,sl,bs,rs⟩ x=.own k)(F:rs[k]? =some (some R))(G:St.ev ⟨n,sl,bs,rs⟩ y=.sl a)(z:R.sz=m)(B:Sized m a)(E:AllC Tree.one a)(A:AllC Tree.noDig a)(w:R.es.length+a.length<=1073741824)(D:Nat.ble b 100000=true)(g:bs.map (fun p=>(p.1,p.2.map (gZ k)))=bs')(h:rs.set k (some ⟨R.e,R.sz,R.es++a,false⟩)=rs'):wS o ⟨n,sl,bs,rs⟩ (lI k) (.own k) bs' rs':=by
 subst z g h;intro w0 G0 S q r l c;dsimp only at q r l;have f:=og c (by rw[j];simp[Op.operands,Call.operands]) u (by simp);have i:=og c (by rw[j];simp[Op.operands,Call.operands]) G (by simp);refine⟨_,tU (S:=S) j (by rw[H,q];simpa[cT,Nn]using C) v f (by rw[l];exact F) i B E A w (by simpa using D),by rw[eo];rfl,by rw[dC,<-r];rfl,by rw[ch];dsimp only;rw[l],fun s=>?_⟩;rw[dk];split
 ·rfl
 exact p8 S k s
theorem gJ{o:Oper}{n b off m:Nat}{sl:List (Nat×Tree)}{bs bs':List (TypeId×List Tree)}{rs:List (Option Row)}{ty j:TypeId}{x y:Operand}{cs:List Tree}{t:Tree}(i:o.op=.store ty x y)(a:o.dst=none)(p:St.ev ⟨n,sl,bs,rs⟩ x=.box b off)(q:bs[b]? =some (j,cs))(r:St.ev ⟨n,sl,bs,rs⟩ y=t)(k:t.oneA=true)(w:t.cells.all Tree.one=true)(v:t.cells.all Tree.noDig=true)(z:(Tryz.prog.info? ty).map (·.size)=some m)(A:t.cells.length=m)(f:Nat.ble (off+m) cs.length=true)(e:bs.set b (j,D8 cs off t)=bs'):wS o ⟨n,sl,bs,rs⟩ id .any bs' rs:=by
 subst e;intro w0 G0 S u h l c;dsimp only at u h l;have d:=og c (by rw[i];simp[Op.operands]) p (by simp);have g:=og c (by rw[i];simp[Op.operands]) r (by rintro rfl;simp[Tree.oneA,Tree.one]at k);refine⟨_,kX (S:=S) i a d (by rw[h];exact q) g k w v z A (by simpa using f),Z,by rw[h],l,fun s=>?_⟩;rw[a,if_neg (by simp)];rfl
theorem iI{o:Oper}{n d b:Nat}{sl:List (Nat×Tree)}{bs bs':List (TypeId×List Tree)}{rs:List (Option Row)}{ty:TypeId}{c:List Value}{cs:List Tree}(j:o.op=.alloc ty)(q:o.dst=some d)(m:Nat.blt d n=true)(p:gc Tryz.prog ty=some c)(k:c.all bL=true)(h:c.map dg=cs)(i:bs.length=b)(a:bs++[(ty,cs)]=bs'):wS o ⟨n,sl,bs,rs⟩ id (.box b 0) bs' rs:=by
 subst h i a;intro w0 G0 S g e f l;dsimp only at g e f;refine⟨_,rD (S:=S) j (by rw[q,g];simpa[cT,Nn]using m) p k,by rw[eo],by rw[dC,e],by rw[ch,f],fun s=>?_⟩;rw[dk,e];rfl
section
variable {w0:World} {G0:Nat->Prop} {S:St} {o:Oper}
theorem Eo{n:Nat}{es:List Tree}(a:Sized n es){j:Nat}(b:j<es.length){t:Tree}(c:t.cells.length=n):flat (es.set j t)=(flat es).take (j*n)++t.cells++(flat es).drop (j*n+n):=by
 rw[Pj,if_pos b,iF,ei,mw a,jh a,show(j+1)*n=j*n+n by rw[M3];omega,MG]
theorem Sized.set{n:Nat}{es:List Tree}(c:Sized n es)(j:Nat){t:Tree}(a:t.cells.length=n):Sized n (es.set j t):=fun x b=>by
 rcases OH b with h|rfl
 ·exact c x h
 exact a
theorem Bq{w:World}{bs:List (TypeId×List Tree)}{rs:List (Option Row)}{bx:List Nat}{rv:List Value}{k off:Nat}{R:Row}{v:Value}(d:Mem w0 G0 bs rs bx rv w)(b:rs[k]? =some (some R))(h:FT (en w G0 bx rv rs) [v] [.elp k off]):
  ∃g n c xs,v=.pointer (some ⟨g,off,none⟩)/\rv[k]? =some (.slice (some ⟨g,0,none⟩) n c)/\w.ownsRow w0.heap.size R.e R.sz (.slice (some ⟨g,0,none⟩) n c) R.es.length xs/\PT w (GG G0 bx rv rs) xs (flat R.es)/\(Sized R.sz R.es/\(R.tt=true->np (.slice (some ⟨g,0,none⟩) n c)))/\NoDigB w g:=by
 obtain⟨g,n,c,a,rfl⟩:=h.isElp;have a:fh rv rs k=some _:=a;simp only[fh,b,Nc,id]at a;obtain⟨xs,f,j,l,i⟩:=d.row k _ R a b;exact⟨g,n,c,xs,Z,a,f,j,l,i g Z⟩
theorem gK{x q:Operand}{t e:TypeId}{n k r:Nat}{R:Row}{h:IntKind}{i:Int}{j:Nat}(f:o.op=.indexAddr t x q)(A:gE Tryz.prog t=some (e,n))(u:S.ev x=.own k)(s:S.rs[k]? =some (some R))(K:R.sz=n)(H:S.ev q=.sc (.int h i))(D:i=j)(B:j<R.es.length)(d:j*n=r):OpOK o S (.elp k r):=by
 subst d D;intro w0 G0 bx rv w T E l;have G:=(bI l H (by rw[f];simp[Op.operands])).isSc;have C:=bI l u (by rw[f];simp[Op.operands]);obtain⟨F,xs,a,z,y,I⟩:=jn E s C;rcases a.2 with⟨_,J⟩|⟨g,m,cur,p,_⟩
 ·omega
 have d:=kV (P:=Tryz.prog) (w:=w) (b:=g) (o:=0) (n:=R.es.length) (c:=m) (k:=h) (i:=(j:Int)) A (by omega) (by omega);rw[Oq]at d;refine aq (v:=.pointer (some ⟨g,j*n,none⟩)) (W':=w) ?_ ⟨.elp k (j*n) g R.es.length m ?_ .nil,Below.refl _ _⟩
 ·simp only[M0]at d;simp[execOp,f,G,p,d]
 show fh rv S.rs k=_
 simp only[fh,s,Nc,id];rw[F,p]
theorem tW{w:World}{base g n c:Nat}{e:TypeId}{sz m:Nat}{xs:List Value}(h:w.ownsRow base e sz (.slice (some ⟨g,0,none⟩) n c) m xs):∃cur:List Value,IsBlk w g e cur.toArray/\cur.length=c*sz/\n=m/\n<=c/\cur.take (m*sz)=xs/\base<=g/\c<=maxLen/\∀(j:Nat) u,xs[j]? =some u->w.cell? ⟨g,j,none⟩=some u:=by
 rcases h.2 with⟨f,_⟩|⟨t,v,cur,f,k,r,p,l,q,i⟩
 ·cases f
 injection f with a o s
 injection a with a
 injection a with a
 subst a o s;have b:IsBlk w g e cur.toList.toArray:=by simpa[IsBlk]using r
 refine⟨cur.toList,b,by simpa using q,Z,p,i,k,l,fun j u d=>?_⟩;rw[b.cell j];rw[<-i,MZ]at d;split at d
 ·simpa using d
 cases d
theorem oh{x:Operand}{t:TypeId}{k off j fo:Nat}{R:Row}{c d:Tree}(l:o.op=.load t x)(p:S.ev x=.elp k off)(G:S.rs[k]? =some (some R))(q:iU Tryz.prog t=true)(E:R.es[j]? =some c)(e:off=j*R.sz+fo)(f:fo<R.sz)(H:c.cells[fo]? =some d):OpOK o S d:=by
 intro w0 G0 bx rv w T B s;obtain⟨g,n,I,xs,F,J,A,D,C,_⟩:=Bq B G (bI s p (by rw[l];simp[Op.operands]));obtain⟨_,_,_,_,_,_,_,_,a⟩:=tW A;obtain⟨i,h⟩:=L7.1 E;have m:=Bc C.1 j i fo f;rw[h,H,<-e]at m;obtain⟨u,r,z⟩:=D.get off d m;have y:=iV (P:=Tryz.prog) (w:=w) (b:=g) (o:=off) (u:=u) q (a off u r);refine aq (v:=u) (W':=w) ?_ ⟨.pure z .nil,Below.refl _ _⟩;simp[execOp,l,F,y]
theorem Mem.setRowE{w w':World}{bs:List (TypeId×List Tree)}{rs:List (Option Row)}{bx:List Nat}{rv:List Value}{k:Nat}{v:Value}{R R':Row}(h:Mem w0 G0 bs rs bx rv w){xs:List Value}(m:rv[k]? =some v)(o:rs[k]? =some (some R))(q:w.grownBy w' v.ownBlock)(ho:w'.ownsRow w0.heap.size R'.e R'.sz v R'.es.length xs)(N:PT w' (GG G0 bx rv rs) xs (flat R'.es))(F:Sized R'.sz R'.es/\(R'.tt=true->np v))(hd:∀g,v.ownBlock=some g->NoDigB w' g):
  Mem w0 G0 bs (rs.set k (some R')) bx rv w'/\(∀us ts,FT (en w G0 bx rv rs) us ts->FT (en w' G0 bx rv (rs.set k (some R'))) us ts):=by
 have E:=(L7.1 m).1;have p:=(L7.1 o).1;have V:rv.set k v=rv:=by rw[<-(L7.1 m).2];exact List.set_getElem_self E
 have A:∀b,b∈cq bx rv (rs.set k (some R'))↔b∈cq bx rv rs:=fun b=>by
  rw[aX,aX];refine or_congr OU ⟨?_,?_⟩
  ·rintro⟨j,u,X,a,c,l⟩;by_cases d:j=k
   ·subst d;rw[m]at a;cases a;exact⟨j,v,R,m,o,l⟩
   rw[Nm (fun e=>d e.symm)]at c;exact⟨j,u,X,a,c,l⟩
  rintro⟨j,u,X,a,c,l⟩;by_cases d:j=k
  ·subst d;rw[m]at a;cases a;exact⟨j,v,R',m,by rw[NA p],l⟩
  exact⟨j,u,X,a,by rw[Nm (fun e=>d e.symm)];exact c,l⟩
 have z:∀b,GG G0 bx rv (rs.set k (some R')) b↔GG G0 bx rv rs b:=fun b=>or_congr OU (A b)
 have n:∀b,b<w.heap.size->¬GG G0 bx rv rs b->w'.heap[b]? =w.heap[b]? /\¬GG G0 bx rv (rs.set k (some R')) b:=fun b D M=>⟨q.block b D fun e=>M (.inr (aX.2 (.inr ⟨k,v,R,m,o,e.symm⟩))),fun h=>M ((z b).1 h)⟩
 have y:∀j u,fh rv rs j=some u->fh rv (rs.set k (some R')) j=some u:=fun j u d=>by
  unfold fh at d⊢;by_cases x:j=k
  ·subst x;rw[o]at d;rw[NA p];exact d
  rw[Nm (fun e=>x e.symm)];exact d
 have r:∀us ts,FT (en w G0 bx rv rs) us ts->FT (en w' G0 bx rv (rs.set k (some R'))) us ts:=fun us ts T=>T.mono (E':=en w' G0 bx rv (rs.set k (some R'))) q.size n (fun _ _ h=>h) y
 have L:GG G0 bx rv (rs.set k (some R'))=GG G0 bx rv rs:=funext fun b=>propext (z b)
 refine⟨⟨h.below.grown q h.below.size (fun b e=>h.ge b (aX.2 (.inr ⟨k,v,R,m,o,e⟩))),h.env0,h.g0,h.nb,by simp[h.nr],fun i g B=>?_,fun j u X a c=>?_,⟨h.nodup.bb,fun j u X b a c l=>?_,fun i j u t X Y b I a c l K h5 C=>?_⟩,fun b D=>h.ge b ((A b).1 D)⟩,r⟩
 ·obtain⟨ty,cs,us,a,c,l,K⟩:=h.box i g B;exact⟨ty,cs,us,a,(q.block g c.lt fun e=>h.nodup.br k v R g m o e.symm (L9 B)).trans c,r _ _ l,K⟩
 ·by_cases d:j=k
  ·subst d;rw[m]at a;cases a;rw[NA p]at c;cases c;exact⟨xs,ho,by rw[L];exact N,F,hd⟩
  rw[Nm (fun e=>d e.symm)]at c;obtain⟨U,C,P,W,S⟩:=h.row j u X a c;have s:∀b,u.ownBlock=some b->v.ownBlock≠some b:=fun b G H=>h.nodup.rr j k u v X R b d a c m o G H
  refine⟨U,C.kept q ?_,P.mono q.size n,W,fun g J=>(S g J).of (q.block g (C.lt g J).2 fun e=>s g J e.symm)⟩;cases O:u.ownBlock with
  |none=>exact .inl Zz
  |some b=>exact .inr fun e=>s b O e.symm
 ·by_cases d:j=k
  ·subst d;exact h.nodup.br j u R b a o l
  rw[Nm (fun e=>d e.symm)]at c;exact h.nodup.br j u X b a c l
 have f:∀i X,(rs.set k (some R'))[i]? =some (some X)->∃Z,rs[i]? =some (some Z):=fun i X h=>by
  by_cases B:i=k
  ·subst B;exact⟨R,o⟩
  rw[Nm (fun e=>B e.symm)]at h;exact⟨X,h⟩
 obtain⟨X',G⟩:=f i X c;obtain⟨Q,H⟩:=f j Y K;exact h.nodup.rr i j u t X' Q b I a G l H h5 C
theorem oi{ty:TypeId}{x y:Operand}{k off j:Nat}{R:Row}{t:Tree}(ho:o.op=.store ty x y)(N:o.dst=none)(hx:S.ev x=.elp k off)(hR:S.rs[k]? =some (some R))(r:off=j*R.sz)(hj:j<R.es.length)(ht:S.ev y=t)(h1:t.oneA=true)(h2:t.cells.all Tree.one=true)(hn:t.cells.all Tree.noDig=true)(hp:t.cells.all Tree.plain0=true)(hs:(Tryz.prog.info? ty).map (·.size)=some R.sz)(hl:t.cells.length=R.sz):n5 w0 G0 o S {S with rs:=S.rs.set k (some ⟨R.e,R.sz,R.es.set j t,R.tt⟩)}:=by
 rintro a w ⟨bx,rv,hm,W,a2,z⟩;have hv:=bI (op:=o.op) (T:=fun s=>a.tmps.getD s undef) (S:=S) (fun s _=>z s) ht (by rw[ho];simp[Op.operands]);have G:=bI (op:=o.op) (T:=fun s=>a.tmps.getD s undef) (S:=S) (fun s _=>z s) hx (by rw[ho];simp[Op.operands]);generalize (fun s=>a.tmps.getD s undef)=T at hv G⊢;obtain⟨g,n,cp,xs,X,H,m,D,u,a3⟩:=Bq hm hR G;obtain⟨cur,f,A,L,U,a0,C,a1,_⟩:=tW m;have M:=nX hv h1;have E:=M.plain0s hp;obtain⟨c,I⟩:∃c,cA T y=c:=⟨_,rfl⟩;rw[I]at hv M E;have b:c.cells.toList.length=R.sz:=by rw[M.length,hl]
 have V:(j+1)*R.sz<=R.es.length*R.sz:=MJ _ hj;rw[M3,Og]at V;have a4:R.es.length*R.sz<=cp*R.sz:=MJ _ (by omega);have p:=m7 (P:=Tryz.prog) (w:=w) (g:=g) (off:=off) (ty:=ty) (t:=R.e) (cur:=cur) (v:=c) f (by rw[hs,show c.cells.size=R.sz from b]) (by rw[A,r];simp only[M7]at b;omega) (M.ones h2);have O:c.cells.size=R.sz:=b;rw[O]at p;have h:=n6 w g (cur.take off++c.cells.toList++cur.drop (off+R.sz)).toArray;have a5:g<w.heap.size:=f.lt;have q:IsBlk (w.setRow g (cur.take off++c.cells.toList++cur.drop (off+R.sz)).toArray) g R.e (cur.take off++c.cells.toList++cur.drop (off+R.sz)).toArray:=by
  have:=f;simp only[IsBlk,World.setRow]at this⊢;simp[NJ,this]
 have d:g∈cq bx rv S.rs:=aX.2 (.inr ⟨k,_,R,H,hR,Z⟩);have K:(cur.take off++c.cells.toList++cur.drop (off+R.sz)).take (R.es.length*R.sz)=xs.take off++c.cells.toList++xs.drop (off+R.sz):=by
  subst a0;have X:(cur.take off).length=off:=by rw[Mf,A];omega
  have e2:R.es.length*R.sz=off+R.sz+(R.es.length*R.sz-(off+R.sz)):=by omega
  rw[Qc,Nl (by omega),List.drop_take,MG,e2,OX,X,Me (l:=cur.take off) (by omega),OX,b,Me (l:=c.cells.toList) (by omega),MG];rw[show off+R.sz+(R.es.length*R.sz-(off+R.sz))-off-R.sz=off+R.sz+(R.es.length*R.sz-(off+R.sz))-(off+R.sz) by omega]
 have F:NoDigB (w.setRow g (cur.take off++c.cells.toList++cur.drop (off+R.sz)).toArray) g:=cI q (by
  have J:=my (show w.heap[g]? =some (.cells cur.toArray R.e (0,0))from f) a3;exact n7 J (M.noDigs hn))
 obtain⟨Y,Q⟩:=hm.setRowE (R':=⟨R.e,R.sz,R.es.set j t,R.tt⟩) (w':=w.setRow g (cur.take off++c.cells.toList++cur.drop (off+R.sz)).toArray) (xs:=xs.take off++c.cells.toList++xs.drop (off+R.sz)) H hR h
  (by
   refine⟨?_,.inr ⟨g,cp,_,?_,C,q,?_,a1,?_,?_⟩⟩
   ·have:=m.1;simp only[Mc,Mf,MS,MU,b,this];omega
   ·rw[MU,<-L]
   ·rw[MU,<-L];exact U
   ·simp only[OR,Mc,Mf,MS,b,A];omega
   rw[MU];exact K)
  (by
   show PT _ _ _ (flat (R.es.set j t))
   rw[Eo u.1 hj hl,<-r];exact(((n4 d h D).take off).append (n4 d h E)).append ((n4 d h D).drop (off+R.sz)))
  ⟨u.1.set j hl,u.2⟩ (fun g' B=>by injection B with B;subst B;exact F)
 refine eY (W':=w.setRow g (cur.take off++c.cells.toList++cur.drop (off+R.sz)).toArray) (by simp only[execOp,ho,X,I,Sem.run_bind,p,Result.andThen_ok];rfl) ⟨bx,rv,Y,by rw[dB];exact W,by rw[cH,a2],fun i=>?_⟩;rw[N];exact Q _ _ (z i)
end
end Go.Proofs.YtfoejfohbkmmeaaGreatDoor
