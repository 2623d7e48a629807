import Derived.Test.YtfoejfohbkmmeaaGreatDoorB06
import Derived.Test.YtfoejfohbkmmeaaGreatDoorB05
import Derived.Test.YtfoejfohbkmmeaaGreatDoorB00
namespace Go.Proofs.YtfoejfohbkmmeaaGreatDoor
open Go.RowKit
open Lib renaming hid→J
structure Cfg where
 on:List Nat
 sl:List (Nat×Tree)
 bs:List (TypeId×List Tree)
 rs:List (Option Row)
 ts:List Tree
def Jq(dsts:List (Option Nat))(c:Cfg)(L:Nat->Bool)(s:Nat):Tree:=
 match eX s dsts with
 |none=>look c.sl s
 |some j=>cond (L j) (c.ts.getD j .any) (look c.sl s)
def jr(dsts:List (Option Nat))(ts:List Tree)(sl:List (Nat×Tree)):List Nat->List (Nat×Tree)
 |[]=>sl
 |j::js=>match dsts[j]? with
  |some (some d)=>(d,ts.getD j .any)::jr dsts ts sl js
  |_=>jr dsts ts sl js
theorem qK{dsts:List (Option Nat)}{ts:List Tree}{sl:List (Nat×Tree)}{s:Nat}(h:eX s dsts=none):∀anc,look (jr dsts ts sl anc) s=look sl s
 |[]=>rfl
 |j::js=>by
  simp only[jr];split
  ·next d hd=>
   rw[dD,if_neg,qK h js];rintro rfl;have:=O9.2 (Om hd);rw[gl h]at this;cases this
  exact qK h js
theorem sQ{dsts:List (Option Nat)}{ts:List Tree}{sl:List (Nat×Tree)}{s j n:Nat}(b:b7 n dsts=true)(h:eX s dsts=some j):∀anc,look (jr dsts ts sl anc) s=if anc.contains j then ts.getD j .any else look sl s
 |[]=>by simp[jr]
 |i::js=>by
  have c:=sQ (ts:=ts) (sl:=sl) b h js;simp only[jr];have f:=fy h;by_cases a:i=j
  ·subst a;simp only[f,dD];simp
  have g:(i::js).contains j=js.contains j:=by
   rw[Q7,show(j==i)=false from beq_eq_false_iff_ne.2 fun e=>a e.symm,SD]
  rw[g];split
  ·next d hd=>
   rw[dD,if_neg,c];rintro rfl;exact a (ii b hd f)
  exact c
def xw(ops:Array Oper)(fu:Nat)(dsts:List (Option Nat))(i:Nat)(anc:List Nat)(o:Oper):Bool:=(eG o.op).all fun s=>match eX s dsts with
 |none=>true
 |some j=>cond (anc.contains j) (!Nat.beq j i&&reach ops fu i j) (Nat.beq j i||reach ops fu j i)
def Gp(ops:Array Oper)(fu:Nat)(ws:List Nat)(c:Cfg)(i:Nat):Bool:= !c.on.contains i&&ws.all fun j=>Nat.beq j i||cond (reach ops fu i j) (c.on.contains j) (cond (reach ops fu j i) (!c.on.contains j) true)
def ML(ws:List Nat)(c:Cfg)(L:Nat->Bool):Prop:=(∀j,ws.contains j=true->L j=c.on.contains j)/\∀j,c.on.contains j=true->ws.contains j=true
def uY(pn:Nat)(o:Oper)(S0:St)(K:Tree->Tree)(tt:Tree)(bs':List (TypeId×List Tree))(rs':List (Option Row)):Prop:=∀w0 (G0:Bse) (S:St),G0.pn=pn->S.n=S0.n->S.bs=S0.bs->S.rs=S0.rs->(∀s,(eG o.op).contains s=true->S0.get s=.any\/S.get s=S0.get s)->
 ∃S',lL w0 G0 o S S'/\S'.n=S.n/\S'.bs=bs'/\S'.rs=rs'/\∀s,S'.get s=if o.dst=some s then tt else K (S.get s)
inductive TsK (ops:Array Oper) (fu i:Nat) (K:Tree->Tree):Nat->List Tree->List Tree->Prop
 |nil {j:Nat}:TsK ops fu i K j [] []
 |k {j:Nat} {t t':Tree} {ts ts':List Tree} (h:t'=K t) (r:TsK ops fu i K (j+1) ts ts'):TsK ops fu i K j (t::ts) (t'::ts')
 |a {j:Nat} {t t':Tree} {ts ts':List Tree} (h:t'=.any) (r:TsK ops fu i K (j+1) ts ts'):TsK ops fu i K j (t::ts) (t'::ts')
 |i {j:Nat} {t t':Tree} {ts ts':List Tree} (h:j=i) (r:TsK ops fu i K (j+1) ts ts'):TsK ops fu i K j (t::ts) (t'::ts')
 |d {j:Nat} {t t':Tree} {ts ts':List Tree} (h:reach ops fu j i=true) (r:TsK ops fu i K (j+1) ts ts'):TsK ops fu i K j (t::ts) (t'::ts')
theorem TsK.at{ops:Array Oper}{fu i:Nat}{K:Tree->Tree}:∀{j:Nat} {ts b:List Tree},TsK ops fu i K j ts b->∀q,b.getD q .any=K (ts.getD q .any)\/b.getD q .any=.any\/j+q=i\/reach ops fu (j+q) i=true
 |_,_,_,.nil,q=>.inr (.inl (by simp))
 |_,_,_,.k h _,0=>.inl (by simpa using h)
 |_,_,_,.a h _,0=>.inr (.inl (by simpa using h))
 |_,_,_,.i h _,0=>.inr (.inr (.inl h))
 |_,_,_,.d h _,0=>.inr (.inr (.inr h))
 |j,_,_,.k _ r,q+1=>by have:=r.at q;rw[show j+1+q=j+(q+1) by omega]at this;simpa using this
 |j,_,_,.a _ r,q+1=>by have:=r.at q;rw[show j+1+q=j+(q+1) by omega]at this;simpa using this
 |j,_,_,.i _ r,q+1=>by have:=r.at q;rw[show j+1+q=j+(q+1) by omega]at this;simpa using this
 |j,_,_,.d _ r,q+1=>by have:=r.at q;rw[show j+1+q=j+(q+1) by omega]at this;simpa using this
def NS(i:Nat)(on on':List Nat):Bool:=on'.contains i&&(on.all fun j=>on'.contains j)&&on'.all fun j=>j==i||on.contains j
theorem Gq{i:Nat}{c a:List Nat}(h:NS i c a=true)(j:Nat):a.contains j=(j==i||c.contains j):=by
 simp only[NS,Oo]at h;obtain⟨⟨f,g⟩,e⟩:=h;cases b:a.contains j with
 |true=>exact(OD.1 e j (O9.1 b)).symm
 |false=>
  symm;rw[OH];constructor
  ·cases d:j==i with
   |false=>rfl
   |true=>rw[beq_iff_eq.1 d,f]at b;cases b
  cases d:c.contains j with
  |false=>rfl
  |true=>
   have:=OD.1 g j (O9.1 d);rw[this]at b;cases b
inductive OpC (pn:Nat) (ops:Array Oper) (fu n:Nat) (dsts:List (Option Nat)) (ws:List Nat) (Cs:List Cfg) (i:Nat) (o:Oper) (anc:List Nat):List Cfg->Prop
 |nil:OpC pn ops fu n dsts ws Cs i o anc []
 |no {c:Cfg} {cs:List Cfg} (h:Gp ops fu ws c i=false) (r:OpC pn ops fu n dsts ws Cs i o anc cs):OpC pn ops fu n dsts ws Cs i o anc (c::cs)
 |ok {c:Cfg} {cs:List Cfg} {t:Tree} (hw:ws.contains i=false) (ht:c.ts[i]? =some t) (hg:o.guard=none) (h:OpOK o ⟨n,jr dsts c.ts c.sl anc,c.bs,c.rs⟩ t) (r:OpC pn ops fu n dsts ws Cs i o anc cs):OpC pn ops fu n dsts ws Cs i o anc (c::cs)
 |cnd {c:Cfg} {cs:List Cfg} {t:Tree} (j:Nat) (b:Bool) (gs d:Nat) (C:Prop) [Decidable C] (hw:ws.contains i=false) (hg:o.guard=some (j,b)) (hj:(ops[j]?).bind (·.dst)=some gs) (hgs:Nat.blt gs n=true) (hp:eX gs dsts=some j) (ha:anc.contains j=true) (hr:(!Nat.beq j i&&reach ops fu i j)=true) (hG:∃gv,look (jr dsts c.ts c.sl anc) gs=.sc gv/\(C↔gv=.bool b)) (hd:o.dst=some d) (hdn:Nat.blt d n=true) (ht:c.ts[i]? =some (if C then t else .sc undef)) (h:C->OpOK o ⟨n,jr dsts c.ts c.sl anc,c.bs,c.rs⟩ t) (r:OpC pn ops fu n dsts ws Cs i o anc cs):OpC pn ops fu n dsts ws Cs i o anc (c::cs)
 |wr {c:Cfg} {cs:List Cfg} (m:Nat) {c':Cfg} (K:Tree->Tree) (tt:Tree) (hw:ws.contains i=true) (hm:Cs[m]? =some c') (hg:o.guard=none) (h:uY pn o ⟨n,jr dsts c.ts c.sl anc,c.bs,c.rs⟩ K tt c'.bs c'.rs) (hon:NS i c.on c'.on=true) (hK:K .any=.any) (hsl:c.sl.map (fun p=>(p.1,K p.2))=c'.sl) (hti:c'.ts[i]? =some tt) (hts:TsK ops fu i K 0 c.ts c'.ts) (r:OpC pn ops fu n dsts ws Cs i o anc cs):OpC pn ops fu n dsts ws Cs i o anc (c::cs)
inductive StepsW (pn:Nat) (ops:Array Oper) (fu n:Nat) (dsts:List (Option Nat)) (ws:List Nat) (Cs:List Cfg):Nat->List Oper->Prop
 |nil {i:Nat}:StepsW pn ops fu n dsts ws Cs i []
 |op {i:Nat} {o:Oper} {os:List Oper} (anc:List Nat) (hr:xw ops fu dsts i anc o=true) (h:OpC pn ops fu n dsts ws Cs i o anc Cs) (r:StepsW pn ops fu n dsts ws Cs (i+1) os):StepsW pn ops fu n dsts ws Cs i (o::os)
theorem OpC.nos{a:Nat}{ops:Array Oper}{fu n:Nat}{dsts:List (Option Nat)}{ws:List Nat}{Cs:List Cfg}{i:Nat}{o:Oper}{anc:List Nat}:∀{cs:List Cfg} (k:Nat) (_:OpC a ops fu n dsts ws Cs i o anc (cs.drop k)) (_:((cs.take k).all fun c=> !Gp ops fu ws c i)=true:=by kernel_rfl),OpC a ops fu n dsts ws Cs i o anc cs
 |[],k,r,_=>by rwa[List.drop_nil]at r
 |_::_,0,r,_=>r
 |c::cs,k+1,r,h=>by
  rw[Qw,PS,Oo,Pu]at h;exact .no h.1 (OpC.nos k r h.2)
theorem OpC.fin{a:Nat}{ops:Array Oper}{fu n:Nat}{dsts:List (Option Nat)}{ws:List Nat}{Cs cs:List Cfg}{i:Nat}{o:Oper}{anc:List Nat}(h:(cs.all fun c=> !Gp ops fu ws c i)=true:=by kernel_rfl):OpC a ops fu n dsts ws Cs i o anc cs:=
 OpC.nos cs.length (by rw[Sa];exact .nil) (by rw[Pl];exact h)
theorem OpC.okk{b:Nat}{ops:Array Oper}{fu n:Nat}{dsts:List (Option Nat)}{ws:List Nat}{Cs cs:List Cfg}{c:Cfg}{i:Nat}{o:Oper}{anc:List Nat}{t:Tree}(d:c.ts[i]? =some t)(h:OpOK o ⟨n,jr dsts c.ts c.sl anc,c.bs,c.rs⟩ t)(r:OpC b ops fu n dsts ws Cs i o anc cs)(a:(!ws.contains i&&o.guard.isNone)=true:=by kernel_rfl):OpC b ops fu n dsts ws Cs i o anc (c::cs):=by
 rw[Oo,Pu,Option.isNone_iff_eq_none]at a;exact .ok a.1 d a.2 h r
theorem StepsW.opp{a:Nat}{ops:Array Oper}{fu n:Nat}{dsts:List (Option Nat)}{ws:List Nat}{Cs:List Cfg}{i:Nat}{o:Oper}{b:List Oper}(anc:List Nat)(h:OpC a ops fu n dsts ws Cs i o anc Cs)(r:StepsW a ops fu n dsts ws Cs (i+1) b)(c:xw ops fu dsts i anc o=true:=by kernel_rfl):StepsW a ops fu n dsts ws Cs i (o::b):=.op anc c h r
def LJ(n:Nat)(dsts:List (Option Nat))(ws:List Nat)(Cs:List Cfg)(L:Nat->Bool)(S:St):Prop:=∃c,c∈Cs/\ML ws c L/\S.n=n/\S.bs=c.bs/\S.rs=c.rs/\∀s,Jq dsts c L s=.any\/S.get s=Jq dsts c L s
section
variable {w0:World} {G0:Bse} {Q:Exit->St->Prop} {S:St} {ops:Array Oper} {fu n:Nat} {dsts:List (Option Nat)} {ws:List Nat} {Cs:List Cfg} {o:Oper}
theorem OpOK.up{S S':St}{t:Tree}(h:OpOK o S t)(f:S'.bs=S.bs)(b:S'.rs=S.rs)(g:∀s,(eG o.op).contains s=true->S.get s=.any\/S'.get s=S.get s):OpOK o S' t:=by
 intro w0 G0 bx rv w T e d;rw[f,b]at e;rw[b]at d⊢;refine h w0 G0 bx rv w T e fun s c=>?_
 rcases g s c with a|a
 ·rw[a];exact .any _ .nil
 rw[<-a];exact d s c
theorem Gr{c:Cfg}{L:Nat->Bool}{i:Nat}{anc:List Nat}(h:b7 n dsts=true)(l:xw ops fu dsts i anc o=true)(e:Kn ops L i)(k:∀s,Jq dsts c L s=.any\/S.get s=Jq dsts c L s)(s:Nat)(m:(eG o.op).contains s=true):(⟨n,jr dsts c.ts c.sl anc,c.bs,c.rs⟩:St).get s=.any\/S.get s=(⟨n,jr dsts c.ts c.sl anc,c.bs,c.rs⟩:St).get s:=by
 have a:=OD.1 l s (O9.1 m);have b:=k s;show look (jr dsts c.ts c.sl anc) s=.any\/S.get s=look (jr dsts c.ts c.sl anc) s
 unfold Jq at b;cases d:eX s dsts with
 |none=>
  rw[d]at b;rw[qK d];exact b
 |some j=>
  rw[d]at a b;dsimp only at a b;rw[sQ h d];cases g:anc.contains j with
  |true=>
   simp only[g,cond_true]at a;simp only[Oo,Pu]at a;have f:L j=true:=e.up fu j (by rw[a.1,a.2];rfl);simp only[f,cond_true]at b;simpa using b
  |false=>
   simp only[g,cond_false,Px]at a;have f:L j=false:=by
    rcases a with a|a
    ·rw[QC a];exact e.self
    exact e.down fu j a
   simp only[f,cond_false]at b;simpa using b
theorem JJ{c:Cfg}{L:Nat->Bool}{i:Nat}(a:ML ws c L)(d:Kn ops L i):Gp ops fu ws c i=true:=by
 unfold Gp;rw[Oo];refine⟨?_,OD.2 fun j h=>?_⟩
 ·cases e:c.on.contains i with
  |false=>rfl
  |true=>
   have:=a.1 i (a.2 i e);rw[d.self,e]at this;cases this
 have b:=O9.2 h;cases f:Nat.beq j i with
 |true=>rfl
 |false=>
  cases g:reach ops fu i j with
  |true=>
   have:=a.1 j b;rw[d.up fu j (by rw[f,g];rfl)]at this;rw[<-this];rfl
  |false=>
   cases k:reach ops fu j i with
   |true=>
    have:=a.1 j b;rw[d.down fu j k]at this;rw[<-this];rfl
   |false=>rfl
theorem pc(L:Nat->Bool)(i:Nat):Jp L i i=true:=by simp[Jp]
theorem sR{L:Nat->Bool}{i j:Nat}(h:j≠i):Jp L i j=L j:=by
 unfold Jp;cases a:Nat.beq j i with
 |true=>exact absurd (QC a) h
 |false=>rfl
theorem JK{ops:Array Oper}{a:List Oper}{d j s:Nat}{t:Tree}{b:Bool}(C:Prop)[Decidable C](f:o.guard=some (j,b))(i:(ops[j]?).bind (·.dst)=some s)(l:Nat.blt s S.n=true)(g:∃e,S.get s=.sc e/\(C↔e=.bool b))(c:o.dst=some d)(m:Nat.blt d S.n=true)(h:C->OpOK o S t)
  (k:AOps w0 G0 ops a Q (S.put o.dst (if C then t else .sc undef))):AOps w0 G0 ops (o::a) Q S:=by
 obtain⟨n,sl,bs,rs⟩:=S;rw[c]at k;exact Bm C f i l g c m h k
theorem Gs(u:b7 n dsts=true){i:Nat}{anc:List Nat}(a:dsts[i]? =some o.dst)(I:xw ops fu dsts i anc o=true){L:Nat->Bool}(A:Kn ops L i)(X:LJ n dsts ws Cs L S):∀{cs:List Cfg},OpC G0.pn ops fu n dsts ws Cs i o anc cs->(∀c,c∈Cs->c∈cs)->AOps w0 G0 ops [o] (fun e S'=>e=.normal/\LJ n dsts ws Cs (Jp L i) S') S:=by
 obtain⟨c,R,p,D,w,y,l⟩:=X;have N:cC S.n o.dst=true:=by
  cases O:o.dst with
  |none=>rfl
  |some d=>
   rw[D];rw[O]at a;clear I p l A R;induction dsts generalizing i with
   |nil=>simp at a
   |cons x xs ih=>
    cases i with
    |zero=>
     simp only[Pa,OI]at a;subst a;simp only[b7,Oo]at u;simpa[cC]using u.1.2
    |succ i=>
     refine ih ?_ (by simpa using a);cases x with
     |none=>exact u
     |some _=>simp only[b7,Oo]at u;exact u.2
 have fin:∀t,ws.contains i=false->c.ts[i]? =some t->LJ n dsts ws Cs (Jp L i) (S.put o.dst t):=fun t z F=>by
  refine⟨c,R,⟨fun j k=>?_,p.2⟩,by rw[ee];exact D,by rw[dE];exact w,by rw[bZ];exact y,fun s=>?_⟩
  ·rw[sR (fun e=>by rw[e,z]at k;cases k)];exact p.1 j k
  rw[cV];have f:=l s;unfold Jq at f⊢;cases r:eX s dsts with
  |none=>
   rw[r]at f;have:o.dst≠some s:=fun e=>by
    rw[e]at a;have:=O9.2 (Om a);rw[gl r]at this;cases this
   rw[if_neg this];exact f
  |some j=>
   rw[r]at f;dsimp only at f⊢;have k:=fy r;by_cases g:j=i
   ·subst g;rw[k]at a;injection a with a
    rw[if_pos a.symm,pc];right;simp[OE,F]
   rw[sR g,if_neg (fun e=>g (by rw[e]at a;exact ii u k a))];exact f
 have key:∀{cs:List Cfg},OpC G0.pn ops fu n dsts ws Cs i o anc cs->c∈cs->AOps w0 G0 ops [o] (fun e S'=>e=.normal/\LJ n dsts ws Cs (Jp L i) S') S:=by
  intro cs h q;induction h with
  |nil=>cases q
  | @no c1 cs h _ ih=>
   rcases OC.1 q with rfl|q
   ·rw[JJ p A]at h;cases h
   exact ih q
  | @ok c1 cs t z F hg h _ ih=>
   rcases OC.1 q with rfl|q
   ·have J:OpOK o S t:=h.up w y (Gr u I A l);exact Db hg N J (af ⟨Z,fin t z F⟩)
   exact ih q
  | @cnd c1 cs t j b gs d C dC z hg k hgs r hanc hre hG O hdl F h _ ih=>
   rcases OC.1 q with rfl|q
   ·obtain⟨T,v,Q⟩:=hG;have E:L j=true:=A.up fu j hre;have P:S.get gs=.sc T:=by
     have f:=l gs;unfold Jq at f;rw[r]at f;dsimp only at f;rw[E,cond_true]at f;rw[sQ u r,if_pos hanc]at v;rcases f with f|f
     ·rw[f]at v;cases v
     rw[f];exact v
    exact JK C hg k (by rw[D];exact hgs) ⟨T,P,Q⟩ O (by rw[D];exact hdl) (fun Y=>(h Y).up w y (Gr u I A l)) (af ⟨Z,fin _ z F⟩)
   exact ih q
  | @wr c1 cs m c' K tt z hm' hg h hon' hKa hsl' hti hts _ ih=>
   rcases OC.1 q with rfl|q
   ·obtain⟨S',M,U,V,W,e4⟩:=h w0 G0 S rfl D w y (Gr u I A l);refine dF hg M (af ⟨Z,c',Om hm',⟨fun j k=>?_,fun j k=>?_⟩,U.trans D,V,W,fun s=>?_⟩)
    ·rw[Gq hon'];by_cases g:j=i
     ·subst g;rw[pc];simp
     rw[sR g,p.1 j k];have:(j==i)=false:=beq_eq_false_iff_ne.2 g;rw[this];rfl
    ·rw[Gq hon',Px]at k;rcases k with k|k
     ·rw[beq_iff_eq.1 k];exact z
     exact p.2 j k
    rw[e4];have f:=l s;have H:look c'.sl s=K (look c.sl s):=by rw[<-hsl',jO K hKa]
    unfold Jq at f⊢;cases r:eX s dsts with
    |none=>
     rw[r]at f;have:o.dst≠some s:=fun e=>by
      rw[e]at a;have:=O9.2 (Om a);rw[gl r]at this;cases this
     simp only;rw[if_neg this,H];rcases f with f|f
     ·simp only at f;rw[f];exact .inl hKa
     simp only at f;rw[f];exact .inr Z
    |some j=>
     rw[r]at f;have k:=fy r;dsimp only at f⊢;by_cases g:j=i
     ·subst g;rw[k]at a;injection a with a
      rw[if_pos a.symm,pc,cond_true];right;simp[OE,hti]
     rw[sR g,if_neg (fun e=>g (by rw[e]at a;exact ii u k a))];cases E:L j with
     |false=>
      rw[E,cond_false]at f;rw[cond_false,H];rcases f with f|f
      ·rw[f];exact .inl hKa
      rw[f];exact .inr Z
     |true=>
      rw[E,cond_true]at f;rw[cond_true];rcases hts.at j with B|B|B|B
      ·rw[B];rcases f with f|f
       ·rw[f];exact .inl hKa
       rw[f];exact .inr Z
      ·exact .inl B
      ·exact absurd (by omega) g
      rw[Pk]at B;have:=A.down fu j B;rw[E]at this;cases this
   exact ih q
 intro cs h G;exact key h (G c R)
theorem StepsW.at(c:b7 n dsts=true)(d:ops.toList.map (·.dst)=dsts):∀{b:List Oper} {i:Nat},StepsW G0.pn ops fu n dsts ws Cs i b->(∀(k:Nat) (o:Oper),b[k]? =some o->ops[i+k]? =some o)->∀(k:Nat) (o:Oper),b[k]? =some o->∀L,Kn ops L (i+k)->∀S,LJ n dsts ws Cs L S->AOps w0 G0 ops [o] (fun e S'=>e=.normal/\LJ n dsts ws Cs (Jp L (i+k)) S') S
 |_,_,.nil,_,k,o,h,_,_,_,_=>by simp at h
 |_,i,.op anc hr h _,hall,0,o,ho,L,hK,S,hS=>by
  have a:=hall 0 o ho;simp only[Pa,OI]at ho;subst ho;refine Gs c ?_ hr hK hS h (fun _ h=>h);rw[PI]at a;rw[<-d,O2,PJ,a];rfl
 |_,i,.op _ _ _ r,hall,k+1,o,ho,L,hK,S,hS=>by
  have:=r.at c d (fun q x f=>by have:=hall (q+1) x (by simpa using f);rwa[show i+(q+1)=i+1+q by omega]at this) k o (by simpa using ho) L (by rw[show i+1+k=i+(k+1) by omega];exact hK) S hS;rw[show i+1+k=i+(k+1) by omega]at this;exact this
theorem Sim.leG{S':St}{a:Act}{w:World}(h:Sim w0 G0 S a w)(l:S'.n=S.n)(g:S'.bs=S.bs)(f:S'.rs=S.rs)(j:∀s,S'.get s=.any\/S'.get s=S.get s):Sim w0 G0 S' a w:=by
 obtain⟨bx,rv,k,e,d,b⟩:=h;refine⟨bx,rv,by rw[g,f];exact k,by rw[l];exact e,d,fun i=>?_⟩;rw[f];rcases j i with c|c
 ·rw[c];exact .any _ .nil
 rw[c];exact b i
theorem nB{s:Nat}:∀(a:List (Option Nat)) (ts:List Tree) (sl:List (Nat×Tree)),eX s a=none->look (jq sl a ts) s=look sl s
 |[],ts,sl,_=>by cases sl<;>rfl
 |some d::a,[],sl,_=>rfl
 |none::a,[],sl,_=>rfl
 |some d::a,t::ts,sl,h=>by
  simp only[eX]at h;split at h
  ·cases h
  next hne=>
  simp only[RB]at h;simp only[jq];rw[nB a ts _ h,dD,if_neg (fun e=>hne (by rw[e]))]
 |none::a,t::ts,sl,h=>by
  simp only[eX]at h;split at h
  ·cases h
  simp only[RB]at h;simp only[jq];exact nB a ts _ h
theorem sS{s n:Nat}:∀(a:List (Option Nat)) (ts:List Tree) (sl:List (Nat×Tree)) (j:Nat),b7 n a=true->a.length=ts.length->eX s a=some j->look (jq sl a ts) s=ts.getD j .any
 |[],ts,sl,j,_,_,h=>by simp[eX]at h
 |some d::a,[],sl,j,_,hl,_=>by simp at hl
 |none::a,[],sl,j,_,hl,_=>by simp at hl
 |some d::a,t::ts,sl,j,ha,hl,h=>by
  simp only[b7,Oo,Pu]at ha;simp only[eX]at h;simp only[jq];split at h
  ·next b=>
   cases h;injection b with b
   subst b;have:eX d a=none:=by
    cases e:eX d a with
    |none=>rfl
    |some q=>
     have:=O9.2 (Om (fy e));rw[ha.1.1]at this;cases this
   rw[nB a ts _ this,dD,if_pos Z];rfl
  simp only[Ps]at h;obtain⟨q,c,rfl⟩:=h;rw[sS a ts _ q ha.2 (by simpa using hl) c];simp
 |none::a,t::ts,sl,j,ha,hl,h=>by
  simp only[eX]at h;simp only[jq];split at h
  ·next b=>cases b
  simp only[Ps]at h;obtain⟨q,c,rfl⟩:=h;rw[sS a ts _ q ha (by simpa using hl) c];simp
theorem di{id fu n:Nat}{ops:List Oper}{sl sl':List (Nat×Tree)}{bs:List (TypeId×List Tree)}{rs:List (Option Row)}(dsts:List (Option Nat))(ws:List Nat)(ts:List Tree)(N:List Cfg)(g:Cfg)(K:fE ops.toArray=true)(T:ops.map (·.dst)=dsts)(y:b7 n dsts=true)(A:(ws.all fun j=>Nat.blt j ops.length)=true)(F:((⟨[],sl,bs,rs,ts⟩::N).all fun c=> !(ws.all fun j=>c.on.contains j))=true)(t:dsts.length=g.ts.length)(m:jq g.sl dsts g.ts=sl')
  (hs:StepsW G0.pn ops.toArray fu n dsts ws ((⟨[],sl,bs,rs,ts⟩::N)++[g]) 0 ops) (k:Q .normal ⟨n,sl',g.bs,g.rs⟩):AWP w0 G0 (.region id ops.toArray true) Q ⟨n,sl,bs,rs⟩:=by
 subst m;intro a w d;refine gR (fun L a W=>L.size=ops.toArray.size/\Closed ops.toArray L/\∃S,LJ n dsts ws ((⟨[],sl,bs,rs,ts⟩::N)++[g]) (fun j=>L.getD j false) S/\Sim w0 G0 S a W) (by kernel_rfl) K ⟨by simp,ip _,⟨n,sl,bs,rs⟩,?_,d.drew⟩ ?_ ?_
 ·have:(fun j=>(Array.replicate ops.toArray.size false).getD j false)=fun _=>false:=by
   funext j;cases h:(Array.replicate ops.toArray.size false).getD j false with
   |false=>rfl
   |true=>exact absurd h lI
  rw[this];refine⟨⟨[],sl,bs,rs,ts⟩,by simp,⟨fun j b=>rfl,fun j b=>by simp at b⟩,Z,Z,Z,fun s=>?_⟩;right;unfold Jq;split<;>rfl
 ·rintro L a W i o P f z R ⟨_,x,S,Y,d⟩;have hi:i<ops.toArray.size:=(O3.1 z).1;have r:L.getD i false=false:=getD_both f;have M:∀n j,j≠i->reach ops.toArray n i j=true->L.getD j false=true:=fun n j b J=>by
   have E:=x.step z R;have:=E.reach n i j J (fh (by omega));rwa[dd (fun e=>b e.symm)]at this
  have B:∀n j,reach ops.toArray n j i=true->L.getD j false=false:=fun n j J=>by
   cases U:L.getD j false with
   |false=>rfl
   |true=>
    have:=x.reach n j i J U;rw[r]at this;cases this
  have hK:Kn ops.toArray (fun j=>L.getD j false) i:=⟨r,fun n j b=>by
   simp only[Oo,Pu]at b;exact M n j (fun e=>by subst e;simp at b) b.2,B⟩
  have q:=hs.at (w0:=w0) (G0:=G0) y (by simpa using T) (fun k o X=>by simpa using X) i o (by simpa using z) (fun j=>L.getD j false) (by rw[Pk];exact hK) S Y a W d;rw[Pk]at q;refine Bn ?_ q;rintro e a' W' ⟨S',⟨rfl,O⟩,p⟩;refine⟨by simpa using P,x.step z R,S',?_,p⟩;have:(fun j=>(L.setIfInBounds i true).getD j false)=Jp (fun j=>L.getD j false) i:=by
   funext j;by_cases b:j=i
   ·subst b;rw[fh (by omega),pc]
   rw[dd (fun e=>b e.symm),sR b]
  rw[this];exact O
 rintro L a W P ⟨_,_,S,⟨c,x,C,V,G,H,m⟩,d⟩;have l:∀j,j<ops.length->L.getD j false=true:=fun j b=>P j (by simpa using b)
 have D:c=g:=by
  rcases OZ.1 x with h|h
  ·have:=OD.1 F c h;simp only[Pu]at this;rw[R2]at this;obtain⟨j,b,I⟩:=this;have:=C.1 j (O9.2 b);have v:=OD.1 A j b;rw[Pn]at v;simp only[l j v]at this;exact absurd this.symm I
  exact OG.1 h
 subst D;refine⟨_,k,d.leG V.symm G.symm H.symm fun s=>?_⟩;have f:=m s;show look (jq c.sl dsts c.ts) s=.any\/look (jq c.sl dsts c.ts) s=S.get s
 unfold Jq at f;cases u:eX s dsts with
 |none=>
  rw[u]at f;rw[nB _ _ _ u];exact f.imp (fun h=>h) Eq.symm
 |some j=>
  rw[u]at f;dsimp only at f;rw[sS _ _ _ j y t u];have b:=(Ok.1 (fy u)).1;have:L.getD j false=true:=l j (by rw[<-T]at b;simpa using b);simp only[this,cond_true]at f;exact f.imp (fun h=>h) Eq.symm
end
theorem eH{w0:World}{G0:Bse}{c:Code}{Q:Exit->St->Prop}{n:Nat}{sl sl':List (Nat×Tree)}{bs:List (TypeId×List Tree)}{rs:List (Option Row)}(b:KeepsP ⟨n,sl,bs,rs⟩ sl')(h:AWP w0 G0 c Q ⟨n,sl',bs,rs⟩):AWP w0 G0 c Q ⟨n,sl,bs,rs⟩:=fun a w d=>h a w (d.leP ⟨Z,Z,Z,b⟩)
theorem mM{S b:St}{op:Op}{x:Operand}{t:Tree}(i:∀s,(eG op).contains s=true->b.get s=.any\/S.get s=b.get s)(c:x∈op.operands.toList)(h:b.ev x=t)(d:t≠ .any):S.ev x=t:=by
 cases x with
 |tmp s=>
  have e:(eG op).contains s=true:=O9.2 (RU.2 ⟨_,c,Z⟩);rcases i s e with a|a
  ·exact absurd (h.symm.trans a) d
  exact a.trans h
 |const v=>exact h
 |global g=>exact h
 |func f=>exact h
theorem c7{C:Nat}{o:Oper}{n d k m c:Nat}{sl:List (Nat×Tree)}{bs bs':List (TypeId×List Tree)}{rs rs':List (Option Row)}{x y:Operand}{t:TypeId}{R:Row}{a:List Tree}(f:o.op=.call {callee:=.builtin .append,args:=#[x,y],argTypes:=#[t,t]})(D:o.dst=some d)(z:Nat.blt d n=true)(v:jP Tryz.prog t=some (R.e,R.sz,c))(u:St.ev ⟨n,sl,bs,rs⟩ x=.own k)(w:rs[k]? =some (some R))(A:St.ev ⟨n,sl,bs,rs⟩ y=.sl a)(F:R.sz=m)(I:Sized m a)(G:AllC Tree.one a)(E:AllC Tree.noDig a)(H:R.es.length+a.length<=1073741824)(B:Nat.ble c 100000=true)(h:bs.map (fun p=>(p.1,p.2.map (ir k)))=bs')(l:rs.set k (some ⟨R.e,R.sz,R.es++a,false⟩)=rs'):uY C o ⟨n,sl,bs,rs⟩ (fi k) (.own k) bs' rs':=by
 subst F h l;intro w0 G0 S J q r j b;dsimp only at q r j;have i:=mM b (by rw[f];simp[Op.operands,Call.operands]) u (by simp);have g:=mM b (by rw[f];simp[Op.operands,Call.operands]) A (by simp);refine⟨_,vr (S:=S) f (by rw[D,q];simpa[cC,Pn]using z) v i (by rw[j];exact w) g I G E H (by simpa using B),by rw[ee];rfl,by rw[dE,<-r];rfl,by rw[bZ];dsimp only;rw[j],fun s=>?_⟩;rw[cV];split
 ·rfl
 exact mW S k s
theorem gm{w:Nat}{o:Oper}{n b off m:Nat}{sl:List (Nat×Tree)}{bs bs':List (TypeId×List Tree)}{rs:List (Option Row)}{ty k:TypeId}{x y:Operand}{cs:List Tree}{t:Tree}(e:o.op=.store ty x y)(a:o.dst=none)(q:St.ev ⟨n,sl,bs,rs⟩ x=.box b off)(v:bs[b]? =some (k,cs))(r:St.ev ⟨n,sl,bs,rs⟩ y=t)(l:t.oneA=true)(z:t.cells.all Tree.one=true)(A:t.cells.all Tree.noDig=true)(B:(Tryz.prog.info? ty).map (·.size)=some m)(p:t.cells.length=m)(d:Nat.ble (off+m) cs.length=true)(h:bs.set b (k,Ga cs off t)=bs'):uY w o ⟨n,sl,bs,rs⟩ id .any bs' rs:=by
 subst h;intro w0 G0 S C u f j c;dsimp only at u f j;have i:=mM c (by rw[e];simp[Op.operands]) q (by simp);have g:=mM c (by rw[e];simp[Op.operands]) r (by rintro rfl;simp[Tree.oneA,Tree.one]at l);refine⟨_,lM (S:=S) e a i (by rw[f];exact v) g l z A B p (by simpa using d),Z,by rw[f],j,fun s=>?_⟩;rw[a,if_neg (by simp)];rfl
theorem jR{l:Nat}{o:Oper}{n d b:Nat}{sl:List (Nat×Tree)}{bs bs':List (TypeId×List Tree)}{rs:List (Option Row)}{ty:TypeId}{c:List Value}{cs:List Tree}(h:o.op=.alloc ty)(m:o.dst=some d)(q:Nat.blt d n=true)(i:gJ Tryz.prog ty=some c)(p:c.all bG=true)(k:c.map dN=cs)(j:bs.length=b)(a:bs++[(ty,cs)]=bs'):uY l o ⟨n,sl,bs,rs⟩ id (.box b 0) bs' rs:=by
 subst k j a;intro w0 G0 S t g e f r;dsimp only at g e f;refine⟨_,sN (S:=S) h (by rw[m,g];simpa[cC,Pn]using q) i p,by rw[ee],by rw[dE,e],by rw[bZ,f],fun s=>?_⟩;rw[cV,e];rfl
section
variable {w0:World} {G0:Bse} {S:St} {o:Oper}
theorem Gt{n:Nat}{es:List Tree}(a:Sized n es){j:Nat}(b:j<es.length){t:Tree}(c:t.cells.length=n):flat (es.set j t)=(flat es).take (j*n)++t.cells++(flat es).drop (j*n+n):=by
 rw[RC,if_pos b,i8,eN,nv a,kV a,show(j+1)*n=j*n+n by rw[Pf];omega,O0]
theorem Sized.set{n:Nat}{es:List Tree}(c:Sized n es)(j:Nat){t:Tree}(a:t.cells.length=n):Sized n (es.set j t):=fun x b=>by
 rcases QW b with h|rfl
 ·exact c x h
 exact a
theorem Dn{w:World}{bs:List (TypeId×List Tree)}{rs:List (Option Row)}{bx:List Nat}{rv:List Value}{k off:Nat}{R:Row}{v:Value}(i:Mem w0 G0 bs rs bx rv w)(b:rs[k]? =some (some R))(h:FT (en w G0 bx rv rs) [v] [.elp k off]):
  ∃g n c xs,v=.pointer (some ⟨g,off,none⟩)/\rv[k]? =some (.slice (some ⟨g,0,none⟩) n c)/\w.ownsRow 0 R.e R.sz (.slice (some ⟨g,0,none⟩) n c) R.es.length xs/\PT w (GG G0 bx rv rs) xs (flat R.es)/\(Sized R.sz R.es/\(R.tt=true->ot (.slice (some ⟨g,0,none⟩) n c)))/\NoDigB w g:=by
 obtain⟨g,n,c,a,rfl⟩:=h.isElp;have a:fN rv rs k=some _:=a;simp only[fN,b,PC,id]at a;obtain⟨xs,l,d,f,j⟩:=i.row k _ R a b;exact⟨g,n,c,xs,Z,a,l,d,f,j g Z⟩
theorem fk{x q:Operand}{t e:TypeId}{n k r:Nat}{R:Row}{h:IntKind}{i:Int}{j:Nat}(f:o.op=.indexAddr t x q)(y:gS Tryz.prog t=some (e,n))(u:S.ev x=.own k)(l:S.rs[k]? =some (some R))(I:R.sz=n)(s:S.ev q=.sc (.int h i))(C:i=j)(G:j<R.es.length)(d:j*n=r):OpOK o S (.elp k r):=by
 subst d C;intro w0 G0 bx rv w T D m;have F:=(bH m s (by rw[f];simp[Op.operands])).isSc;have E:=bH m u (by rw[f];simp[Op.operands]);obtain⟨z,xs,a,H,A,B⟩:=g7 D l E;rcases a.2 with⟨_,J⟩|⟨g,cp,cur,p,_⟩
 ·omega
 have d:=lK (P:=Tryz.prog) (w:=w) (b:=g) (o:=0) (n:=R.es.length) (c:=cp) (k:=h) (i:=(j:Int)) y (by omega) (by omega);rw[QI]at d;refine aB (v:=.pointer (some ⟨g,j*n,none⟩)) (W':=w) ?_ ⟨.elp k (j*n) g R.es.length cp ?_ .nil,Below.refl _ _⟩
 ·simp only[Pk]at d;simp[execOp,f,F,p,d]
 show fN rv S.rs k=_
 simp only[fN,l,PC,id];rw[z,p]
theorem vu{w:World}{base g n c:Nat}{e:TypeId}{sz m:Nat}{xs:List Value}(h:w.ownsRow base e sz (.slice (some ⟨g,0,none⟩) n c) m xs):∃cur:List Value,IsBlk w g e cur.toArray/\cur.length=c*sz/\n=m/\n<=c/\cur.take (m*sz)=xs/\base<=g/\c<=maxLen/\∀(j:Nat) u,xs[j]? =some u->w.cell? ⟨g,j,none⟩=some u:=by
 rcases h.2 with⟨f,_⟩|⟨t,v,cur,f,l,k,s,p,r,i⟩
 ·cases f
 injection f with a q o
 injection a with a
 injection a with a
 subst a q o;have b:IsBlk w g e cur.toList.toArray:=by simpa[IsBlk]using k
 refine⟨cur.toList,b,by simpa using r,Z,s,i,l,p,fun j u d=>?_⟩;rw[b.cell j];rw[<-i,Ph]at d;split at d
 ·simpa using d
 cases d
theorem pd{x:Operand}{t:TypeId}{k off j fo:Nat}{R:Row}{c d:Tree}(m:o.op=.load t x)(p:S.ev x=.elp k off)(r:S.rs[k]? =some (some R))(q:ja Tryz.prog t=true)(H:R.es[j]? =some c)(e:off=j*R.sz+fo)(f:fo<R.sz)(A:c.cells[fo]? =some d):OpOK o S d:=by
 intro w0 G0 bx rv w T E B;obtain⟨g,n,cp,xs,F,I,G,s,C,_⟩:=Dn E r (bH B p (by rw[m];simp[Op.operands]));obtain⟨_,_,_,_,_,_,_,_,a⟩:=vu G;obtain⟨i,h⟩:=Ok.1 H;have l:=C9 C.1 j i fo f;rw[h,A,<-e]at l;obtain⟨u,y,z⟩:=s.get off d l;have D:=jt (P:=Tryz.prog) (w:=w) (b:=g) (o:=off) (u:=u) q (a off u y);refine aB (v:=u) (W':=w) ?_ ⟨.pure z .nil,Below.refl _ _⟩;simp[execOp,m,F,D]
theorem Mem.setRowE{w w':World}{bs:List (TypeId×List Tree)}{rs:List (Option Row)}{bx:List Nat}{rv:List Value}{k:Nat}{v:Value}{R R':Row}(h:Mem w0 G0 bs rs bx rv w){xs:List Value}(n:rv[k]? =some v)(o:rs[k]? =some (some R))(q:w.grownBy w' v.ownBlock)(P:w'.ownsRow 0 R'.e R'.sz v R'.es.length xs)(N:PT w' (GG G0 bx rv rs) xs (flat R'.es))(F:Sized R'.sz R'.es/\(R'.tt=true->ot v))(T:∀g,v.ownBlock=some g->NoDigB w' g):
  Mem w0 G0 bs (rs.set k (some R')) bx rv w'/\(∀us ts,FT (en w G0 bx rv rs) us ts->FT (en w' G0 bx rv (rs.set k (some R'))) us ts):=by
 have D:=(Ok.1 n).1;have p:=(Ok.1 o).1;have a0:rv.set k v=rv:=by rw[<-(Ok.1 n).2];exact List.set_getElem_self D
 have B:∀b,b∈cl bx rv (rs.set k (some R'))↔b∈cl bx rv rs:=fun b=>by
  rw[aY,aY];refine or_congr Rh ⟨?_,?_⟩
  ·rintro⟨j,u,X,a,c,l⟩;by_cases d:j=k
   ·subst d;rw[n]at a;cases a;exact⟨j,v,R,n,o,l⟩
   rw[Pp (fun e=>d e.symm)]at c;exact⟨j,u,X,a,c,l⟩
  rintro⟨j,u,X,a,c,l⟩;by_cases d:j=k
  ·subst d;rw[n]at a;cases a;exact⟨j,v,R',n,by rw[PA p],l⟩
  exact⟨j,u,X,a,by rw[Pp (fun e=>d e.symm)];exact c,l⟩
 have x:∀b,GG G0 bx rv (rs.set k (some R')) b↔GG G0 bx rv rs b:=fun b=>or_congr Rh (B b)
 have m:∀b,b<w.heap.size->¬GG G0 bx rv rs b->w'.heap[b]? =w.heap[b]? /\¬GG G0 bx rv (rs.set k (some R')) b:=fun b I M=>⟨q.block b I fun e=>M (.inr (aY.2 (.inr ⟨k,v,R,n,o,e.symm⟩))),fun h=>M ((x b).1 h)⟩
 have y:∀j u,fN rv rs j=some u->fN rv (rs.set k (some R')) j=some u:=fun j u d=>by
  unfold fN at d⊢;by_cases s:j=k
  ·subst s;rw[o]at d;rw[PA p];exact d
  rw[Pp (fun e=>s e.symm)];exact d
 have z:∀us ts,FT (en w G0 bx rv rs) us ts->FT (en w' G0 bx rv (rs.set k (some R'))) us ts:=fun us ts S=>S.mono (E':=en w' G0 bx rv (rs.set k (some R'))) q.size m (fun _ _ h=>h) y
 have L:GG G0 bx rv (rs.set k (some R'))=GG G0 bx rv rs:=funext fun b=>propext (x b)
 refine⟨⟨h.below.grown q (fun b e=>h.ge b (aY.2 (.inr ⟨k,v,R,n,o,e⟩))),h.env0,h.g0,h.nb,by simp[h.nr],fun i g r=>?_,fun j u X a c=>?_,⟨h.nodup.bb,fun j u X b a c l=>?_,fun i j u t X Y b G a c l J U C=>?_⟩,fun b I=>h.ge b ((B b).1 I),h.pin⟩,z⟩
 ·obtain⟨ty,cs,us,a,c,l,J⟩:=h.box i g r;exact⟨ty,cs,us,a,(q.block g c.lt fun e=>h.nodup.br k v R g n o e.symm (Om r)).trans c,z _ _ l,J⟩
 ·by_cases d:j=k
  ·subst d;rw[n]at a;cases a;rw[PA p]at c;cases c;exact⟨xs,P,by rw[L];exact N,F,T⟩
  rw[Pp (fun e=>d e.symm)]at c;obtain⟨ys,C,W,V,O⟩:=h.row j u X a c;have A:∀b,u.ownBlock=some b->v.ownBlock≠some b:=fun b E K=>h.nodup.rr j k u v X R b d a c n o E K
  refine⟨ys,C.kept q ?_,W.mono q.size m,V,fun g H=>(O g H).of (q.block g (C.lt g H).2 fun e=>A g H e.symm)⟩;cases Q:u.ownBlock with
  |none=>exact .inl Zz
  |some b=>exact .inr fun e=>A b Q e.symm
 ·by_cases d:j=k
  ·subst d;exact h.nodup.br j u R b a o l
  rw[Pp (fun e=>d e.symm)]at c;exact h.nodup.br j u X b a c l
 have f:∀i X,(rs.set k (some R'))[i]? =some (some X)->∃Z,rs[i]? =some (some Z):=fun i X h=>by
  by_cases r:i=k
  ·subst r;exact⟨R,o⟩
  rw[Pp (fun e=>r e.symm)]at h;exact⟨X,h⟩
 obtain⟨X',E⟩:=f i X c;obtain⟨Y',K⟩:=f j Y J;exact h.nodup.rr i j u t X' Y' b G a E l K U C
theorem pe{ty:TypeId}{x y:Operand}{k off j:Nat}{R:Row}{t:Tree}(ho:o.op=.store ty x y)(J:o.dst=none)(hx:S.ev x=.elp k off)(X:S.rs[k]? =some (some R))(p:off=j*R.sz)(hj:j<R.es.length)(ht:S.ev y=t)(h1:t.oneA=true)(h2:t.cells.all Tree.one=true)(hn:t.cells.all Tree.noDig=true)(hp:t.cells.all Tree.plain0=true)(hs:(Tryz.prog.info? ty).map (·.size)=some R.sz)(Q:t.cells.length=R.sz):lL w0 G0 o S {S with rs:=S.rs.set k (some ⟨R.e,R.sz,R.es.set j t,R.tt⟩)}:=by
 rintro a w ⟨bx,rv,hm,a0,a1,z⟩;have hv:=bH (op:=o.op) (T:=fun s=>a.tmps.getD s undef) (S:=S) (fun s _=>z s) ht (by rw[ho];simp[Op.operands]);have F:=bH (op:=o.op) (T:=fun s=>a.tmps.getD s undef) (S:=S) (fun s _=>z s) hx (by rw[ho];simp[Op.operands]);generalize (fun s=>a.tmps.getD s undef)=T at hv F⊢;obtain⟨g,n,cp,xs,Y,L,q,M,C,a3⟩:=Dn hm X F;obtain⟨cur,h,B,D,a4,U,u,a5,_⟩:=vu q;have N:=oW hv h1;have E:=N.plain0s hp;obtain⟨c,H⟩:∃c,dm T y=c:=⟨_,rfl⟩;rw[H]at hv N E;have b:c.cells.toList.length=R.sz:=by rw[N.length,Q]
 have V:(j+1)*R.sz<=R.es.length*R.sz:=OT _ hj;rw[Pf,QF]at V;have a9:R.es.length*R.sz<=cp*R.sz:=OT _ (by omega);have r:=n5 (P:=Tryz.prog) (w:=w) (g:=g) (off:=off) (ty:=ty) (t:=R.e) (cur:=cur) (v:=c) h (by rw[hs,show c.cells.size=R.sz from b]) (by rw[B,p];simp only[Po]at b;omega) (N.ones h2);have I:c.cells.size=R.sz:=b;rw[I]at r;have f:=o4 w g (cur.take off++c.cells.toList++cur.drop (off+R.sz)).toArray;have b0:g<w.heap.size:=h.lt;have m:IsBlk (w.setRow g (cur.take off++c.cells.toList++cur.drop (off+R.sz)).toArray) g R.e (cur.take off++c.cells.toList++cur.drop (off+R.sz)).toArray:=by
  have:=h;simp only[IsBlk,World.setRow]at this⊢;simp[P4,this]
 have d:g∈cl bx rv S.rs:=aY.2 (.inr ⟨k,_,R,L,X,Z⟩);have K:(cur.take off++c.cells.toList++cur.drop (off+R.sz)).take (R.es.length*R.sz)=xs.take off++c.cells.toList++xs.drop (off+R.sz):=by
  subst U;have Y:(cur.take off).length=off:=by rw[Ox,B];omega
  have e2:R.es.length*R.sz=off+R.sz+(R.es.length*R.sz-(off+R.sz)):=by omega
  rw[List.take_take,PM (by omega),List.drop_take,O0,e2,Rk,Y,Oy (l:=cur.take off) (by omega),Rk,b,Oy (l:=c.cells.toList) (by omega),O0];rw[show off+R.sz+(R.es.length*R.sz-(off+R.sz))-off-R.sz=off+R.sz+(R.es.length*R.sz-(off+R.sz))-(off+R.sz) by omega]
 have O:NoDigB (w.setRow g (cur.take off++c.cells.toList++cur.drop (off+R.sz)).toArray) g:=cD m (by
  have G:=nw (show w.heap[g]? =some (.cells cur.toArray R.e (0,0))from h) a3;exact o5 G (N.noDigs hn))
 obtain⟨W,a2⟩:=hm.setRowE (R':=⟨R.e,R.sz,R.es.set j t,R.tt⟩) (w':=w.setRow g (cur.take off++c.cells.toList++cur.drop (off+R.sz)).toArray) (xs:=xs.take off++c.cells.toList++xs.drop (off+R.sz)) L X f
  (by
   refine⟨?_,.inr ⟨g,cp,_,?_,u,m,?_,a5,?_,?_⟩⟩
   ·have:=q.1;simp only[Oj,Ox,OP,O4,b,this];omega
   ·rw[O4,<-D]
   ·rw[O4,<-D];exact a4
   ·simp only[Rw,Oj,Ox,OP,b,B];omega
   rw[O4];exact K)
  (by
   show PT _ _ _ (flat (R.es.set j t))
   rw[Gt C.1 hj Q,<-p];exact(((o0 d f M).take off).append (o0 d f E)).append ((o0 d f M).drop (off+R.sz)))
  ⟨C.1.set j Q,C.2⟩ (fun g' A=>by injection A with A;subst A;exact O)
 refine gd (W':=w.setRow g (cur.take off++c.cells.toList++cur.drop (off+R.sz)).toArray) (by simp only[execOp,ho,Y,H,Sem.run_bind,r,Result.andThen_ok];rfl) ⟨bx,rv,W,by rw[dW];exact a0,by rw[cU,a1],fun i=>?_⟩;rw[J];exact a2 _ _ (z i)
end
end Go.Proofs.YtfoejfohbkmmeaaGreatDoor
