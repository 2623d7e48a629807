import Derived.Test.YtmhcanmapkenbaaGreatDoorA07
set_option linter.defProp false
open Go.Proofs.Tryz
namespace Go.Proofs.YtmhcanmapkenbaaGreatDoor
open Go.RowKit
open Lib renaming hid→J
structure Cfg where
 on:List Nat
 sl:List (Nat×Tree)
 bs:List (TypeId×List Tree)
 rs:List (Option Row)
 ts:List Tree
def IS(dsts:List (Option Nat))(c:Cfg)(L:Nat->Bool)(s:Nat):Tree:=
 match ec s dsts with
 |none=>look c.sl s
 |some j=>cond (L j) (c.ts.getD j .any) (look c.sl s)
def iD(dsts:List (Option Nat))(ts:List Tree)(sl:List (Nat×Tree)):List Nat->List (Nat×Tree)
 |[]=>sl
 |j::js=>match dsts[j]? with
  |some (some d)=>(d,ts.getD j .any)::iD dsts ts sl js
  |_=>iD dsts ts sl js
def pi{dsts:List (Option Nat)}{ts:List Tree}{sl:List (Nat×Tree)}{s:Nat}(h:ec s dsts=none):∀a,look (iD dsts ts sl a) s=look sl s
 |[]=>rfl
 |j::js=>by
  simp only[iD];split
  ·next d hd=>
   rw[cK,if_neg,pi h js];rintro rfl;have:=QX.2 (Qo hd);rw[f8 h]at this;cases this
  exact pi h js
def rp{dsts:List (Option Nat)}{ts:List Tree}{sl:List (Nat×Tree)}{s j n:Nat}(c:cc n dsts=true)(h:ec s dsts=some j):∀a,look (iD dsts ts sl a) s=if a.contains j then ts.getD j .any else look sl s
 |[]=>by simp[iD]
 |i::js=>by
  have g:=rp (ts:=ts) (sl:=sl) c h js;simp only[iD];have f:=eO h;by_cases b:i=j
  ·subst b;simp only[f,cK];simp
  have k:(i::js).contains j=js.contains j:=by
   rw[Sr,show(j==i)=false from beq_eq_false_iff_ne.2 λe=>b e.symm,Tg]
  rw[k];split
  ·next d hd=>
   rw[cK,if_neg,g];rintro rfl;exact b (ie c hd f)
  exact g
def vw(ops:Array Oper)(fu:Nat)(dsts:List (Option Nat))(i:Nat)(anc:List Nat)(o:Oper):Bool:=(ew o.op).all λs=>match ec s dsts with
 |none=>true
 |some j=>cond (anc.contains j) (!Nat.beq j i&&reach ops fu i j) (Nat.beq j i||reach ops fu j i)
def Fe(ops:Array Oper)(fu:Nat)(ws:List Nat)(c:Cfg)(i:Nat):Bool:= !c.on.contains i&&ws.all λj=>Nat.beq j i||cond (reach ops fu i j) (c.on.contains j) (cond (reach ops fu j i) (!c.on.contains j) true)
def Oi(ws:List Nat)(c:Cfg)(L:Nat->Bool):Prop:=(∀j,ws.contains j=true->L j=c.on.contains j)/\∀j,c.on.contains j=true->ws.contains j=true
def zH(pn:Nat)(o:Oper)(S0:St)(K:Tree->Tree)(tt:Tree)(bs':List (TypeId×List Tree))(rs':List (Option Row)):Prop:=∀w0 (G0:Bse) (S:St),G0.pn=pn->S.n=S0.n->S.bs=S0.bs->S.rs=S0.rs->(∀s,(ew o.op).contains s=true->S0.get s=.any\/S.get s=S0.get s)->
 ∃S',qi w0 G0 o S S'/\S'.n=S.n/\S'.bs=bs'/\S'.rs=rs'/\∀s,S'.get s=if o.dst=some s then tt else K (S.get s)
inductive TsK (ops:Array Oper) (fu i:Nat) (K:Tree->Tree):Nat->List Tree->List Tree->Prop
 |nil {j:Nat}:TsK ops fu i K j [] []
 |k {j:Nat} {t t':Tree} {ts ts':List Tree} (h:t'=K t) (r:TsK ops fu i K (j+1) ts ts'):TsK ops fu i K j (t::ts) (t'::ts')
 |a {j:Nat} {t t':Tree} {ts ts':List Tree} (h:t'=.any) (r:TsK ops fu i K (j+1) ts ts'):TsK ops fu i K j (t::ts) (t'::ts')
 |i {j:Nat} {t t':Tree} {ts ts':List Tree} (h:j=i) (r:TsK ops fu i K (j+1) ts ts'):TsK ops fu i K j (t::ts) (t'::ts')
 |d {j:Nat} {t t':Tree} {ts ts':List Tree} (h:reach ops fu j i=true) (r:TsK ops fu i K (j+1) ts ts'):TsK ops fu i K j (t::ts) (t'::ts')
def TsK.at{ops:Array Oper}{fu i:Nat}{K:Tree->Tree}:∀{j:Nat} {ts b:List Tree},TsK ops fu i K j ts b->∀q,b.getD q .any=K (ts.getD q .any)\/b.getD q .any=.any\/j+q=i\/reach ops fu (j+q) i=true
 |_,_,_,.nil,q=>.inr (.inl F)
 |_,_,_,.k h _,0=>.inl (by simpa using h)
 |_,_,_,.a h _,0=>.inr (.inl (by simpa using h))
 |_,_,_,.i h _,0=>.inr (.inr (.inl h))
 |_,_,_,.d h _,0=>.inr (.inr (.inr h))
 |j,_,_,.k _ r,q+1=>by have:=r.at q;rw[show j+1+q=j+(q+1) by omega]at this;simpa using this
 |j,_,_,.a _ r,q+1=>by have:=r.at q;rw[show j+1+q=j+(q+1) by omega]at this;simpa using this
 |j,_,_,.i _ r,q+1=>by have:=r.at q;rw[show j+1+q=j+(q+1) by omega]at this;simpa using this
 |j,_,_,.d _ r,q+1=>by have:=r.at q;rw[show j+1+q=j+(q+1) by omega]at this;simpa using this
def PF(i:Nat)(on on':List Nat):Bool:=on'.contains i&&(on.all λj=>on'.contains j)&&on'.all λj=>j==i||on.contains j
def Ff{i:Nat}{d a:List Nat}(h:PF i d a=true)(j:Nat):a.contains j=(j==i||d.contains j):=by
 simp only[PF,Qh]at h;obtain⟨⟨e,f⟩,g⟩:=h;cases b:a.contains j with
 |true=>exact(Qt.1 g j (QX.1 b)).symm
 |false=>
  symm;rw[QD];constructor
  ·cases c:j==i with
   |false=>rfl
   |true=>rw[beq_iff_eq.1 c,e]at b;cases b
  cases c:d.contains j with
  |false=>rfl
  |true=>
   have:=Qt.1 f j (QX.1 c);rw[this]at b;cases b
def TsK.ks {ops : Array Oper} {fu i : Nat} {K : Tree → Tree} : ∀ (m : Nat) {j : Nat} {ts ts' : List Tree} (_ : ts'.take m = (ts.take m).map K) (_ : TsK ops fu i K (j + m) (ts.drop m) (ts'.drop m)), TsK ops fu i K j ts ts'
 | 0, _, _, _, _, r => r
 | m + 1, j, [], [], _, _ => .nil
 | m + 1, j, [], _ :: _, h, _ => by cases h
 | m + 1, j, _ :: _, [], h, _ => by cases h
 | m + 1, j, t :: ts, t' :: ts', h, r => by
  rw [List.take_succ_cons, List.take_succ_cons, List.map_cons] at h
  injection h with h1 h2
  refine .k h1 (TsK.ks m h2 ?_)
  rw [Nat.add_right_comm, Nat.add_assoc]
  exact r
inductive OpC (pn:Nat) (ops:Array Oper) (fu n:Nat) (dsts:List (Option Nat)) (ws:List Nat) (Cs:List Cfg) (i:Nat) (o:Oper) (anc:List Nat):List Cfg->Prop
 |nil:OpC pn ops fu n dsts ws Cs i o anc []
 |no {c:Cfg} {cs:List Cfg} (h:Fe ops fu ws c i=false) (r:OpC pn ops fu n dsts ws Cs i o anc cs):OpC pn ops fu n dsts ws Cs i o anc (c::cs)
 |ok {c:Cfg} {cs:List Cfg} {t:Tree} (hw:ws.contains i=false) (ht:c.ts[i]? =some t) (hg:o.guard=none) (h:OpOK o ⟨n,iD dsts c.ts c.sl anc,c.bs,c.rs⟩ t) (r:OpC pn ops fu n dsts ws Cs i o anc cs):OpC pn ops fu n dsts ws Cs i o anc (c::cs)
 |cnd {c:Cfg} {cs:List Cfg} {t:Tree} (j:Nat) (b:Bool) (gs d:Nat) (C:Prop) [Decidable C] (hw:ws.contains i=false) (hg:o.guard=some (j,b)) (hj:(ops[j]?).bind (·.dst)=some gs) (hgs:Nat.blt gs n=true) (hp:ec gs dsts=some j) (ha:anc.contains j=true) (hr:(!Nat.beq j i&&reach ops fu i j)=true) (hG:∃gv,look (iD dsts c.ts c.sl anc) gs=.sc gv/\(C↔gv=.bool b)) (hd:o.dst=some d) (hdn:Nat.blt d n=true) (ht:c.ts[i]? =some (if C then t else .sc undef)) (h:C->OpOK o ⟨n,iD dsts c.ts c.sl anc,c.bs,c.rs⟩ t) (r:OpC pn ops fu n dsts ws Cs i o anc cs):OpC pn ops fu n dsts ws Cs i o anc (c::cs)
 |wr {c:Cfg} {cs:List Cfg} (m:Nat) {c':Cfg} (K:Tree->Tree) (tt:Tree) (hw:ws.contains i=true) (hm:Cs[m]? =some c') (hg:o.guard=none) (h:zH pn o ⟨n,iD dsts c.ts c.sl anc,c.bs,c.rs⟩ K tt c'.bs c'.rs) (hon:PF i c.on c'.on=true) (hK:K .any=.any) (hsl:c.sl.map (λp=>(p.1,K p.2))=c'.sl) (hti:c'.ts[i]? =some tt) (hts:TsK ops fu i K 0 c.ts c'.ts) (r:OpC pn ops fu n dsts ws Cs i o anc cs):OpC pn ops fu n dsts ws Cs i o anc (c::cs)
inductive StepsW (pn:Nat) (ops:Array Oper) (fu n:Nat) (dsts:List (Option Nat)) (ws:List Nat) (Cs:List Cfg):Nat->List Oper->Prop
 |nil {i:Nat}:StepsW pn ops fu n dsts ws Cs i []
 |op {i:Nat} {o:Oper} {os:List Oper} (anc:List Nat) (hr:vw ops fu dsts i anc o=true) (h:OpC pn ops fu n dsts ws Cs i o anc Cs) (r:StepsW pn ops fu n dsts ws Cs (i+1) os):StepsW pn ops fu n dsts ws Cs i (o::os)
def OpC.nos{b:Nat}{ops:Array Oper}{fu n:Nat}{dsts:List (Option Nat)}{ws:List Nat}{Cs:List Cfg}{i:Nat}{o:Oper}{a:List Nat}:∀{cs:List Cfg} (k:Nat) (_:OpC b ops fu n dsts ws Cs i o a (cs.drop k)) (_:((cs.take k).all λc=> !Fe ops fu ws c i)=true:=by kernel_rfl),OpC b ops fu n dsts ws Cs i o a cs
 |[],k,r,_=>by rwa[List.drop_nil]at r
 |_::_,0,r,_=>r
 |c::cs,k+1,r,h=>by
  rw[RU,Rc,Qh,Re]at h;exact .no h.1 (OpC.nos k r h.2)
def OpC.fin{b:Nat}{ops:Array Oper}{fu n:Nat}{dsts:List (Option Nat)}{ws:List Nat}{Cs cs:List Cfg}{i:Nat}{o:Oper}{a:List Nat}(h:(cs.all λc=> !Fe ops fu ws c i)=true:=by kernel_rfl):OpC b ops fu n dsts ws Cs i o a cs:=
 OpC.nos cs.length (by rw[Ts];exact .nil) (by rw[SA];exact h)
def OpC.okk{d:Nat}{ops:Array Oper}{fu n:Nat}{dsts:List (Option Nat)}{ws:List Nat}{Cs cs:List Cfg}{c:Cfg}{i:Nat}{o:Oper}{a:List Nat}{t:Tree}(e:c.ts[i]? =some t)(h:OpOK o ⟨n,iD dsts c.ts c.sl a,c.bs,c.rs⟩ t)(r:OpC d ops fu n dsts ws Cs i o a cs)(b:(!ws.contains i&&o.guard.isNone)=true:=by kernel_rfl):OpC d ops fu n dsts ws Cs i o a (c::cs):=by
 rw[Qh,Re,Option.isNone_iff_eq_none]at b;exact .ok b.1 e b.2 h r
def StepsW.opp{b:Nat}{ops:Array Oper}{fu n:Nat}{dsts:List (Option Nat)}{ws:List Nat}{Cs:List Cfg}{i:Nat}{o:Oper}{c:List Oper}(a:List Nat)(h:OpC b ops fu n dsts ws Cs i o a Cs)(r:StepsW b ops fu n dsts ws Cs (i+1) c)(d:vw ops fu dsts i a o=true:=by kernel_rfl):StepsW b ops fu n dsts ws Cs i (o::c):=.op a d h r
def Mj(n:Nat)(dsts:List (Option Nat))(ws:List Nat)(Cs:List Cfg)(L:Nat->Bool)(S:St):Prop:=∃c,c∈Cs/\Oi ws c L/\S.n=n/\S.bs=c.bs/\S.rs=c.rs/\∀s,IS dsts c L s=.any\/S.get s=IS dsts c L s
section
variable {w0:World} {G0:Bse} {Q:Exit->St->Prop} {S:St} {ops:Array Oper} {fu n:Nat} {dsts:List (Option Nat)} {ws:List Nat} {Cs:List Cfg} {o:Oper}
def OpOK.up{S S':St}{t:Tree}(h:OpOK o S t)(f:S'.bs=S.bs)(e:S'.rs=S.rs)(g:∀s,(ew o.op).contains s=true->S.get s=.any\/S'.get s=S.get s):OpOK o S' t:=by
 intro w0 G0 bx rv w T d b;rw[f,e]at d;rw[e]at b⊢;refine h w0 G0 bx rv w T d λs c=>?_
 rcases g s c with a|a
 ·rw[a];exact .any _ .nil
 rw[<-a];exact b s c
def Fg{c:Cfg}{L:Nat->Bool}{i:Nat}{a:List Nat}(l:cc n dsts=true)(m:vw ops fu dsts i a o=true)(f:Kn ops L i)(k:∀s,IS dsts c L s=.any\/S.get s=IS dsts c L s)(s:Nat)(p:(ew o.op).contains s=true):(⟨n,iD dsts c.ts c.sl a,c.bs,c.rs⟩:St).get s=.any\/S.get s=(⟨n,iD dsts c.ts c.sl a,c.bs,c.rs⟩:St).get s:=by
 have b:=Qt.1 m s (QX.1 p);have d:=k s;show look (iD dsts c.ts c.sl a) s=.any\/S.get s=look (iD dsts c.ts c.sl a) s
 unfold IS at d;cases e:ec s dsts with
 |none=>
  rw[e]at d;rw[pi e];exact d
 |some j=>
  rw[e]at b d;dsimp only at b d;rw[rp l e];cases h:a.contains j with
  |true=>
   simp only[h,cond_true]at b;simp only[Qh,Re]at b;have g:L j=true:=f.up fu j (by rw[b.1,b.2];rfl);simp only[g,cond_true]at d;simpa using d
  |false=>
   simp only[h,cond_false,Q5]at b;have g:L j=false:=by
    rcases b with b|b
    ·rw[Ql b];exact f.self
    exact f.down fu j b
   simp only[g,cond_false]at d;simpa using d
def Jd{c:Cfg}{L:Nat->Bool}{i:Nat}(a:Oi ws c L)(d:Kn ops L i):Fe ops fu ws c i=true:=by
 unfold Fe;rw[Qh];refine⟨?_,Qt.2 λj k=>?_⟩
 ·cases e:c.on.contains i with
  |false=>rfl
  |true=>
   have:=a.1 i (a.2 i e);rw[d.self,e]at this;cases this
 have b:=QX.2 k;cases h:Nat.beq j i with
 |true=>rfl
 |false=>
  cases f:reach ops fu i j with
  |true=>
   have:=a.1 j b;rw[d.up fu j (by rw[h,f];rfl)]at this;rw[<-this];rfl
  |false=>
   cases g:reach ops fu j i with
   |true=>
    have:=a.1 j b;rw[d.down fu j g]at this;rw[<-this];rfl
   |false=>rfl
def n4(L:Nat->Bool)(i:Nat):IR L i i=true:=by simp[IR]
def rq{L:Nat->Bool}{i j:Nat}(h:j≠i):IR L i j=L j:=by
 unfold IR;cases a:Nat.beq j i with
 |true=>exact absurd (Ql a) h
 |false=>rfl
def Je{ops:Array Oper}{a:List Oper}{d j s:Nat}{t:Tree}{b:Bool}(C:Prop)[Decidable C](f:o.guard=some (j,b))(g:(ops[j]?).bind (·.dst)=some s)(l:Nat.blt s S.n=true)(e:∃c,S.get s=.sc c/\(C↔c=.bool b))(hd:o.dst=some d)(i:Nat.blt d S.n=true)(h:C->OpOK o S t)
  (k:AOps w0 G0 ops a Q (S.put o.dst (if C then t else .sc undef))):AOps w0 G0 ops (o::a) Q S:=by
 obtain⟨n,sl,bs,rs⟩:=S;rw[hd]at k;exact vm C f g l e hd i h k
def Fh(u:cc n dsts=true){i:Nat}{z:List Nat}(a:dsts[i]? =some o.dst)(J:vw ops fu dsts i z o=true){L:Nat->Bool}(B:Kn ops L i)(hS:Mj n dsts ws Cs L S):∀{cs:List Cfg},OpC G0.pn ops fu n dsts ws Cs i o z cs->(∀c,c∈Cs->c∈cs)->AOps w0 G0 ops [o] (λe S'=>e=.normal/\Mj n dsts ws Cs (IR L i) S') S:=by
 obtain⟨c,P,q,E,w,y,l⟩:=hS;have Q:df S.n o.dst=true:=by
  cases hd:o.dst with
  |none=>rfl
  |some d=>
   rw[E];rw[hd]at a;clear J q l B P;induction dsts generalizing i with
   |nil=>simp at a
   |cons x xs ih=>
    cases i with
    |zero=>
     simp only[QV,Qy]at a;subst a;simp only[cc,Qh]at u;simpa[df]using u.1.2
    |succ i=>
     refine ih ?_ (by simpa using a);cases x with
     |none=>exact u
     |some _=>simp only[cc,Qh]at u;exact u.2
 have fin:∀t,ws.contains i=false->c.ts[i]? =some t->Mj n dsts ws Cs (IR L i) (S.put o.dst t):=λt D I=>by
  refine⟨c,P,⟨λj k=>?_,q.2⟩,by rw[dQ];exact E,by rw[dc];exact w,by rw[b6];exact y,λs=>?_⟩
  ·rw[rq (λe=>by rw[e,D]at k;cases k)];exact q.1 j k
  rw[cF];have f:=l s;unfold IS at f⊢;cases r:ec s dsts with
  |none=>
   rw[r]at f;have:o.dst≠some s:=λe=>by
    rw[e]at a;have:=QX.2 (Qo a);rw[f8 r]at this;cases this
   rw[if_neg this];exact f
  |some j=>
   rw[r]at f;dsimp only at f⊢;have k:=eO r;by_cases g:j=i
   ·subst g;rw[k]at a;injection a with a
    rw[if_pos a.symm,n4];right;simp[Qp,I]
   rw[rq g,if_neg (λe=>g (by rw[e]at a;exact ie u k a))];exact f
 have key:∀{cs:List Cfg},OpC G0.pn ops fu n dsts ws Cs i o z cs->c∈cs->AOps w0 G0 ops [o] (λe S'=>e=.normal/\Mj n dsts ws Cs (IR L i) S') S:=by
  intro cs h p;induction h with
  |nil=>cases p
  | @no c1 cs h _ ih=>
   rcases Qw.1 p with rfl|p
   ·rw[Jd q B]at h;cases h
   exact ih p
  | @ok c1 cs t D I hg h _ ih=>
   rcases Qw.1 p with rfl|p
   ·have T:OpOK o S t:=h.up w y (Fg u J B l);exact BA hg Q T (ah ⟨Z,fin t D I⟩)
   exact ih p
  | @cnd c1 cs t j b gs d C dC D hg k hgs r hanc hre hG hd hdl I h _ ih=>
   rcases Qw.1 p with rfl|p
   ·obtain⟨U,v,M⟩:=hG;have F:L j=true:=B.up fu j hre;have N:S.get gs=.sc U:=by
     have f:=l gs;unfold IS at f;rw[r]at f;dsimp only at f;rw[F,cond_true]at f;rw[rp u r,if_pos hanc]at v;rcases f with f|f
     ·rw[f]at v;cases v
     rw[f];exact v
    exact Je C hg k (by rw[E];exact hgs) ⟨U,N,M⟩ hd (by rw[E];exact hdl) (λhC=>(h hC).up w y (Fg u J B l)) (ah ⟨Z,fin _ D I⟩)
   exact ih p
  | @wr c1 cs m c' K tt D hm' hg h hon' hKa hsl' hti hts _ ih=>
   rcases Qw.1 p with rfl|p
   ·obtain⟨S',R,V,W,X,Y⟩:=h w0 G0 S Z E w y (Fg u J B l);refine eA hg R (ah ⟨Z,c',Qo hm',⟨λj k=>?_,λj k=>?_⟩,V.trans E,W,X,λs=>?_⟩)
    ·rw[Ff hon'];by_cases g:j=i
     ·subst g;rw[n4];simp
     rw[rq g,q.1 j k];have:(j==i)=false:=beq_eq_false_iff_ne.2 g;rw[this];rfl
    ·rw[Ff hon',Q5]at k;rcases k with k|k
     ·rw[beq_iff_eq.1 k];exact D
     exact q.2 j k
    rw[Y];have f:=l s;have H:look c'.sl s=K (look c.sl s):=by rw[<-hsl',iV K hKa]
    unfold IS at f⊢;cases r:ec s dsts with
    |none=>
     rw[r]at f;have:o.dst≠some s:=λe=>by
      rw[e]at a;have:=QX.2 (Qo a);rw[f8 r]at this;cases this
     simp only;rw[if_neg this,H];rcases f with f|f
     ·simp only at f;rw[f];exact .inl hKa
     simp only at f;rw[f];exact .inr Z
    |some j=>
     rw[r]at f;have k:=eO r;dsimp only at f⊢;by_cases g:j=i
     ·subst g;rw[k]at a;injection a with a
      rw[if_pos a.symm,n4,cond_true];right;simp[Qp,hti]
     rw[rq g,if_neg (λe=>g (by rw[e]at a;exact ie u k a))];cases F:L j with
     |false=>
      rw[F,cond_false]at f;rw[cond_false,H];rcases f with f|f
      ·rw[f];exact .inl hKa
      rw[f];exact .inr Z
     |true=>
      rw[F,cond_true]at f;rw[cond_true];rcases hts.at j with A|A|A|A
      ·rw[A];rcases f with f|f
       ·rw[f];exact .inl hKa
       rw[f];exact .inr Z
      ·exact .inl A
      ·exact absurd O g
      rw[QT]at A;have:=B.down fu j A;rw[F]at this;cases this
   exact ih p
 intro cs h G;exact key h (G c P)
def StepsW.at(c:cc n dsts=true)(hd:ops.toList.map (·.dst)=dsts):∀{b:List Oper} {i:Nat},StepsW G0.pn ops fu n dsts ws Cs i b->(∀(k:Nat) (o:Oper),b[k]? =some o->ops[i+k]? =some o)->∀(k:Nat) (o:Oper),b[k]? =some o->∀L,Kn ops L (i+k)->∀S,Mj n dsts ws Cs L S->AOps w0 G0 ops [o] (λe S'=>e=.normal/\Mj n dsts ws Cs (IR L (i+k)) S') S
 |_,_,.nil,_,k,o,h,_,_,_,_=>by simp at h
 |_,i,.op anc hr h _,hall,0,o,ho,L,hK,S,hS=>by
  have a:=hall 0 o ho;simp only[QV,Qy]at ho;subst ho;refine Fh c ?_ hr hK hS h (λ_ h=>h);rw[RQ]at a;rw[<-hd,QL,QO,a];rfl
 |_,i,.op _ _ _ r,hall,k+1,o,ho,L,hK,S,hS=>by
  have:=r.at c hd (λq x d=>by have:=hall (q+1) x (by simpa using d);rwa[show i+(q+1)=i+1+q by omega]at this) k o (by simpa using ho) L (by rw[show i+1+k=i+(k+1) by omega];exact hK) S hS;rw[show i+1+k=i+(k+1) by omega]at this;exact this
def Sim.leG{S':St}{a:Act}{w:World}(h:Sim w0 G0 S a w)(k:S'.n=S.n)(g:S'.bs=S.bs)(f:S'.rs=S.rs)(l:∀s,S'.get s=.any\/S'.get s=S.get s):Sim w0 G0 S' a w:=by
 obtain⟨bx,rv,j,e,c,d⟩:=h;refine⟨bx,rv,by rw[g,f];exact j,by rw[k];exact e,c,λi=>?_⟩;rw[f];rcases l i with b|b
 ·rw[b];exact .any _ .nil
 rw[b];exact d i
def l8{s:Nat}:∀(ds:List (Option Nat)) (ts:List Tree) (sl:List (Nat×Tree)),ec s ds=none->look (iC sl ds ts) s=look sl s
 |[],ts,sl,_=>by cases sl<;>rfl
 |some d::ds,[],sl,_=>rfl
 |none::ds,[],sl,_=>rfl
 |some d::ds,t::ts,sl,h=>by
  simp only[ec]at h;split at h
  ·cases h
  next hne=>
  simp only[ST]at h;simp only[iC];rw[l8 ds ts _ h,cK,if_neg (λe=>hne (by rw[e]))]
 |none::ds,t::ts,sl,h=>by
  simp only[ec]at h;split at h
  ·cases h
  simp only[ST]at h;simp only[iC];exact l8 ds ts _ h
def ru{s n:Nat}:∀(ds:List (Option Nat)) (ts:List Tree) (sl:List (Nat×Tree)) (j:Nat),cc n ds=true->ds.length=ts.length->ec s ds=some j->look (iC sl ds ts) s=ts.getD j .any
 |[],ts,sl,j,_,_,h=>by simp[ec]at h
 |some d::ds,[],sl,j,_,hl,_=>by simp at hl
 |none::ds,[],sl,j,_,hl,_=>by simp at hl
 |some d::ds,t::ts,sl,j,ha,hl,h=>by
  simp only[cc,Qh,Re]at ha;simp only[ec]at h;simp only[iC];split at h
  ·next a=>
   cases h;injection a with a
   subst a;have:ec d ds=none:=by
    cases c:ec d ds with
    |none=>rfl
    |some q=>
     have:=QX.2 (Qo (eO c));rw[ha.1.1]at this;cases this
   rw[l8 ds ts _ this,cK,if_pos Z];rfl
  simp only[Q4]at h;obtain⟨q,b,rfl⟩:=h;rw[ru ds ts _ q ha.2 (by simpa using hl) b];simp
 |none::ds,t::ts,sl,j,ha,hl,h=>by
  simp only[ec]at h;simp only[iC];split at h
  ·next a=>cases a
  simp only[Q4]at h;obtain⟨q,b,rfl⟩:=h;rw[ru ds ts _ q ha (by simpa using hl) b];simp
def iN{id fu n:Nat}{ops:List Oper}{sl sl':List (Nat×Tree)}{bs:List (TypeId×List Tree)}{rs:List (Option Row)}(dsts:List (Option Nat))(ws:List Nat)(ts:List Tree)(A:List Cfg)(g:Cfg)(E:d7 ops.toArray=true)(hd:ops.map (·.dst)=dsts)(q:cc n dsts=true)(T:(ws.all λj=>Nat.blt j ops.length)=true)(C:((⟨[],sl,bs,rs,ts⟩::A).all λc=> !(ws.all λj=>c.on.contains j))=true)(t:dsts.length=g.ts.length)(p:iC g.sl dsts g.ts=sl')
  (hs:StepsW G0.pn ops.toArray fu n dsts ws ((⟨[],sl,bs,rs,ts⟩::A)++[g]) 0 ops) (k:Q .normal ⟨n,sl',g.bs,g.rs⟩):AWP w0 G0 (.region id ops.toArray true) Q ⟨n,sl,bs,rs⟩:=by
 subst p;intro a w d;refine fH (λL a W=>L.size=ops.toArray.size/\Closed ops.toArray L/\∃S,Mj n dsts ws ((⟨[],sl,bs,rs,ts⟩::A)++[g]) (λj=>L.getD j false) S/\Sim w0 G0 S a W) U E ⟨F,gr _,⟨n,sl,bs,rs⟩,?_,d.drew⟩ ?_ ?_
 ·have:(λj=>(Array.replicate ops.toArray.size false).getD j false)=λ_=>false:=by
   funext j;cases h:(Array.replicate ops.toArray.size false).getD j false with
   |false=>rfl
   |true=>exact absurd h ko
  rw[this];refine⟨⟨[],sl,bs,rs,ts⟩,F,⟨λj b=>rfl,λj b=>by simp at b⟩,Z,Z,Z,λs=>?_⟩;right;unfold IS;split<;>rfl
 ·rintro L a W i o B f z V ⟨_,r,S,Y,d⟩;have hi:i<ops.toArray.size:=(QK.1 z).1;have y:L.getD i false=false:=getD_both f;have R:∀n j,j≠i->reach ops.toArray n i j=true->L.getD j false=true:=λn j b N=>by
   have H:=r.step z V;have:=H.reach n i j N (d8 O);rwa[bU (λe=>b e.symm)]at this
  have K:∀n j,reach ops.toArray n j i=true->L.getD j false=false:=λn j N=>by
   cases hl:L.getD j false with
   |false=>rfl
   |true=>
    have:=r.reach n j i N hl;rw[y]at this;cases this
  have X:Kn ops.toArray (λj=>L.getD j false) i:=⟨y,λn j b=>by
   simp only[Qh,Re]at b;exact R n j (λe=>by subst e;simp at b) b.2,K⟩
  have x:=hs.at (w0:=w0) (G0:=G0) q (by simpa using hd) (λk o ho=>by simpa using ho) i o (by simpa using z) (λj=>L.getD j false) (by rw[QT];exact X) S Y a W d;rw[QT]at x;refine zG ?_ x;rintro e a' W' ⟨S',⟨rfl,D⟩,m⟩;refine⟨by simpa using B,r.step z V,S',?_,m⟩;have:(λj=>(L.setIfInBounds i true).getD j false)=IR (λj=>L.getD j false) i:=by
   funext j;by_cases b:j=i
   ·subst b;rw[d8 O,n4]
   rw[bU (λe=>b e.symm),rq b]
  rw[this];exact D
 rintro L a W B ⟨_,_,S,⟨c,r,M,hn,G,P,p⟩,d⟩;have l:∀j,j<ops.length->L.getD j false=true:=λj b=>B j (by simpa using b)
 have I:c=g:=by
  rcases Q6.1 r with h|h
  ·have:=Qt.1 C c h;simp only[Re]at this;rw[TS]at this;obtain⟨j,b,J⟩:=this;have:=M.1 j (QX.2 b);have u:=Qt.1 T j b;rw[Q7]at u;simp only[l j u]at this;exact absurd this.symm J
  exact QP.1 h
 subst I;refine⟨_,k,d.leG hn.symm G.symm P.symm λs=>?_⟩;have f:=p s;show look (iC c.sl dsts c.ts) s=.any\/look (iC c.sl dsts c.ts) s=S.get s
 unfold IS at f;cases v:ec s dsts with
 |none=>
  rw[v]at f;rw[l8 _ _ _ v];exact f.imp (λh=>h) Eq.symm
 |some j=>
  rw[v]at f;dsimp only at f;rw[ru _ _ _ j q t v];have b:=(Qm.1 (eO v)).1;have:L.getD j false=true:=l j (by rw[<-hd]at b;simpa using b);simp only[this,cond_true]at f;exact f.imp (λh=>h) Eq.symm
end
def ft{w0:World}{G0:Bse}{c:Code}{Q:Exit->St->Prop}{n:Nat}{sl sl':List (Nat×Tree)}{bs:List (TypeId×List Tree)}{rs:List (Option Row)}(b:KeepsP ⟨n,sl,bs,rs⟩ sl')(h:AWP w0 G0 c Q ⟨n,sl',bs,rs⟩):AWP w0 G0 c Q ⟨n,sl,bs,rs⟩:=λa w d=>h a w (d.leP ⟨Z,Z,Z,b⟩)
def rx{S a:St}{op:Op}{x:Operand}{t:Tree}(d:∀s,(ew op).contains s=true->a.get s=.any\/S.get s=a.get s)(i:x∈op.operands.toList)(h:a.ev x=t)(e:t≠ .any):S.ev x=t:=by
 cases x with
 |tmp s=>
  have c:(ew op).contains s=true:=QX.2 (Sa.2 ⟨_,i,Z⟩);rcases d s c with b|b
  ·exact absurd (h.symm.trans b) e
  exact b.trans h
 |const v=>exact h
 |global g=>exact h
 |func f=>exact h
def d5{I:Nat}{o:Oper}{n d k m b:Nat}{sl:List (Nat×Tree)}{bs bs':List (TypeId×List Tree)}{rs rs':List (Option Row)}{x y:Operand}{t:TypeId}{R:Row}{a:List Tree}(h:o.op=.call {callee:=.builtin .append,args:=#[x,y],argTypes:=#[t,t]})(hd:o.dst=some d)(C:Nat.blt d n=true)(E:nY prog t=some (R.e,R.sz,b))(G:St.ev ⟨n,sl,bs,rs⟩ x=.own k)(A:rs[k]? =some (some R))(H:St.ev ⟨n,sl,bs,rs⟩ y=.sl a)(B:R.sz=m)(D:Sized m a)(u:AllC Tree.one a)(v:AllC Tree.noDig a)(w:R.es.length+a.length<=1073741824)(z:Nat.ble b 100000=true)(g:bs.map (λp=>(p.1,p.2.map (iy k)))=bs')(i:rs.set k (some ⟨R.e,R.sz,R.es++a,false⟩)=rs'):zH I o ⟨n,sl,bs,rs⟩ (gJ k) (.own k) bs' rs':=by
 subst B g i;intro w0 G0 S J q r f c;dsimp only at q r f;have j:=rx c (by rw[h];simp[Op.operands,Call.operands]) G F;have l:=rx c (by rw[h];simp[Op.operands,Call.operands]) H F;refine⟨_,uf (S:=S) h (by rw[hd,q];simpa[df,Q7]using C) E j (by rw[f];exact A) l D u v w (by simpa using z),by rw[dQ];rfl,by rw[dc,<-r];rfl,by rw[b6];dsimp only;rw[f],λs=>?_⟩;rw[cF];split
 ·rfl
 exact pM S k s
def gt{A:Nat}{o:Oper}{n b off m:Nat}{sl:List (Nat×Tree)}{bs bs':List (TypeId×List Tree)}{rs:List (Option Row)}{ty j:TypeId}{x y:Operand}{cs:List Tree}{t:Tree}(g:o.op=.store ty x y)(a:o.dst=none)(z:St.ev ⟨n,sl,bs,rs⟩ x=.box b off)(u:bs[b]? =some (j,cs))(w:St.ev ⟨n,sl,bs,rs⟩ y=t)(l:t.oneA=true)(q:t.cells.all Tree.one=true)(r:t.cells.all Tree.noDig=true)(v:(prog.info? ty).map (·.size)=some m)(hl:t.cells.length=m)(f:Nat.ble (off+m) cs.length=true)(e:bs.set b (j,EY cs off t)=bs'):zH A o ⟨n,sl,bs,rs⟩ id .any bs' rs:=by
 subst e;intro w0 G0 S B p d k c;dsimp only at p d k;have h:=rx c (by rw[g];simp[Op.operands]) z F;have i:=rx c (by rw[g];simp[Op.operands]) w (by rintro rfl;simp[Tree.oneA,Tree.one]at l);refine⟨_,kv (S:=S) g a h (by rw[d];exact u) i l q r v hl (by simpa using f),Z,by rw[d],k,λs=>?_⟩;rw[a,if_neg F];rfl
def ry{q:Nat}{o:Oper}{n d b:Nat}{sl:List (Nat×Tree)}{bs bs':List (TypeId×List Tree)}{rs:List (Option Row)}{ty:TypeId}{e:List Value}{cs:List Tree}(l:o.op=.alloc ty)(hd:o.dst=some d)(k:Nat.blt d n=true)(p:gn prog ty=some e)(h:e.all cj=true)(j:e.map c7=cs)(i:bs.length=b)(c:bs++[(ty,cs)]=bs'):zH q o ⟨n,sl,bs,rs⟩ id (.box b 0) bs' rs:=by
 subst j i c;intro w0 G0 S r f a g m;dsimp only at f a g;refine⟨_,rg (S:=S) l (by rw[hd,f];simpa[df,Q7]using k) p h,by rw[dQ],by rw[dc,a],by rw[b6,g],λs=>?_⟩;rw[cF,a];rfl
def Oj(p:List (Nat×Tree))(ts:List Tree):List Tree:=p.foldl (λl q=>l.set q.1 q.2) ts
def Ol(sl:List (Nat×Tree))(ts:List Tree)(c:List Nat×List (TypeId×List Tree)×List (Option Row)×List (Nat×Tree)):Cfg:=⟨c.1,sl,c.2.1,c.2.2.1,Oj c.2.2.2 ts⟩
def gd{w0:World}{G0:Bse}{Q:Exit->St->Prop}{id fu n:Nat}{ops:List Oper}{sl sl':List (Nat×Tree)}{bs:List (TypeId×List Tree)}{rs:List (Option Row)}(a:List (Option Nat))(e:List Nat)(ts:List Tree)(p:List (List Nat×List (TypeId×List Tree)×List (Option Row)×List (Nat×Tree)))(q:List Nat)(f:List (TypeId×List Tree))(o:List (Option Row))(d:List (Nat×Tree))(h:d7 ops.toArray=true)(hd:ops.map (·.dst)=a)(i:cc n a=true)(m:(e.all λj=>Nat.blt j ops.length)=true)(g:((⟨[],sl,bs,rs,ts⟩::p.map (Ol sl ts)).all λc=> !(e.all λj=>c.on.contains j))=true)(b:a.length=(Oj d ts).length)(l:iC sl a (Oj d ts)=sl')
  (r:StepsW G0.pn ops.toArray fu n a e ((⟨[],sl,bs,rs,ts⟩::p.map (Ol sl ts))++[⟨q,sl,f,o,Oj d ts⟩]) 0 ops) (k:Q .normal ⟨n,sl',f,o⟩):AWP w0 G0 (.region id ops.toArray true) Q ⟨n,sl,bs,rs⟩:=iN a e ts _ ⟨q,sl,f,o,Oj d ts⟩ h hd i m g b l r k
section
variable {w0:World} {G0:Bse} {S:St} {o:Oper}
end
def Fi{w:World}{base a:Nat}{e:TypeId}{size n:Nat}{v:Value}{xs:List Value}(h:w.ownsRow base e size v n xs)(j:a<=base):w.ownsRow a e size v n xs:=by
 obtain⟨f,i⟩:=h;refine⟨f,i.imp (λh=>h) ?_⟩;rintro⟨g,cap,cur,b,c,d⟩;exact⟨g,cap,cur,b,Qu j c,d⟩
section
variable {w0:World} {G0:Bse} {S:St} {o:Oper}
def mK{bx:List Nat}{rv:List Value}{rs:List (Option Row)}{v:Value}{R:Row}(a:rv.length=rs.length)(b:Nat):b∈bX bx (rv++[v]) (rs++[some R])↔b∈bX bx rv rs\/v.ownBlock=some b:=by
 rw[aN,aN];constructor
 ·rintro(h|⟨j,u,X,c,d,e⟩)
  ·exact .inl (.inl h)
  rcases cG a j u X c d with⟨_,rfl,_⟩|⟨_,f,g⟩
  ·exact .inr e
  exact .inl (.inr ⟨j,u,X,f,g,e⟩)
 rintro((h|⟨j,u,X,c,d,e⟩)|h)
 ·exact .inl h
 ·have i:=(Qm.1 c).1;have k:=(Qm.1 d).1;exact .inr ⟨j,u,X,by rw[Qv i];exact c,by rw[Qv k];exact d,e⟩
 exact .inr ⟨rs.length,v,R,by rw[Qx O,a,RI];rfl,by rw[Qx (Qi _),RI];rfl,h⟩
def Mem.addRow{w w':World}{bs:List (TypeId×List Tree)}{rs:List (Option Row)}{bx:List Nat}{rv:List Value}{v:Value}{R:Row}{xs:List Value}(h:Mem w0 G0 bs rs bx rv w)(o:Below w.heap.size w w')(M:w'.ownsRow w.heap.size R.e R.sz v R.es.length xs)(V:PT w' (λb=>GG G0 bx rv rs b\/v.ownBlock=some b) xs (flat R.es))(F:Sized R.sz R.es/\(R.tt=true->qY v))(hd:∀g,v.ownBlock=some g->NoDigB w' g):
  Mem w0 G0 bs (rs++[some R]) bx (rv++[v]) w'/\(∀us ts,FT (en w G0 bx rv rs) us ts->FT (en w' G0 bx (rv++[v]) (rs++[some R])) us ts):=by
 have c:=h.nr;have K:∀b,GG G0 bx (rv++[v]) (rs++[some R]) b↔(GG G0 bx rv rs b\/v.ownBlock=some b):=λb=>by
  unfold GG;rw[mK c,or_assoc]
 have a:∀b,v.ownBlock=some b->w.heap.size<=b:=λb e=>(M.lt b e).1
 have f:∀b,b<w.heap.size->¬GG G0 bx rv rs b->w'.heap[b]? =w.heap[b]? /\¬GG G0 bx (rv++[v]) (rs++[some R]) b:=λb D U=>⟨o.block b D,λx=>by
  rcases(K b).1 x with d|d
  ·exact U d
  have:=a b d;omega⟩
 have E:∀j u,dX rv rs j=some u->dX (rv++[v]) (rs++[some R]) j=some u:=λj u h=>by
  unfold dX at h⊢;cases y:rs[j]? with
  |none=>simp[y]at h
  |some r=>
   have hl:=(Qm.1 y).1;rw[Qv hl,Qv O];exact h
 have q:∀us ts,FT (en w G0 bx rv rs) us ts->FT (en w' G0 bx (rv++[v]) (rs++[some R])) us ts:=λus ts S=>S.mono (E':=en w' G0 bx (rv++[v]) (rs++[some R])) o.size f (λ_ _ h=>h) E
 have T:=h.below.size;refine⟨⟨h.below.then o,h.env0,h.g0,h.nb,by simp[c],λi g C=>?_,λj u X d k=>?_,⟨h.nodup.bb,λj u X b d k m L=>?_,λi j u t X Y b s d k m l n p=>?_⟩,λb B=>?_,h.pin⟩,q⟩
 ·obtain⟨ty,cs,us,d,k,m,l⟩:=h.box i g C;exact⟨ty,cs,us,d,k.below o k.lt,q _ _ m,l⟩
 ·rcases cG c j u X d k with⟨_,rfl,rfl⟩|⟨_,l,n⟩
  ·exact⟨xs,Fi M (QF _),by rw[show GG G0 bx (rv++[u]) (rs++[some X])=(λb=>GG G0 bx rv rs b\/u.ownBlock=some b)from funext λb=>propext (K b)];exact V,F,hd⟩
  obtain⟨W,p,N,P,Q⟩:=h.row j u X l n;exact⟨W,lU p o,N.mono o.size f,P,λg x=>(Q g x).of (o.block g (p.lt g x).2)⟩
 ·rcases cG c j u X d k with⟨_,rfl,_⟩|⟨_,l,n⟩
  ·have I:=a b m;have J:=(h.ok b (.inr (aN.2 (.inl L)))).1;omega
  exact h.nodup.br j u X b l n m L
 ·rcases cG c i u X d k with⟨C,rfl,_⟩|⟨_,G,H⟩
  ·rcases cG c j t Y m l with⟨y,_,_⟩|⟨_,z,A⟩
   ·exact s (C.trans y.symm)
   have I:=a b n;have J:=(h.ok b (.inr (aN.2 (.inr ⟨j,t,Y,z,A,p⟩)))).1;omega
  rcases cG c j t Y m l with⟨_,rfl,_⟩|⟨_,z,A⟩
  ·have I:=a b p;have J:=(h.ok b (.inr (aN.2 (.inr ⟨i,u,X,G,H,n⟩)))).1;omega
  exact h.nodup.rr i j u t X Y b s G H z A n p
 rcases(mK c b).1 B with d|d
 ·exact h.ge b d
 have:=a b d;exact .inl O
def BN{a:Act}{w':World}{bx:List Nat}{rv:List Value}{v:Value}{R:Row}{d:Nat}{S:St}(b:a.tmps.size=S.n)(e:a.defers=[])(hd:df S.n o.dst=true)(f:rv.length=S.rs.length)(j:Mem w0 G0 S.bs (S.rs++[some R]) bx (rv++[v]) w')(k:∃A n c,v=.slice A n c)(g:∀i,FT (en w' G0 bx (rv++[v]) (S.rs++[some R])) [a.tmps.getD i undef] [S.get i])(h:S.rs.length=d):
  Sim w0 G0 ({S with rs:=S.rs++[some R]}.put o.dst (.own d)) (a.put o.dst v) w':=by
 subst h;refine⟨bx,rv++[v],by rw[dc,b6];exact j,by rw[d9,dQ];exact b,by rw[c6,e],λi=>?_⟩;rw[b6];rw[fL a o.dst v S.n b hd,cF];split
 ·obtain⟨A,n,c,rfl⟩:=k;refine .own _ n c A ?_ .nil;show dX (rv++[_]) (S.rs++[some R]) S.rs.length=_
  unfold dX;rw[Qx (Qi _),RI,Qx O,f,RI];rfl
 exact g i
end
section
variable {w0 w:World} {G0:Bse} {bs:List (TypeId×List Tree)} {rs:List (Option Row)} {bx:List Nat} {rv:List Value} {k:Nat} {R:Row} {v:Value}
end
section
variable {w0:World} {G0:Bse} {ops:Array Oper} {rest:List Oper} {Q:Exit->St->Prop} {o:Oper} {n:Nat} {sl:List (Nat×Tree)} {bs:List (TypeId×List Tree)} {rs:List (Option Row)} {S:St}
end
def rz(m:Nat):Tree->Tree
 | .box b off=>if b=m then .box (m+1) off else if b=m+1 then .box m off else .box b off
 | .agg _| .tup _=>.any
 |t=>t
def Mk(m:Nat):Tree->Tree
 | .agg cs=>.agg (cs.map (rz m))
 |t=>rz m t
section
variable {w0 w:World} {G0:Bse} {bs:List (TypeId×List Tree)} {rs:List (Option Row)} {bx:List Nat} {rv:List Value} {g1 g2:Nat}
def Ml{α:Type}{l:List α}{x y z:α}{i m:Nat}(hl:l.length=m)(h:(l++[x,y])[i]? =some z):(i=m/\z=x)\/(i=m+1/\z=y)\/(i<m/\l[i]? =some z):=by
 subst hl;rcases Rm i l.length with a|a
 ·rw[Qv a]at h;exact .inr (.inr ⟨a,h⟩)
 rw[Qx a]at h;have c:=(Qm.1 h).1;simp only[Qn,QC]at c;have:i-l.length=0\/i-l.length=1:=O
 rcases this with b|b<;>rw[b]at h<;>simp at h
 ·exact .inl ⟨O,h.symm⟩
 exact .inr (.inl ⟨O,h.symm⟩)
def Fj{α:Type}{l:List α}{x y z:α}{i m:Nat}(hl:l.length=m)(h:(l++[x,y])[i]? =some z):(l++[y,x])[if i=m then m+1 else if i=m+1 then m else i]? =some z:=by
 rcases Ml hl h with⟨rfl,rfl⟩|⟨rfl,rfl⟩|⟨b,a⟩
 ·rw[if_pos Z,Qx O,show i+1-l.length=1 by omega];rfl
 ·rw[if_neg O,if_pos Z,Qx O,show m-l.length=0 by omega];rfl
 rw[if_neg O,if_neg O,Qv O];exact a
def pj(b:Nat):b∈bX (bx++[g2,g1]) rv rs↔b∈bX (bx++[g1,g2]) rv rs:=by
 rw[aN,aN];refine or_congr ?_ TA;simp only[Q6,Qw,SX,or_false];constructor<;>(rintro(h|h|h)<;>simp[h])
def Fk{m:Nat}(hl:bx.length=m){u:Value}{t:Tree}(h:FT (en w G0 (bx++[g1,g2]) rv rs) [u] [t]):FT (en w G0 (bx++[g2,g1]) rv rs) [u] [rz m t]:=by
 have i:GG G0 (bx++[g2,g1]) rv rs=GG G0 (bx++[g1,g2]) rv rs:=funext λb=>propext (or_congr TA (pj b))
 cases h with
 |pure h _=>
  have f:PT (en w G0 (bx++[g2,g1]) rv rs).W (en w G0 (bx++[g2,g1]) rv rs).G [u] [t]:=by
   show PT w (GG G0 (bx++[g2,g1]) rv rs) [u] [t]
   rw[i];exact h
  cases t<;>first
   |exact .pure f .nil
   |(simp only[rz];exact .any _ .nil)
   |(cases h)
 |any=>exact .any _ .nil
 |box b off g h _=>
  have h:(bx++[g1,g2])[b]? =some g:=h;have a:=Fj hl h;simp only[rz];by_cases d:b=m
  ·rw[if_pos d]at a⊢;exact .box _ off g a .nil
  by_cases e:b=m+1
  ·rw[if_neg d,if_pos e]at a⊢;exact .box _ off g a .nil
  rw[if_neg d,if_neg e]at a⊢;exact .box _ off g a .nil
 |own j n c A hv _=>exact .own j n c A hv .nil
 |elp j off g n c hv _=>exact .elp j off g n c hv .nil
 |agg=>exact .any _ .nil
 |tup=>exact .any _ .nil
def vz{m:Nat}(hl:bx.length=m):∀{us:List Value} {ts:List Tree},FT (en w G0 (bx++[g1,g2]) rv rs) us ts->FT (en w G0 (bx++[g2,g1]) rv rs) us (ts.map (rz m))
 |[],[],_=>.nil
 |[],_::_,h=>by cases h
 |_::_,[],h=>by cases h
 |u::us,t::ts,h=>FT.cons (Fk hl h.head) (vz hl h.tail)
def Om{m:Nat}(hl:bx.length=m){u:Value}{t:Tree}(h:FT (en w G0 (bx++[g1,g2]) rv rs) [u] [t]):FT (en w G0 (bx++[g2,g1]) rv rs) [u] [Mk m t]:=by
 cases t with
 |agg cs=>
  obtain⟨xs,rfl,a⟩:=h.isAgg;exact .agg xs _ (vz hl a) .nil
 |_=>exact Fk hl h
def Mm{S S':St}{a:Act}{m:Nat}{p:List (TypeId×List Tree)}{x y:TypeId×List Tree}(h:Sim w0 G0 S a w)(F:p.length=m)(K:S.bs=p++[x,y])(M:S'.n=S.n)(u:S'.bs=(p++[y,x]).map λq=>(q.1,q.2.map (rz m)))(j:S'.rs=S.rs)(P:∀s,S'.get s=Mk m (S.get s))(N:G0.pn<=m):Sim w0 G0 S' a w:=by
 obtain⟨bx,rv,c,H,D,G⟩:=h;have L:bx.length=m+2:=by rw[c.nb,K];simp[F]
 obtain⟨l,g1,g2,rfl,hl⟩:∃l g1 g2,bx=l++[g1,g2]/\l.length=m:=by
  refine⟨bx.take m,bx[m],bx[m+1],?_,by simp;omega⟩;conv=>lhs;rw[<-R3 m bx]
  congr 1;rw[Q3 O,Q3 O,Q1 O]
 refine⟨l++[g2,g1],rv,⟨c.below,c.env0,c.g0,by rw[u];simp[hl,F],by rw[j];exact c.nr,λi g E=>?_,λk v R I t=>?_,⟨?_,λk v R b I t d f=>?_,by rw[j];exact c.nodup.rr⟩,λb d=>?_,λi E=>by have o:=c.pin i E;rw[Qv O]at o⊢;exact o⟩,by rw[M];exact H,D,λi=>?_⟩
 ·obtain⟨ty,cs,us,o,A,B,C⟩:=c.box _ g (Fj hl E);rw[K]at o;have J:=Fj F o;have e:(if(if i=m then m+1 else if i=m+1 then m else i)=m then m+1 else if(if i=m then m+1 else if i=m+1 then m else i)=m+1 then m else(if i=m then m+1 else if i=m+1 then m else i))=i:=by
   by_cases r:i=m
   ·rw[if_pos r,if_neg O,if_pos Z,r]
   by_cases z:i=m+1
   ·rw[if_neg r,if_pos z,if_pos Z,z]
   rw[if_neg r,if_neg z,if_neg r,if_neg z]
  rw[e]at J;refine⟨ty,cs.map (rz m),us,by rw[u,QL,J];rfl,A,?_,C⟩;rw[j];exact vz hl B
 ·rw[j]at t;obtain⟨xs,o,A,B,C⟩:=c.row k v R I t;refine⟨xs,o,?_,B,C⟩;rw[j,show GG G0 (l++[g2,g1]) rv S.rs=GG G0 (l++[g1,g2]) rv S.rs from funext λb=>propext (or_congr TA (pj b))];exact A
 ·have:=c.nodup.bb;refine this.perm<|List.Perm.append_left l (List.Perm.swap g2 g1 [])
 ·rw[j]at t;refine c.nodup.br k v R b I t d ?_;simp only[Q6,Qw,SX,or_false]at f⊢;rcases f with h|h|h
  ·exact .inl h
  ·exact .inr (.inr h)
  exact .inr (.inl h)
 ·rw[j]at d;exact c.ge b ((pj b).1 d)
 rw[j,P];exact Om hl (G i)
end
def zI{k:Nat}{o:Oper}{n d b:Nat}{sl:List (Nat×Tree)}{p bs':List (TypeId×List Tree)}{y:TypeId×List Tree}{rs:List (Option Row)}{ty:TypeId}{e:List Value}{cs:List Tree}(x:o.op=.alloc ty)(hd:o.dst=some d)(u:Nat.blt d n=true)(B:gn prog ty=some e)(m:e.all cj=true)(t:e.map c7=cs)(r:p.length=b)(c:((p++[(ty,cs),y]).map λq=>(q.1,q.2.map (rz b)))=bs')(g:k<=b:=by first|exact QF _|exact Nat.le_of_ble_eq_true Z):zH k o ⟨n,sl,p++[y],rs⟩ (Mk b) (.box b 0) bs' rs:=by
 subst t r c;intro w0 G0 S l i f j A;dsimp only at i f j;have c:S.bs++[(ty,e.map c7)]=p++[y,(ty,e.map c7)]:=by rw[f];simp
 refine⟨⟨S.n,(d,.box p.length 0)::S.sl.map (λq=>(q.1,Mk p.length q.2)),(p++[(ty,e.map c7),y]).map λq=>(q.1,q.2.map (rz p.length)),S.rs⟩,?_,Z,Z,j,λs=>?_⟩
 ·intro a w z;refine OpRuns.mono (rg (S:=S) x (by rw[hd,i];simpa[df,Q7]using u) B m a w z) λv W h=>?_
  refine Mm h Z (by rw[dc];exact c) (by rw[dQ]) Z (by rw[b6]) (λs=>?_) (by rw[l];exact g);rw[cF,hd];show look ((d,Tree.box p.length 0)::_) s=_
  rw[cK,iV _ Z];simp only[Qy];split
  ·have:S.bs.length=p.length+1:=by rw[f];simp
   show _=Mk _ (Tree.box S.bs.length 0)
   rw[this];simp[Mk,rz]
  rfl
 show look ((d,Tree.box p.length 0)::_) s=_
 rw[cK,iV _ Z,hd];simp only[Qy];rfl
