import Derived.Test.YtfoejfohbkmmeaaGreatDoorK07
set_option linter.defProp false
open Go.Proofs.Tryz
namespace Go.Proofs.YtfoejfohbkmmeaaGreatDoor
open Go.RowKit
open Lib renaming hid→J
structure Cfg where
 on:List Nat
 sl:List (Nat×Tree)
 bs:List (TypeId×List Tree)
 rs:List (Option Row)
 ts:List Tree
def L0(dsts:List (Option Nat))(c:Cfg)(L:Nat->Bool)(s:Nat):Tree:=
 match fD s dsts with
 |none=>look c.sl s
 |some j=>cond (L j) (c.ts.getD j .any) (look c.sl s)
def j4(dsts:List (Option Nat))(ts:List Tree)(sl:List (Nat×Tree)):List Nat->List (Nat×Tree)
 |[]=>sl
 |j::js=>match dsts[j]? with
  |some (some d)=>(d,ts.getD j .any)::j4 dsts ts sl js
  |_=>j4 dsts ts sl js
def sn{dsts:List (Option Nat)}{ts:List Tree}{sl:List (Nat×Tree)}{s:Nat}(h:fD s dsts=none):∀anc,look (j4 dsts ts sl anc) s=look sl s
 |[]=>rfl
 |j::js=>by
  simp only[j4];split
  ·next d hd=>
   rw[dX,if_neg,sn h js];rintro rfl;have:=RX.2 (Q8 hd);rw[gW h]at this;cases this
  exact sn h js
def uF{dsts:List (Option Nat)}{ts:List Tree}{sl:List (Nat×Tree)}{s j n:Nat}(b:cD n dsts=true)(h:fD s dsts=some j):∀anc,look (j4 dsts ts sl anc) s=if anc.contains j then ts.getD j .any else look sl s
 |[]=>by simp[j4]
 |i::js=>by
  have f:=uF (ts:=ts) (sl:=sl) b h js;simp only[j4];have c:=fQ h;by_cases a:i=j
  ·subst a;simp only[c,dX];simp
  have g:(i::js).contains j=js.contains j:=by
   rw[T3,show(j==i)=false from beq_eq_false_iff_ne.2 λe=>a e.symm,Vt]
  rw[g];split
  ·next d hd=>
   rw[dX,if_neg,f];rintro rfl;exact a (iS b hd c)
  exact f
def zO(ops:Array Oper)(fu:Nat)(dsts:List (Option Nat))(i:Nat)(anc:List Nat)(o:Oper):Bool:=(fd o.op).all λs=>match fD s dsts with
 |none=>true
 |some j=>cond (anc.contains j) (!Nat.beq j i&&reach ops fu i j) (Nat.beq j i||reach ops fu j i)
def Jl(ops:Array Oper)(fu:Nat)(ws:List Nat)(c:Cfg)(i:Nat):Bool:= !c.on.contains i&&ws.all λj=>Nat.beq j i||cond (reach ops fu i j) (c.on.contains j) (cond (reach ops fu j i) (!c.on.contains j) true)
def Ps(ws:List Nat)(c:Cfg)(L:Nat->Bool):Prop:=(∀j,ws.contains j=true->L j=c.on.contains j)/\∀j,c.on.contains j=true->ws.contains j=true
def xz(pn:Nat)(o:Oper)(S0:St)(K:Tree->Tree)(tt:Tree)(bs':List (TypeId×List Tree))(rs':List (Option Row)):Prop:=∀w0 (G0:Bse) (S:St),G0.pn=pn->S.n=S0.n->S.bs=S0.bs->S.rs=S0.rs->(∀s,(fd o.op).contains s=true->S0.get s=.any\/S.get s=S0.get s)->
 ∃S',lM w0 G0 o S S'/\S'.n=S.n/\S'.bs=bs'/\S'.rs=rs'/\∀s,S'.get s=if o.dst=some s then tt else K (S.get s)
inductive TsK (ops:Array Oper) (fu i:Nat) (K:Tree->Tree):Nat->List Tree->List Tree->Prop
 |nil {j:Nat}:TsK ops fu i K j [] []
 |k {j:Nat} {t t':Tree} {ts ts':List Tree} (h:t'=K t) (r:TsK ops fu i K (j+1) ts ts'):TsK ops fu i K j (t::ts) (t'::ts')
 |a {j:Nat} {t t':Tree} {ts ts':List Tree} (h:t'=.any) (r:TsK ops fu i K (j+1) ts ts'):TsK ops fu i K j (t::ts) (t'::ts')
 |i {j:Nat} {t t':Tree} {ts ts':List Tree} (h:j=i) (r:TsK ops fu i K (j+1) ts ts'):TsK ops fu i K j (t::ts) (t'::ts')
 |d {j:Nat} {t t':Tree} {ts ts':List Tree} (h:reach ops fu j i=true) (r:TsK ops fu i K (j+1) ts ts'):TsK ops fu i K j (t::ts) (t'::ts')
def TsK.at{ops:Array Oper}{fu i:Nat}{K:Tree->Tree}:∀{j:Nat} {ts b:List Tree},TsK ops fu i K j ts b->∀q,b.getD q .any=K (ts.getD q .any)\/b.getD q .any=.any\/j+q=i\/reach ops fu (j+q) i=true
 |_,_,_,.nil,q=>.inr (.inl F)
 |_,_,_,.k h _,0=>.inl (by simpa using h)
 |_,_,_,.a h _,0=>.inr (.inl (by simpa using h))
 |_,_,_,.i h _,0=>.inr (.inr (.inl h))
 |_,_,_,.d h _,0=>.inr (.inr (.inr h))
 |j,_,_,.k _ r,q+1=>by have:=r.at q;rw[show j+1+q=j+(q+1) by omega]at this;simpa using this
 |j,_,_,.a _ r,q+1=>by have:=r.at q;rw[show j+1+q=j+(q+1) by omega]at this;simpa using this
 |j,_,_,.i _ r,q+1=>by have:=r.at q;rw[show j+1+q=j+(q+1) by omega]at this;simpa using this
 |j,_,_,.d _ r,q+1=>by have:=r.at q;rw[show j+1+q=j+(q+1) by omega]at this;simpa using this
def QB(i:Nat)(on on':List Nat):Bool:=on'.contains i&&(on.all λj=>on'.contains j)&&on'.all λj=>j==i||on.contains j
def Jm{i:Nat}{d a:List Nat}(h:QB i d a=true)(j:Nat):a.contains j=(j==i||d.contains j):=by
 simp only[QB,Q9]at h;obtain⟨⟨e,f⟩,g⟩:=h;cases b:a.contains j with
 |true=>exact(Rl.1 g j (RX.1 b)).symm
 |false=>
  symm;rw[Rp];constructor
  ·cases c:j==i with
   |false=>rfl
   |true=>rw[beq_iff_eq.1 c,e]at b;cases b
  cases c:d.contains j with
  |false=>rfl
  |true=>
   have:=Rl.1 f j (RX.1 c);rw[this]at b;cases b
def TsK.ks {ops : Array Oper} {fu i : Nat} {K : Tree → Tree} : ∀ (m : Nat) {j : Nat} {ts ts' : List Tree} (_ : ts'.take m = (ts.take m).map K) (_ : TsK ops fu i K (j + m) (ts.drop m) (ts'.drop m)), TsK ops fu i K j ts ts'
 | 0, _, _, _, _, r => r
 | m + 1, j, [], [], _, _ => .nil
 | m + 1, j, [], _ :: _, h, _ => by cases h
 | m + 1, j, _ :: _, [], h, _ => by cases h
 | m + 1, j, t :: ts, t' :: ts', h, r => by
  rw [List.take_succ_cons, List.take_succ_cons, List.map_cons] at h
  injection h with h1 h2
  refine .k h1 (TsK.ks m h2 ?_)
  rw [Nat.add_right_comm, Nat.add_assoc]
  exact r
inductive OpC (pn:Nat) (ops:Array Oper) (fu n:Nat) (dsts:List (Option Nat)) (ws:List Nat) (Cs:List Cfg) (i:Nat) (o:Oper) (anc:List Nat):List Cfg->Prop
 |nil:OpC pn ops fu n dsts ws Cs i o anc []
 |no {c:Cfg} {cs:List Cfg} (h:Jl ops fu ws c i=false) (r:OpC pn ops fu n dsts ws Cs i o anc cs):OpC pn ops fu n dsts ws Cs i o anc (c::cs)
 |ok {c:Cfg} {cs:List Cfg} {t:Tree} (hw:ws.contains i=false) (ht:c.ts[i]? =some t) (hg:o.guard=none) (h:OpOK o ⟨n,j4 dsts c.ts c.sl anc,c.bs,c.rs⟩ t) (r:OpC pn ops fu n dsts ws Cs i o anc cs):OpC pn ops fu n dsts ws Cs i o anc (c::cs)
 |cnd {c:Cfg} {cs:List Cfg} {t:Tree} (j:Nat) (b:Bool) (gs d:Nat) (C:Prop) [Decidable C] (hw:ws.contains i=false) (hg:o.guard=some (j,b)) (hj:(ops[j]?).bind (·.dst)=some gs) (hgs:Nat.blt gs n=true) (hp:fD gs dsts=some j) (ha:anc.contains j=true) (hr:(!Nat.beq j i&&reach ops fu i j)=true) (hG:∃gv,look (j4 dsts c.ts c.sl anc) gs=.sc gv/\(C↔gv=.bool b)) (hd:o.dst=some d) (hdn:Nat.blt d n=true) (ht:c.ts[i]? =some (if C then t else .sc undef)) (h:C->OpOK o ⟨n,j4 dsts c.ts c.sl anc,c.bs,c.rs⟩ t) (r:OpC pn ops fu n dsts ws Cs i o anc cs):OpC pn ops fu n dsts ws Cs i o anc (c::cs)
 |wr {c:Cfg} {cs:List Cfg} (m:Nat) {c':Cfg} (K:Tree->Tree) (tt:Tree) (hw:ws.contains i=true) (hm:Cs[m]? =some c') (hg:o.guard=none) (h:xz pn o ⟨n,j4 dsts c.ts c.sl anc,c.bs,c.rs⟩ K tt c'.bs c'.rs) (hon:QB i c.on c'.on=true) (hK:K .any=.any) (hsl:c.sl.map (λp=>(p.1,K p.2))=c'.sl) (hti:c'.ts[i]? =some tt) (hts:TsK ops fu i K 0 c.ts c'.ts) (r:OpC pn ops fu n dsts ws Cs i o anc cs):OpC pn ops fu n dsts ws Cs i o anc (c::cs)
inductive StepsW (pn:Nat) (ops:Array Oper) (fu n:Nat) (dsts:List (Option Nat)) (ws:List Nat) (Cs:List Cfg):Nat->List Oper->Prop
 |nil {i:Nat}:StepsW pn ops fu n dsts ws Cs i []
 |op {i:Nat} {o:Oper} {os:List Oper} (anc:List Nat) (hr:zO ops fu dsts i anc o=true) (h:OpC pn ops fu n dsts ws Cs i o anc Cs) (r:StepsW pn ops fu n dsts ws Cs (i+1) os):StepsW pn ops fu n dsts ws Cs i (o::os)
def OpC.nos{a:Nat}{ops:Array Oper}{fu n:Nat}{dsts:List (Option Nat)}{ws:List Nat}{Cs:List Cfg}{i:Nat}{o:Oper}{anc:List Nat}:∀{cs:List Cfg} (k:Nat) (_:OpC a ops fu n dsts ws Cs i o anc (cs.drop k)) (_:((cs.take k).all λc=> !Jl ops fu ws c i)=true:=by kernel_rfl),OpC a ops fu n dsts ws Cs i o anc cs
 |[],k,r,_=>by rwa[List.drop_nil]at r
 |_::_,0,r,_=>r
 |c::cs,k+1,r,h=>by
  rw[S7,SJ,Q9,Sk]at h;exact .no h.1 (OpC.nos k r h.2)
def OpC.fin{a:Nat}{ops:Array Oper}{fu n:Nat}{dsts:List (Option Nat)}{ws:List Nat}{Cs cs:List Cfg}{i:Nat}{o:Oper}{anc:List Nat}(h:(cs.all λc=> !Jl ops fu ws c i)=true:=by kernel_rfl):OpC a ops fu n dsts ws Cs i o anc cs:=
 OpC.nos cs.length (by rw[U3];exact .nil) (by rw[Sa];exact h)
def OpC.okk{b:Nat}{ops:Array Oper}{fu n:Nat}{dsts:List (Option Nat)}{ws:List Nat}{Cs cs:List Cfg}{c:Cfg}{i:Nat}{o:Oper}{anc:List Nat}{t:Tree}(d:c.ts[i]? =some t)(h:OpOK o ⟨n,j4 dsts c.ts c.sl anc,c.bs,c.rs⟩ t)(r:OpC b ops fu n dsts ws Cs i o anc cs)(a:(!ws.contains i&&o.guard.isNone)=true:=by kernel_rfl):OpC b ops fu n dsts ws Cs i o anc (c::cs):=by
 rw[Q9,Sk,Option.isNone_iff_eq_none]at a;exact .ok a.1 d a.2 h r
def StepsW.opp{a:Nat}{ops:Array Oper}{fu n:Nat}{dsts:List (Option Nat)}{ws:List Nat}{Cs:List Cfg}{i:Nat}{o:Oper}{b:List Oper}(anc:List Nat)(h:OpC a ops fu n dsts ws Cs i o anc Cs)(r:StepsW a ops fu n dsts ws Cs (i+1) b)(c:zO ops fu dsts i anc o=true:=by kernel_rfl):StepsW a ops fu n dsts ws Cs i (o::b):=.op anc c h r
def Oi(n:Nat)(dsts:List (Option Nat))(ws:List Nat)(Cs:List Cfg)(L:Nat->Bool)(S:St):Prop:=∃c,c∈Cs/\Ps ws c L/\S.n=n/\S.bs=c.bs/\S.rs=c.rs/\∀s,L0 dsts c L s=.any\/S.get s=L0 dsts c L s
section
variable {w0:World} {G0:Bse} {Q:Exit->St->Prop} {S:St} {ops:Array Oper} {fu n:Nat} {dsts:List (Option Nat)} {ws:List Nat} {Cs:List Cfg} {o:Oper}
def OpOK.up{S S':St}{t:Tree}(h:OpOK o S t)(f:S'.bs=S.bs)(e:S'.rs=S.rs)(g:∀s,(fd o.op).contains s=true->S.get s=.any\/S'.get s=S.get s):OpOK o S' t:=by
 intro w0 G0 bx rv w T d b;rw[f,e]at d;rw[e]at b⊢;refine h w0 G0 bx rv w T d λs c=>?_
 rcases g s c with a|a
 ·rw[a];exact .any _ .nil
 rw[<-a];exact b s c
def Jn{c:Cfg}{L:Nat->Bool}{i:Nat}{anc:List Nat}(k:cD n dsts=true)(l:zO ops fu dsts i anc o=true)(e:Kn ops L i)(h:∀s,L0 dsts c L s=.any\/S.get s=L0 dsts c L s)(s:Nat)(m:(fd o.op).contains s=true):(⟨n,j4 dsts c.ts c.sl anc,c.bs,c.rs⟩:St).get s=.any\/S.get s=(⟨n,j4 dsts c.ts c.sl anc,c.bs,c.rs⟩:St).get s:=by
 have a:=Rl.1 l s (RX.1 m);have b:=h s;show look (j4 dsts c.ts c.sl anc) s=.any\/S.get s=look (j4 dsts c.ts c.sl anc) s
 unfold L0 at b;cases d:fD s dsts with
 |none=>
  rw[d]at b;rw[sn d];exact b
 |some j=>
  rw[d]at a b;dsimp only at a b;rw[uF k d];cases g:anc.contains j with
  |true=>
   simp only[g,cond_true]at a;simp only[Q9,Sk]at a;have f:L j=true:=e.up fu j (by rw[a.1,a.2];rfl);simp only[f,cond_true]at b;simpa using b
  |false=>
   simp only[g,cond_false,Sm]at a;have f:L j=false:=by
    rcases a with a|a
    ·rw[Tz a];exact e.self
    exact e.down fu j a
   simp only[f,cond_false]at b;simpa using b
def Mj{c:Cfg}{L:Nat->Bool}{i:Nat}(a:Ps ws c L)(d:Kn ops L i):Jl ops fu ws c i=true:=by
 unfold Jl;rw[Q9];refine⟨?_,Rl.2 λj k=>?_⟩
 ·cases e:c.on.contains i with
  |false=>rfl
  |true=>
   have:=a.1 i (a.2 i e);rw[d.self,e]at this;cases this
 have b:=RX.2 k;cases h:Nat.beq j i with
 |true=>rfl
 |false=>
  cases f:reach ops fu i j with
  |true=>
   have:=a.1 j b;rw[d.up fu j (by rw[h,f];rfl)]at this;rw[<-this];rfl
  |false=>
   cases g:reach ops fu j i with
   |true=>
    have:=a.1 j b;rw[d.down fu j g]at this;rw[<-this];rfl
   |false=>rfl
def qB(L:Nat->Bool)(i:Nat):LZ L i i=true:=by simp[LZ]
def uG{L:Nat->Bool}{i j:Nat}(h:j≠i):LZ L i j=L j:=by
 unfold LZ;cases a:Nat.beq j i with
 |true=>exact absurd (Tz a) h
 |false=>rfl
def Mk{ops:Array Oper}{a:List Oper}{d j s:Nat}{t:Tree}{b:Bool}(C:Prop)[Decidable C](g:o.guard=some (j,b))(i:(ops[j]?).bind (·.dst)=some s)(m:Nat.blt s S.n=true)(f:∃c,S.get s=.sc c/\(C↔c=.bool b))(e:o.dst=some d)(l:Nat.blt d S.n=true)(h:C->OpOK o S t)
  (k:AOps w0 G0 ops a Q (S.put o.dst (if C then t else .sc undef))):AOps w0 G0 ops (o::a) Q S:=by
 obtain⟨n,sl,bs,rs⟩:=S;rw[e]at k;exact DB C g i m f e l h k
def Jo(u:cD n dsts=true){i:Nat}{anc:List Nat}(a:dsts[i]? =some o.dst)(J:zO ops fu dsts i anc o=true){L:Nat->Bool}(A:Kn ops L i)(hS:Oi n dsts ws Cs L S):∀{cs:List Cfg},OpC G0.pn ops fu n dsts ws Cs i o anc cs->(∀c,c∈Cs->c∈cs)->AOps w0 G0 ops [o] (λe S'=>e=.normal/\Oi n dsts ws Cs (LZ L i) S') S:=by
 obtain⟨c,P,q,D,w,y,l⟩:=hS;have R:cF S.n o.dst=true:=by
  cases Q:o.dst with
  |none=>rfl
  |some d=>
   rw[D];rw[Q]at a;clear J q l A P;induction dsts generalizing i with
   |nil=>simp at a
   |cons x xs ih=>
    cases i with
    |zero=>
     simp only[RY,Ro]at a;subst a;simp only[cD,Q9]at u;simpa[cF]using u.1.2
    |succ i=>
     refine ih ?_ (by simpa using a);cases x with
     |none=>exact u
     |some _=>simp only[cD,Q9]at u;exact u.2
 have fin:∀t,ws.contains i=false->c.ts[i]? =some t->Oi n dsts ws Cs (LZ L i) (S.put o.dst t):=λt B I=>by
  refine⟨c,P,⟨λj k=>?_,q.2⟩,by rw[eu];exact D,by rw[dJ];exact w,by rw[cj];exact y,λs=>?_⟩
  ·rw[uG (λe=>by rw[e,B]at k;cases k)];exact q.1 j k
  rw[dh];have f:=l s;unfold L0 at f⊢;cases r:fD s dsts with
  |none=>
   rw[r]at f;have:o.dst≠some s:=λe=>by
    rw[e]at a;have:=RX.2 (Q8 a);rw[gW r]at this;cases this
   rw[if_neg this];exact f
  |some j=>
   rw[r]at f;dsimp only at f⊢;have k:=fQ r;by_cases g:j=i
   ·subst g;rw[k]at a;injection a with a
    rw[if_pos a.symm,qB];right;simp[Rr,I]
   rw[uG g,if_neg (λe=>g (by rw[e]at a;exact iS u k a))];exact f
 have key:∀{cs:List Cfg},OpC G0.pn ops fu n dsts ws Cs i o anc cs->c∈cs->AOps w0 G0 ops [o] (λe S'=>e=.normal/\Oi n dsts ws Cs (LZ L i) S') S:=by
  intro cs h p;induction h with
  |nil=>cases p
  | @no c1 cs h _ ih=>
   rcases Ri.1 p with rfl|p
   ·rw[Mj q A]at h;cases h
   exact ih p
  | @ok c1 cs t B I hg h _ ih=>
   rcases Ri.1 p with rfl|p
   ·have U:OpOK o S t:=h.up w y (Jn u J A l);exact Fi hg R U (E ⟨Z,fin t B I⟩)
   exact ih p
  | @cnd c1 cs t j b gs d C dC B hg k hgs r hanc hre hG Q hdl I h _ ih=>
   rcases Ri.1 p with rfl|p
   ·obtain⟨V,v,M⟩:=hG;have F:L j=true:=A.up fu j hre;have N:S.get gs=.sc V:=by
     have f:=l gs;unfold L0 at f;rw[r]at f;dsimp only at f;rw[F,cond_true]at f;rw[uF u r,if_pos hanc]at v;rcases f with f|f
     ·rw[f]at v;cases v
     rw[f];exact v
    exact Mk C hg k (by rw[D];exact hgs) ⟨V,N,M⟩ Q (by rw[D];exact hdl) (λhC=>(h hC).up w y (Jn u J A l)) (E ⟨Z,fin _ B I⟩)
   exact ih p
  | @wr c1 cs m c' K tt B hm' hg h hon' hKa hsl' hti hts _ ih=>
   rcases Ri.1 p with rfl|p
   ·obtain⟨S',T,W,X,Y,e4⟩:=h w0 G0 S Z D w y (Jn u J A l);refine dA hg T (E ⟨Z,c',Q8 hm',⟨λj k=>?_,λj k=>?_⟩,W.trans D,X,Y,λs=>?_⟩)
    ·rw[Jm hon'];by_cases g:j=i
     ·subst g;rw[qB];simp
     rw[uG g,q.1 j k];have:(j==i)=false:=beq_eq_false_iff_ne.2 g;rw[this];rfl
    ·rw[Jm hon',Sm]at k;rcases k with k|k
     ·rw[beq_iff_eq.1 k];exact B
     exact q.2 j k
    rw[e4];have f:=l s;have H:look c'.sl s=K (look c.sl s):=by rw[<-hsl',kH K hKa]
    unfold L0 at f⊢;cases r:fD s dsts with
    |none=>
     rw[r]at f;have:o.dst≠some s:=λe=>by
      rw[e]at a;have:=RX.2 (Q8 a);rw[gW r]at this;cases this
     simp only;rw[if_neg this,H];rcases f with f|f
     ·simp only at f;rw[f];exact .inl hKa
     simp only at f;rw[f];exact .inr Z
    |some j=>
     rw[r]at f;have k:=fQ r;dsimp only at f⊢;by_cases g:j=i
     ·subst g;rw[k]at a;injection a with a
      rw[if_pos a.symm,qB,cond_true];right;simp[Rr,hti]
     rw[uG g,if_neg (λe=>g (by rw[e]at a;exact iS u k a))];cases F:L j with
     |false=>
      rw[F,cond_false]at f;rw[cond_false,H];rcases f with f|f
      ·rw[f];exact .inl hKa
      rw[f];exact .inr Z
     |true=>
      rw[F,cond_true]at f;rw[cond_true];rcases hts.at j with z|z|z|z
      ·rw[z];rcases f with f|f
       ·rw[f];exact .inl hKa
       rw[f];exact .inr Z
      ·exact .inl z
      ·exact absurd O g
      rw[R4]at z;have:=A.down fu j z;rw[F]at this;cases this
   exact ih p
 intro cs h G;exact key h (G c P)
def StepsW.at(c:cD n dsts=true)(d:ops.toList.map (·.dst)=dsts):∀{b:List Oper} {i:Nat},StepsW G0.pn ops fu n dsts ws Cs i b->(∀(k:Nat) (o:Oper),b[k]? =some o->ops[i+k]? =some o)->∀(k:Nat) (o:Oper),b[k]? =some o->∀L,Kn ops L (i+k)->∀S,Oi n dsts ws Cs L S->AOps w0 G0 ops [o] (λe S'=>e=.normal/\Oi n dsts ws Cs (LZ L (i+k)) S') S
 |_,_,.nil,_,k,o,h,_,_,_,_=>by simp at h
 |_,i,.op anc hr h _,hall,0,o,ho,L,hK,S,hS=>by
  have a:=hall 0 o ho;simp only[RY,Ro]at ho;subst ho;refine Jo c ?_ hr hK hS h (λ_ h=>h);rw[SB]at a;rw[<-d,RK,SC,a];rfl
 |_,i,.op _ _ _ r,hall,k+1,o,ho,L,hK,S,hS=>by
  have:=r.at c d (λq x f=>by have:=hall (q+1) x (by simpa using f);rwa[show i+(q+1)=i+1+q by omega]at this) k o (by simpa using ho) L (by rw[show i+1+k=i+(k+1) by omega];exact hK) S hS;rw[show i+1+k=i+(k+1) by omega]at this;exact this
def Sim.leG{S':St}{a:Act}{w:World}(h:Sim w0 G0 S a w)(k:S'.n=S.n)(g:S'.bs=S.bs)(f:S'.rs=S.rs)(l:∀s,S'.get s=.any\/S'.get s=S.get s):Sim w0 G0 S' a w:=by
 obtain⟨bx,rv,j,e,c,d⟩:=h;refine⟨bx,rv,by rw[g,f];exact j,by rw[k];exact e,c,λi=>?_⟩;rw[f];rcases l i with b|b
 ·rw[b];exact .any _ .nil
 rw[b];exact d i
def oS{s:Nat}:∀(a:List (Option Nat)) (ts:List Tree) (sl:List (Nat×Tree)),fD s a=none->look (j3 sl a ts) s=look sl s
 |[],ts,sl,_=>by cases sl<;>rfl
 |some d::a,[],sl,_=>rfl
 |none::a,[],sl,_=>rfl
 |some d::a,t::ts,sl,h=>by
  simp only[fD]at h;split at h
  ·cases h
  next hne=>
  simp only[Uy]at h;simp only[j3];rw[oS a ts _ h,dX,if_neg (λe=>hne (by rw[e]))]
 |none::a,t::ts,sl,h=>by
  simp only[fD]at h;split at h
  ·cases h
  simp only[Uy]at h;simp only[j3];exact oS a ts _ h
def uH{s n:Nat}:∀(a:List (Option Nat)) (ts:List Tree) (sl:List (Nat×Tree)) (j:Nat),cD n a=true->a.length=ts.length->fD s a=some j->look (j3 sl a ts) s=ts.getD j .any
 |[],ts,sl,j,_,_,h=>by simp[fD]at h
 |some d::a,[],sl,j,_,hl,_=>by simp at hl
 |none::a,[],sl,j,_,hl,_=>by simp at hl
 |some d::a,t::ts,sl,j,ha,hl,h=>by
  simp only[cD,Q9,Sk]at ha;simp only[fD]at h;simp only[j3];split at h
  ·next b=>
   cases h;injection b with b
   subst b;have:fD d a=none:=by
    cases e:fD d a with
    |none=>rfl
    |some q=>
     have:=RX.2 (Q8 (fQ e));rw[ha.1.1]at this;cases this
   rw[oS a ts _ this,dX,if_pos Z];rfl
  simp only[R9]at h;obtain⟨q,c,rfl⟩:=h;rw[uH a ts _ q ha.2 (by simpa using hl) c];simp
 |none::a,t::ts,sl,j,ha,hl,h=>by
  simp only[fD]at h;simp only[j3];split at h
  ·next b=>cases b
  simp only[R9]at h;obtain⟨q,c,rfl⟩:=h;rw[uH a ts _ q ha (by simpa using hl) c];simp
def Ph{id fu n:Nat}{ops:List Oper}{sl sl':List (Nat×Tree)}{bs:List (TypeId×List Tree)}{rs:List (Option Row)}(dsts:List (Option Nat))(ws:List Nat)(ts:List Tree)(A:List Cfg)(g:Cfg)(E:fY ops.toArray=true)(X:ops.map (·.dst)=dsts)(q:cD n dsts=true)(T:(ws.all λj=>Nat.blt j ops.length)=true)(C:((⟨[],sl,bs,rs,ts⟩::A).all λc=> !(ws.all λj=>c.on.contains j))=true)(t:dsts.length=g.ts.length)(p:j3 g.sl dsts g.ts=sl')
  (hs:StepsW G0.pn ops.toArray fu n dsts ws ((⟨[],sl,bs,rs,ts⟩::A)++[g]) 0 ops) (k:Q .normal ⟨n,sl',g.bs,g.rs⟩):AWP w0 G0 (.region id ops.toArray true) Q ⟨n,sl,bs,rs⟩:=by
 subst p;intro a w d;refine iy (λL a W=>L.size=ops.toArray.size/\Closed ops.toArray L/\∃S,Oi n dsts ws ((⟨[],sl,bs,rs,ts⟩::A)++[g]) (λj=>L.getD j false) S/\Sim w0 G0 S a W) U E ⟨F,i8 _,⟨n,sl,bs,rs⟩,?_,d.drew⟩ ?_ ?_
 ·have:(λj=>(Array.replicate ops.toArray.size false).getD j false)=λ_=>false:=by
   funext j;cases h:(Array.replicate ops.toArray.size false).getD j false with
   |false=>rfl
   |true=>exact absurd h mO
  rw[this];refine⟨⟨[],sl,bs,rs,ts⟩,F,⟨λj b=>rfl,λj b=>by simp at b⟩,Z,Z,Z,λs=>?_⟩;right;unfold L0;split<;>rfl
 ·rintro L a W i o B f z V ⟨_,r,S,hS,d⟩;have hi:i<ops.toArray.size:=(RQ.1 z).1;have y:L.getD i false=false:=getD_both f;have R:∀n j,j≠i->reach ops.toArray n i j=true->L.getD j false=true:=λn j b N=>by
   have H:=r.step z V;have:=H.reach n i j N (fI O);rwa[dB (λe=>b e.symm)]at this
  have K:∀n j,reach ops.toArray n j i=true->L.getD j false=false:=λn j N=>by
   cases hl:L.getD j false with
   |false=>rfl
   |true=>
    have:=r.reach n j i N hl;rw[y]at this;cases this
  have Y:Kn ops.toArray (λj=>L.getD j false) i:=⟨y,λn j b=>by
   simp only[Q9,Sk]at b;exact R n j (λe=>by subst e;simp at b) b.2,K⟩
  have x:=hs.at (w0:=w0) (G0:=G0) q (by simpa using X) (λk o ho=>by simpa using ho) i o (by simpa using z) (λj=>L.getD j false) (by rw[R4];exact Y) S hS a W d;rw[R4]at x;refine DC ?_ x;rintro e a' W' ⟨S',⟨rfl,D⟩,m⟩;refine⟨by simpa using B,r.step z V,S',?_,m⟩;have:(λj=>(L.setIfInBounds i true).getD j false)=LZ (λj=>L.getD j false) i:=by
   funext j;by_cases b:j=i
   ·subst b;rw[fI O,qB]
   rw[dB (λe=>b e.symm),uG b]
  rw[this];exact D
 rintro L a W B ⟨_,_,S,⟨c,r,M,hn,G,P,p⟩,d⟩;have l:∀j,j<ops.length->L.getD j false=true:=λj b=>B j (by simpa using b)
 have I:c=g:=by
  rcases RI.1 r with h|h
  ·have:=Rl.1 C c h;simp only[Sk]at this;rw[UU]at this;obtain⟨j,b,J⟩:=this;have:=M.1 j (RX.2 b);have u:=Rl.1 T j b;rw[R5]at u;simp only[l j u]at this;exact absurd this.symm J
  exact Rs.1 h
 subst I;refine⟨_,k,d.leG hn.symm G.symm P.symm λs=>?_⟩;have f:=p s;show look (j3 c.sl dsts c.ts) s=.any\/look (j3 c.sl dsts c.ts) s=S.get s
 unfold L0 at f;cases v:fD s dsts with
 |none=>
  rw[v]at f;rw[oS _ _ _ v];exact f.imp (λh=>h) Eq.symm
 |some j=>
  rw[v]at f;dsimp only at f;rw[uH _ _ _ j q t v];have b:=(Q6.1 (fQ v)).1;have:L.getD j false=true:=l j (by rw[<-X]at b;simpa using b);simp only[this,cond_true]at f;exact f.imp (λh=>h) Eq.symm
end
def eM{w0:World}{G0:Bse}{c:Code}{Q:Exit->St->Prop}{n:Nat}{sl sl':List (Nat×Tree)}{bs:List (TypeId×List Tree)}{rs:List (Option Row)}(b:KeepsP ⟨n,sl,bs,rs⟩ sl')(h:AWP w0 G0 c Q ⟨n,sl',bs,rs⟩):AWP w0 G0 c Q ⟨n,sl,bs,rs⟩:=λa w d=>h a w (d.leP ⟨Z,Z,Z,b⟩)
def nR{S a:St}{op:Op}{x:Operand}{t:Tree}(d:∀s,(fd op).contains s=true->a.get s=.any\/S.get s=a.get s)(i:x∈op.operands.toList)(h:a.ev x=t)(e:t≠ .any):S.ev x=t:=by
 cases x with
 |tmp s=>
  have c:(fd op).contains s=true:=RX.2 (UM.2 ⟨_,i,Z⟩);rcases d s c with b|b
  ·exact absurd (h.symm.trans b) e
  exact b.trans h
 |const v=>exact h
 |global g=>exact h
 |func f=>exact h
def c8{J:Nat}{o:Oper}{n d k m b:Nat}{sl:List (Nat×Tree)}{bs bs':List (TypeId×List Tree)}{rs rs':List (Option Row)}{x y:Operand}{t:TypeId}{R:Row}{a:List Tree}(h:o.op=.call {callee:=.builtin .append,args:=#[x,y],argTypes:=#[t,t]})(B:o.dst=some d)(D:Nat.blt d n=true)(G:kI prog t=some (R.e,R.sz,b))(H:St.ev ⟨n,sl,bs,rs⟩ x=.own k)(A:rs[k]? =some (some R))(I:St.ev ⟨n,sl,bs,rs⟩ y=.sl a)(C:R.sz=m)(E:Sized m a)(u:AllC Tree.one a)(v:AllC Tree.noDig a)(w:R.es.length+a.length<=1073741824)(z:Nat.ble b 100000=true)(g:bs.map (λp=>(p.1,p.2.map (iH k)))=bs')(i:rs.set k (some ⟨R.e,R.sz,R.es++a,false⟩)=rs'):xz J o ⟨n,sl,bs,rs⟩ (fk k) (.own k) bs' rs':=by
 subst C g i;intro w0 G0 S K q r f c;dsimp only at q r f;have j:=nR c (by rw[h];simp[Op.operands,Call.operands]) H F;have l:=nR c (by rw[h];simp[Op.operands,Call.operands]) I F;refine⟨_,xS (S:=S) h (by rw[B,q];simpa[cF,R5]using D) G j (by rw[f];exact A) l E u v w (by simpa using z),by rw[eu];rfl,by rw[dJ,<-r];rfl,by rw[cj];dsimp only;rw[f],λs=>?_⟩;rw[dh];split
 ·rfl
 exact n6 S k s
def fx{B:Nat}{o:Oper}{n b off m:Nat}{sl:List (Nat×Tree)}{bs bs':List (TypeId×List Tree)}{rs:List (Option Row)}{ty j:TypeId}{x y:Operand}{cs:List Tree}{t:Tree}(g:o.op=.store ty x y)(a:o.dst=none)(A:St.ev ⟨n,sl,bs,rs⟩ x=.box b off)(u:bs[b]? =some (j,cs))(z:St.ev ⟨n,sl,bs,rs⟩ y=t)(l:t.oneA=true)(q:t.cells.all Tree.one=true)(r:t.cells.all Tree.noDig=true)(w:(prog.info? ty).map (·.size)=some m)(v:t.cells.length=m)(f:Nat.ble (off+m) cs.length=true)(e:bs.set b (j,I9 cs off t)=bs'):xz B o ⟨n,sl,bs,rs⟩ id .any bs' rs:=by
 subst e;intro w0 G0 S C p d k c;dsimp only at p d k;have h:=nR c (by rw[g];simp[Op.operands]) A F;have i:=nR c (by rw[g];simp[Op.operands]) z (by rintro rfl;simp[Tree.oneA,Tree.one]at l);refine⟨_,mR (S:=S) g a h (by rw[d];exact u) i l q r w v (by simpa using f),Z,by rw[d],k,λs=>?_⟩;rw[a,if_neg F];rfl
def iz{r:Nat}{o:Oper}{n d b:Nat}{sl:List (Nat×Tree)}{bs bs':List (TypeId×List Tree)}{rs:List (Option Row)}{ty:TypeId}{e:List Value}{cs:List Tree}(m:o.op=.alloc ty)(k:o.dst=some d)(l:Nat.blt d n=true)(q:ij prog ty=some e)(h:e.all bR=true)(j:e.map eg=cs)(i:bs.length=b)(c:bs++[(ty,cs)]=bs'):xz r o ⟨n,sl,bs,rs⟩ id (.box b 0) bs' rs:=by
 subst j i c;intro w0 G0 S t f a g p;dsimp only at f a g;refine⟨_,uB (S:=S) m (by rw[k,f];simpa[cF,R5]using l) q h,by rw[eu],by rw[dJ,a],by rw[cj,g],λs=>?_⟩;rw[dh,a];rfl
section
variable {w0:World} {G0:Bse} {S:St} {o:Oper}
def Jp{n:Nat}{es:List Tree}(a:Sized n es){j:Nat}(b:j<es.length){t:Tree}(c:t.cells.length=n):flat (es.set j t)=(flat es).take (j*n)++t.cells++(flat es).drop (j*n+n):=by
 rw[Uz,if_pos b,jO,fm,lZ a,ma a,show(j+1)*n=j*n+n by rw[R2];omega,RL]
def Sized.set{n:Nat}{es:List Tree}(a:Sized n es)(j:Nat){t:Tree}(b:t.cells.length=n):Sized n (es.set j t):=λx c=>by
 rcases TS c with h|rfl
 ·exact a x h
 exact b
def Ft{w:World}{bs:List (TypeId×List Tree)}{rs:List (Option Row)}{bx:List Nat}{rv:List Value}{k off:Nat}{R:Row}{v:Value}(l:Mem w0 G0 bs rs bx rv w)(b:rs[k]? =some (some R))(h:FT (en w G0 bx rv rs) [v] [.elp k off]):
  ∃g n c xs,v=.pointer (some ⟨g,off,none⟩)/\rv[k]? =some (.slice (some ⟨g,0,none⟩) n c)/\w.ownsRow 0 R.e R.sz (.slice (some ⟨g,0,none⟩) n c) R.es.length xs/\PT w (GG G0 bx rv rs) xs (flat R.es)/\(Sized R.sz R.es/\(R.tt=true->pQ (.slice (some ⟨g,0,none⟩) n c)))/\NoDigB w g:=by
 obtain⟨g,n,c,a,rfl⟩:=h.isElp;have a:fX rv rs k=some _:=a;simp only[fX,b,Sp,id]at a;obtain⟨xs,d,f,i,j⟩:=l.row k _ R a b;exact⟨g,n,c,xs,Z,a,d,f,i,j g Z⟩
def eS{x p:Operand}{t e:TypeId}{n k r:Nat}{R:Row}{q:IntKind}{i:Int}{j:Nat}(f:o.op=.indexAddr t x p)(F:gQ prog t=some (e,n))(H:S.ev x=.own k)(l:S.rs[k]? =some (some R))(J:R.sz=n)(u:S.ev p=.sc (.int q i))(y:i=j)(z:j<R.es.length)(d:j*n=r):OpOK o S (.elp k r):=by
 subst d y;intro w0 G0 bx rv w T A m;have s:=(bP m u (by rw[f];simp[Op.operands])).isSc;have C:=bP m H (by rw[f];simp[Op.operands]);obtain⟨G,xs,a,D,E,B⟩:=gT A l C;rcases a.2 with⟨_,I⟩|⟨g,cp,cur,h,_⟩
 ·omega
 have d:=mQ (P:=prog) (w:=w) (b:=g) (o:=0) (n:=R.es.length) (c:=cp) (k:=q) (i:=(j:Int)) F O O;rw[TG]at d;refine aE (v:=.pointer (some ⟨g,j*n,none⟩)) (W':=w) ?_ ⟨.elp k (j*n) g R.es.length cp ?_ .nil,Below.refl _ _⟩
 ·simp only[R4]at d;simp[execOp,f,s,h,d]
 show fX rv S.rs k=_
 simp only[fX,l,Sp,id];rw[G,h]
def xV{w:World}{base g n c:Nat}{e:TypeId}{sz m:Nat}{xs:List Value}(h:w.ownsRow base e sz (.slice (some ⟨g,0,none⟩) n c) m xs):∃cur:List Value,IsBlk w g e cur.toArray/\cur.length=c*sz/\n=m/\n<=c/\cur.take (m*sz)=xs/\base<=g/\c<=maxLen/\∀(j:Nat) u,xs[j]? =some u->w.cell? ⟨g,j,none⟩=some u:=by
 rcases h.2 with⟨f,_⟩|⟨v,t,cur,f,o,p,r,q,s,i⟩
 ·cases f
 injection f with a k l
 injection a with a
 injection a with a
 subst a k l;have b:IsBlk w g e cur.toList.toArray:=by simpa[IsBlk]using p
 refine⟨cur.toList,b,by simpa using s,Z,r,i,o,q,λj u d=>?_⟩;rw[b.cell j];rw[<-i,R7]at d;split at d
 ·simpa using d
 cases d
def mW{x:Operand}{t:TypeId}{k off j fo:Nat}{R:Row}{c d:Tree}(m:o.op=.load t x)(H:S.ev x=.elp k off)(y:S.rs[k]? =some (some R))(F:jP prog t=true)(A:R.es[j]? =some c)(e:off=j*R.sz+fo)(f:fo<R.sz)(B:c.cells[fo]? =some d):OpOK o S d:=by
 intro w0 G0 bx rv w T D z;obtain⟨g,n,cp,xs,p,I,q,r,s,_⟩:=Ft D y (bP z H (by rw[m];simp[Op.operands]));obtain⟨_,_,_,_,_,_,_,_,a⟩:=xV q;obtain⟨i,h⟩:=Q6.1 A;have l:=Ff s.1 j i fo f;rw[h,B,<-e]at l;obtain⟨u,G,C⟩:=r.get off d l;have E:=j9 (P:=prog) (w:=w) (b:=g) (o:=off) (u:=u) F (a off u G);refine aE (v:=u) (W':=w) ?_ ⟨.pure C .nil,Below.refl _ _⟩;simp[execOp,m,p,E]
def Mem.setRowE{w w':World}{bs:List (TypeId×List Tree)}{rs:List (Option Row)}{bx:List Nat}{rv:List Value}{k:Nat}{v:Value}{R R':Row}(h:Mem w0 G0 bs rs bx rv w){xs:List Value}(n:rv[k]? =some v)(o:rs[k]? =some (some R))(q:w.grownBy w' v.ownBlock)(W:w'.ownsRow 0 R'.e R'.sz v R'.es.length xs)(hx:PT w' (GG G0 bx rv rs) xs (flat R'.es))(L:Sized R'.sz R'.es/\(R'.tt=true->pQ v))(U:∀g,v.ownBlock=some g->NoDigB w' g):
  Mem w0 G0 bs (rs.set k (some R')) bx rv w'/\(∀us ts,FT (en w G0 bx rv rs) us ts->FT (en w' G0 bx rv (rs.set k (some R'))) us ts):=by
 have K:=(Q6.1 n).1;have p:=(Q6.1 o).1;have a0:rv.set k v=rv:=by rw[<-(Q6.1 n).2];exact List.set_getElem_self K
 have r:∀b,b∈cJ bx rv (rs.set k (some R'))↔b∈cJ bx rv rs:=λb=>by
  rw[be,be];refine or_congr T1 ⟨?_,?_⟩
  ·rintro⟨j,u,X,a,c,l⟩;by_cases d:j=k
   ·subst d;rw[n]at a;cases a;exact⟨j,v,R,n,o,l⟩
   rw[Se (λe=>d e.symm)]at c;exact⟨j,u,X,a,c,l⟩
  rintro⟨j,u,X,a,c,l⟩;by_cases d:j=k
  ·subst d;rw[n]at a;cases a;exact⟨j,v,R',n,by rw[So p],l⟩
  exact⟨j,u,X,a,by rw[Se (λe=>d e.symm)];exact c,l⟩
 have x:∀b,GG G0 bx rv (rs.set k (some R')) b↔GG G0 bx rv rs b:=λb=>or_congr T1 (r b)
 have m:∀b,b<w.heap.size->¬GG G0 bx rv rs b->w'.heap[b]? =w.heap[b]? /\¬GG G0 bx rv (rs.set k (some R')) b:=λb H M=>⟨q.block b H λe=>M (.inr (be.2 (.inr ⟨k,v,R,n,o,e.symm⟩))),λh=>M ((x b).1 h)⟩
 have B:∀j u,fX rv rs j=some u->fX rv (rs.set k (some R')) j=some u:=λj u d=>by
  unfold fX at d⊢;by_cases z:j=k
  ·subst z;rw[o]at d;rw[So p];exact d
  rw[Se (λe=>z e.symm)];exact d
 have s:∀us ts,FT (en w G0 bx rv rs) us ts->FT (en w' G0 bx rv (rs.set k (some R'))) us ts:=λus ts V=>V.mono (E':=en w' G0 bx rv (rs.set k (some R'))) q.size m (λ_ _ h=>h) B
 have G:GG G0 bx rv (rs.set k (some R'))=GG G0 bx rv rs:=funext λb=>propext (x b)
 refine⟨⟨h.below.grown q (λb e=>h.ge b (be.2 (.inr ⟨k,v,R,n,o,e⟩))),h.env0,h.g0,h.nb,by simp[h.nr],λi g y=>?_,λj u X a c=>?_,⟨h.nodup.bb,λj u X b a c l=>?_,λi j u t X Y b J a c l F P C=>?_⟩,λb H=>h.ge b ((r b).1 H),h.pin⟩,s⟩
 ·obtain⟨ty,cs,us,a,c,l,F⟩:=h.box i g y;exact⟨ty,cs,us,a,(q.block g c.lt λe=>h.nodup.br k v R g n o e.symm (Q8 y)).trans c,s _ _ l,F⟩
 ·by_cases d:j=k
  ·subst d;rw[n]at a;cases a;rw[So p]at c;cases c;exact⟨xs,W,by rw[G];exact hx,L,U⟩
  rw[Se (λe=>d e.symm)]at c;obtain⟨ys,C,Q,S,T⟩:=h.row j u X a c;have A:∀b,u.ownBlock=some b->v.ownBlock≠some b:=λb D E=>h.nodup.rr j k u v X R b d a c n o D E
  refine⟨ys,C.kept q ?_,Q.mono q.size m,S,λg I=>(T g I).of (q.block g (C.lt g I).2 λe=>A g I e.symm)⟩;cases hu:u.ownBlock with
  |none=>exact .inl Zz
  |some b=>exact .inr λe=>A b hu e.symm
 ·by_cases d:j=k
  ·subst d;exact h.nodup.br j u R b a o l
  rw[Se (λe=>d e.symm)]at c;exact h.nodup.br j u X b a c l
 have f:∀i X,(rs.set k (some R'))[i]? =some (some X)->∃Z,rs[i]? =some (some Z):=λi X h=>by
  by_cases y:i=k
  ·subst y;exact⟨R,o⟩
  rw[Se (λe=>y e.symm)]at h;exact⟨X,h⟩
 obtain⟨N,D⟩:=f i X c;obtain⟨O,E⟩:=f j Y F;exact h.nodup.rr i j u t N O b J a D l E P C
def qC{ty:TypeId}{x y:Operand}{k off j:Nat}{R:Row}{t:Tree}(ho:o.op=.store ty x y)(G:o.dst=none)(hx:S.ev x=.elp k off)(V:S.rs[k]? =some (some R))(m:off=j*R.sz)(hj:j<R.es.length)(ht:S.ev y=t)(h1:t.oneA=true)(h2:t.cells.all Tree.one=true)(hn:t.cells.all Tree.noDig=true)(hp:t.cells.all Tree.plain0=true)(hs:(prog.info? ty).map (·.size)=some R.sz)(Y:t.cells.length=R.sz):lM w0 G0 o S {S with rs:=S.rs.set k (some ⟨R.e,R.sz,R.es.set j t,R.tt⟩)}:=by
 rintro a w ⟨bx,rv,hm,a5,W,B⟩;have hv:=bP (op:=o.op) (T:=λs=>a.tmps.getD s undef) (S:=S) (λs _=>B s) ht (by rw[ho];simp[Op.operands]);have J:=bP (op:=o.op) (T:=λs=>a.tmps.getD s undef) (S:=S) (λs _=>B s) hx (by rw[ho];simp[Op.operands]);generalize (λs=>a.tmps.getD s undef)=T at hv J⊢;obtain⟨g,n,cp,xs,U,L,p,K,C,a4⟩:=Ft hm V J;obtain⟨cur,f,z,I,a3,a9,u,a2,_⟩:=xV p;have E:=qo hv h1;have F:=E.plain0s hp;obtain⟨c,Q⟩:∃c,dG T y=c:=⟨_,Z⟩;rw[Q]at hv E F;have b:c.cells.toList.length=R.sz:=by rw[E.length,Y]
 have a0:(j+1)*R.sz<=R.es.length*R.sz:=RB _ hj;rw[R2,TC]at a0;have b0:R.es.length*R.sz<=cp*R.sz:=RB _ O;have q:=pB (P:=prog) (w:=w) (g:=g) (off:=off) (ty:=ty) (t:=R.e) (cur:=cur) (v:=c) f (by rw[hs,show c.cells.size=R.sz from b]) (by rw[z,m];simp only[Sd]at b;omega) (E.ones h2);have M:c.cells.size=R.sz:=b;rw[M]at q;have h:=qu w g (cur.take off++c.cells.toList++cur.drop (off+R.sz)).toArray;have b1:g<w.heap.size:=f.lt;have r:IsBlk (w.setRow g (cur.take off++c.cells.toList++cur.drop (off+R.sz)).toArray) g R.e (cur.take off++c.cells.toList++cur.drop (off+R.sz)).toArray:=by
  have:=f;simp only[IsBlk,World.setRow]at this⊢;simp[SX,this]
 have d:g∈cJ bx rv S.rs:=be.2 (.inr ⟨k,_,R,L,V,Z⟩);have N:(cur.take off++c.cells.toList++cur.drop (off+R.sz)).take (R.es.length*R.sz)=xs.take off++c.cells.toList++xs.drop (off+R.sz):=by
  subst a9;have U:(cur.take off).length=off:=by rw[Rb,z];omega
  have e2:R.es.length*R.sz=off+R.sz+(R.es.length*R.sz-(off+R.sz)):=O
  rw[Vk,SD O,Uq,RL,e2,Uf,U,Rf (l:=cur.take off) O,Uf,b,Rf (l:=c.cells.toList) O,RL];rw[show off+R.sz+(R.es.length*R.sz-(off+R.sz))-off-R.sz=off+R.sz+(R.es.length*R.sz-(off+R.sz))-(off+R.sz) by omega]
 have H:NoDigB (w.setRow g (cur.take off++c.cells.toList++cur.drop (off+R.sz)).toArray) g:=cU r (by
  have D:=oO (show w.heap[g]? =some (.cells cur.toArray R.e (0,0))from f) a4;exact qv D (E.noDigs hn))
 obtain⟨a1,X⟩:=hm.setRowE (R':=⟨R.e,R.sz,R.es.set j t,R.tt⟩) (w':=w.setRow g (cur.take off++c.cells.toList++cur.drop (off+R.sz)).toArray) (xs:=xs.take off++c.cells.toList++xs.drop (off+R.sz)) L V h
  (by
   refine⟨?_,.inr ⟨g,cp,_,?_,u,r,?_,a2,?_,?_⟩⟩
   ·have:=p.1;simp only[Q4,Rb,Rm,RO,b,this];omega
   ·rw[RO,<-I]
   ·rw[RO,<-I];exact a3
   ·simp only[Us,Q4,Rb,Rm,b,z];omega
   rw[RO];exact N)
  (by
   show PT _ _ _ (flat (R.es.set j t))
   rw[Jp C.1 hj Y,<-m];exact(((qt d h K).take off).append (qt d h F)).append ((qt d h K).drop (off+R.sz)))
  ⟨C.1.set j Y,C.2⟩ (λg' A=>by injection A with A;subst A;exact H)
 refine gS (W':=w.setRow g (cur.take off++c.cells.toList++cur.drop (off+R.sz)).toArray) (by simp only[execOp,ho,U,Q,Sem.run_bind,q,Result.andThen_ok];rfl) ⟨bx,rv,a1,by rw[ee];exact a5,by rw[df,W],λi=>?_⟩;rw[G];exact X _ _ (B i)
end
