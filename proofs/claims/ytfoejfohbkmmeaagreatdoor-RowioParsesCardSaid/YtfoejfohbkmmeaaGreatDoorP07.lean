import Derived.Test.YtfoejfohbkmmeaaGreatDoorP06
import Derived.Test.YtfoejfohbkmmeaaGreatDoorP00
import Derived.Test.YtfoejfohbkmmeaaGreatDoorP05
namespace Go.Proofs.YtfoejfohbkmmeaaGreatDoor
open Go.RowKit
open Lib renaming hid→J
theorem EU{P:Program}{o:Oper}{a:Act}{w:World}{K i:Act->World->Prop}{Q g:Exit->Act->World->Prop}(h:∀a w,K a w->i a w)(f:∀e a w,Q e a w->g e a w)(b:o.wp P a w K Q):o.wp P a w i g:=by
 unfold Oper.wp at*;generalize (execOp a.eval o).run P w=r at*;cases r with
 |ok n w'=>
  cases n<;>simp only[Oper.upon]at b⊢<;>
   first
    |exact h _ _ b
    |exact Calls.mono b (fun e k d=>by
      cases e with
      |returned v=>exact h _ _ d
      |panicked c=>exact f _ _ _ d
      |outgrown=>obtain⟨a,w,j⟩:=d;exact⟨a,w,f _ _ _ j⟩)
    |exact Rows.mono b (fun _ _ d=>h _ _ d)
 |halt x w'=>cases x<;>simp only[Oper.upon]at b⊢<;>first|exact f _ _ _ b|exact b
theorem zP{P:Program}{ops:Array Oper}{o:Oper}{a:Act}{w:World}{Q d:Exit->Act->World->Prop}(c:∀e a w,Q e a w->d e a w)(b:wpList P ops Q [o] a w):wpList P ops d [o] a w:=by
 simp only[wpList]at b⊢;split
 ·next hw=>
  rw[if_pos hw]at b;rcases b with b|⟨h,f,w',g⟩
  ·exact .inl (EU (fun a w=>c .normal a w) c b)
  exact .inr ⟨h,f,w',c _ _ _ g⟩
 next hw=>
 rw[if_neg hw]at b;exact c _ _ _ b
def Hb(L:Nat->Bool)(i:Nat):Nat->Bool:=fun j=>cond (Nat.beq j i) true (L j)
structure Kn (ops:Array Oper) (L:Nat->Bool) (i:Nat):Prop where
 self:L i=false
 up:∀n j,(!Nat.beq j i&&reach ops n i j)=true->L j=true
 down:∀n j,reach ops n j i=true->L j=false
def KeepsP(S:St):List (Nat×Tree)->Prop
 |[]=>True
 |(i,t)::l=>S.get i=t/\KeepsP S l
theorem KeepsP.get{S:St}:∀{l:List (Nat×Tree)},KeepsP S l->∀i,look l i=.any\/look l i=S.get i
 |[],_,_=>.inl Z
 |(j,t)::l,h,i=>by
  rw[cZ];split
  ·next e=>subst e;exact .inr h.1.symm
  exact h.2.get i
structure LeP (S S':St):Prop where
 n:S'.n=S.n
 bs:S'.bs=S.bs
 rs:S'.rs=S.rs
 sl:KeepsP S S'.sl
section
variable {w0:World} {G0:Bse} {Q:Exit->St->Prop} {S:St}
theorem Sim.leP{S':St}{a:Act}{w:World}(h:Sim w0 G0 S a w)(b:LeP S S'):Sim w0 G0 S' a w:=by
 obtain⟨bx,rv,f,g,c,d⟩:=h;refine⟨bx,rv,by rw[b.bs,b.rs];exact f,by rw[b.n];exact g,c,fun i=>?_⟩;rw[b.rs];show FT _ _ [look S'.sl i]
 rcases b.sl.get i with e|e
 ·rw[e];exact .any _ .nil
 rw[e];exact d i
theorem Sim.drew{a:Act}{w:World}(h:Sim w0 G0 S a w):Sim w0 G0 S a w.drew:=by
 obtain⟨bx,rv,d,e,c,b⟩:=h;exact⟨bx,rv,d.later (Below.refl _ _).drew,e,c,fun i=>(b i).later (Below.refl _ _).drew⟩
inductive StepsD (w0:World) (G0:Bse) (ops:Array Oper) (SS:(Nat->Bool)->St->Prop):Nat->List Oper->Prop
 |nil {i:Nat}:StepsD w0 G0 ops SS i []
 |op {i:Nat} {o:Oper} {os:List Oper} (h:∀L,Kn ops L i->∀S,SS L S->AOps w0 G0 ops [o] (fun e S'=>e=.normal/\∃Sx,SS (Hb L i) Sx/\LeP S' Sx) S) (hs:StepsD w0 G0 ops SS (i+1) os):StepsD w0 G0 ops SS i (o::os)
end
theorem EV(W:World)(G:Nat->Prop):∀a:List Value,PT W G a (a.map Tree.sc)
 |[]=>.nil
 |z::a=>.sc z (EV W G a)
theorem mW{S:St}{o:Oper}{t:TypeId}{parts:Array (Nat×Operand)}{u:List (Nat×Nat)}{s:List Value}{qs:List (Nat×Tree)}{rs:List Tree}(y:o.op=.build t parts)(b:ua Tryz.prog t=some (u,s))(r:parts.toList.map (fun p=>(p.1,S.ev p.2))=qs)(d:(qs.all fun q=>q.2.oneA)=true)(F:nC (u[·]?) (s.map Tree.sc) qs=some rs):OpOK o S (.agg rs):=by
 intro w0 G0 bx rv w T G D;have n:=ml (S:=S) D parts.toList (fun p A=>by rw[y];simp only[Op.operands,NA];exact⟨p,A,Z⟩);unfold ua at b;split at b
 ·next fs i hu hi=>
  cases h:i.zero with
  |none=>simp[h]at b
  |some z=>
   simp only[h,M9,Nb,Pm]at b;obtain⟨a,j,rfl,rfl⟩:=b;have e:=nS (w:=w) j;rw[r]at n;obtain⟨us,B,C⟩:=oJ (E:=en w G0 bx rv S.rs) (place:=(a[·]?)) (ps:=parts.toList.map fun p=>(p.1,dU T p.2)) (qs:=qs) (cells:=z.cells) (ts:=z.cells.toList.map Tree.sc) (by rw[<-r];simp) n d (.of (EV _ _ _)) F;refine aC (v:=.agg us) (W':=w) ?_ ⟨?_,Below.refl _ _⟩
   ·have g:(fs.mapM (m:=Sem) fun f=>do pure (f.offset,<-sizeOf f.type)).run Tryz.prog w=.ok a.toArray w:=by
     rw[Oj,Sem.run_map,e];rfl
    have l:Instr.fill (fun x=>a.toArray[x]?) z.cells (parts.map fun p=>(p.1,dU T p.2)).toList=some us:=by
     rw[<-B];simp
    have k:(zeroValue t).run Tryz.prog w=.ok z w:=by simp[zeroValue,typeInfo,hi,h]
    have c:(Instr.build t (parts.map fun p=>(p.1,dU T p.2))).run Tryz.prog w=.ok (.agg us) w:=by
     unfold Instr.build;rw[Sem.run_bind,k,Result.andThen_ok,Sem.run_bind,run_underlying hu,Result.andThen_ok];simp only;rw[Sem.run_bind,g,Result.andThen_ok];simp only[l];rfl
    simp[execOp,y,c]
   have:FT (en w G0 bx rv S.rs) [.agg us.toList.toArray] [.agg rs]:=.agg _ _ C .nil;simpa using this
 cases b
section
variable {w0 w:World} {G0:Bse} {bs:List (TypeId×List Tree)} {rs:List (Option Row)} {bx:List Nat} {rv:List Value} {e sz:Nat}
theorem rW(a:rv.length=rs.length)(b:Nat)(i:b∈cR bx (rv++[.slice none 0 0]) (rs++[some ⟨e,sz,[],false⟩])):b∈cR bx rv rs:=by
 rcases aY.1 i with c|⟨j,u,X,c,g,d⟩
 ·exact aY.2 (.inl c)
 rcases dh a j u X c g with⟨_,rfl,_⟩|⟨_,f,h⟩
 ·simp[Value.ownBlock]at d
 exact aY.2 (.inr ⟨j,u,X,f,h,d⟩)
theorem xB(a:rv.length=rs.length):∀b,b<w.heap.size->¬GG G0 bx rv rs b->w.heap[b]? =w.heap[b]? /\¬GG G0 bx (rv++[.slice none 0 0]) (rs++[some ⟨e,sz,[],false⟩]) b:=fun b _ c=>⟨Z,fun h=>c (h.imp id (rW a b))⟩
theorem EW(a:rv.length=rs.length){us:List Value}{ts:List Tree}(h:FT (en w G0 bx rv rs) us ts):FT (en w G0 bx (rv++[.slice none 0 0]) (rs++[some ⟨e,sz,[],false⟩])) us ts:=h.mono (L4 _) (xB a) (fun _ _ h=>h) fun j u h=>by
 have h:fl rv rs j=some u:=h;show fl (rv++[.slice none 0 0]) (rs++[some ⟨e,sz,[],false⟩]) j=some u
 unfold fl at h⊢;cases b:rs[j]? with
 |none=>simp[b]at h
 |some r=>
  have c:=(L6.1 b).1;rw[My c,My (by omega)];exact h
theorem Mem.addNil(c:Mem w0 G0 bs rs bx rv w):Mem w0 G0 bs (rs++[some ⟨e,sz,[],false⟩]) bx (rv++[.slice none 0 0]) w:=by
 have a:=c.nr;refine⟨c.below,c.env0,c.g0,c.nb,by simp[a],fun i g y=>?_,fun j u X f k=>?_,⟨c.nodup.bb,fun j u X b f k m=>?_,fun i j u v X Y b o f k m d l n=>?_⟩,fun b A=>c.ge b (rW a b A),c.pin⟩
 ·obtain⟨ty,cs,us,f,k,m,d⟩:=c.box i g y;exact⟨ty,cs,us,f,k,EW a m,d⟩
 ·rcases dh a j u X f k with⟨_,rfl,rfl⟩|⟨_,d,l⟩
  ·exact⟨[],World.ownsRow_nil _ _ _ _,.nil,⟨(fun _ h=>by cases h),fun h=>by cases h⟩,(fun g z=>by cases z)⟩
  obtain⟨xs,n,s,x,p⟩:=c.row j u X d l;exact⟨xs,n,s.mono (L4 _) (xB a),x,p⟩
 ·rcases dh a j u X f k with⟨_,rfl,_⟩|⟨_,d,l⟩
  ·simp[Value.ownBlock]at m
  exact c.nodup.br j u X b d l m
 rcases dh a i u X f k with⟨_,rfl,_⟩|⟨_,q,B⟩
 ·simp[Value.ownBlock]at l
 rcases dh a j v Y m d with⟨_,rfl,_⟩|⟨_,t,r⟩
 ·simp[Value.ownBlock]at n
 exact c.nodup.rr i j u v X Y b o q B t r l n
theorem uq{E:En}{a:Tree}(h:∀v,FT E [v] [.sc (.slice none 0 0)]->FT E [v] [a]):∀{us:List Value} {ts:List Tree} (off:Nat),FT E us ts->ts[off]? =some (.sc (.slice none 0 0))->FT E us (ts.set off a)
 |[],[],_,_,ht=>by simp at ht
 |[],_::_,_,h',_=>by cases h'
 |_::_,[],_,h',_=>by cases h'
 |u::us,t::ts,0,h',ht=>by
  simp only[MV,MK]at ht;subst ht;exact FT.cons (h u h'.head) h'.tail
 |u::us,t::ts,off+1,h',ht=>FT.cons h'.head (uq h off h'.tail (by simpa using ht))
end
section
variable {w0:World} {G0:Bse} {Q:Exit->St->Prop} {n:Nat} {sl:List (Nat×Tree)} {bs:List (TypeId×List Tree)} {rs:List (Option Row)}
theorem kO{c:Code}(b off e sz:Nat){ty:TypeId}{cs:List Tree}(y:bs[b]? =some (ty,cs))(C:cs[off]? =some (.sc (.slice none 0 0))){bs':List (TypeId×List Tree)}{rs':List (Option Row)}(q:bs.set b (ty,cs.set off (.own rs.length))=bs')(k:rs++[some ⟨e,sz,[],false⟩]=rs')(h:AWP w0 G0 c Q ⟨n,sl,bs',rs'⟩):AWP w0 G0 c Q ⟨n,sl,bs,rs⟩:=by
 subst q k;rintro a w ⟨bx,rv,u,s,o,p⟩;have j:rv.length=rs.length:=u.nr;have d:Mem w0 G0 bs (rs++[some ⟨e,sz,[],false⟩]) bx (rv++[.slice none 0 0]) w:=u.addNil;refine h a w ⟨bx,rv++[.slice none 0 0],⟨d.below,d.env0,d.g0,by simp[d.nb],d.nr,fun i g B=>?_,d.row,d.nodup,d.ge,d.pin⟩,s,o,fun i=>EW j (p i)⟩;obtain⟨m,r,us,l,x,z,t⟩:=d.box i g B;by_cases f:i=b
 ·subst f;rw[y]at l;cases l;refine⟨ty,cs.set off (.own rs.length),us,by rw[Nw (L6.1 y).1],x,uq (fun v A=>?_) off z C,t⟩;obtain rfl:=A.isSc;refine .own _ 0 0 none ?_ .nil;show fl (rv++[.slice none 0 0]) (rs++[some ⟨e,sz,[],false⟩]) rs.length=_
  unfold fl;rw[Mz (L4 _),M2,Mz (by omega),show rs.length-rv.length=0 by omega];rfl
 exact⟨m,r,us,by rw[Nm (fun e=>f e.symm)];exact l,x,z,t⟩
end
structure Cfg where
 on:List Nat
 sl:List (Nat×Tree)
 bs:List (TypeId×List Tree)
 rs:List (Option Row)
 ts:List Tree
def Hc(dsts:List (Option Nat))(c:Cfg)(L:Nat->Bool)(s:Nat):Tree:=
 match eK s dsts with
 |none=>look c.sl s
 |some j=>cond (L j) (c.ts.getD j .any) (look c.sl s)
def jn(dsts:List (Option Nat))(ts:List Tree)(sl:List (Nat×Tree)):List Nat->List (Nat×Tree)
 |[]=>sl
 |j::js=>match dsts[j]? with
  |some (some d)=>(d,ts.getD j .any)::jn dsts ts sl js
  |_=>jn dsts ts sl js
theorem pZ{dsts:List (Option Nat)}{ts:List Tree}{sl:List (Nat×Tree)}{s:Nat}(h:eK s dsts=none):∀anc,look (jn dsts ts sl anc) s=look sl s
 |[]=>rfl
 |j::js=>by
  simp only[jn];split
  ·next d hd=>
   rw[cZ,if_neg,pZ h js];rintro rfl;have:=MM.2 (L7 hd);rw[fS h]at this;cases this
  exact pZ h js
theorem rX{dsts:List (Option Nat)}{ts:List Tree}{sl:List (Nat×Tree)}{s j n:Nat}(b:b4 n dsts=true)(h:eK s dsts=some j):∀anc,look (jn dsts ts sl anc) s=if anc.contains j then ts.getD j .any else look sl s
 |[]=>by simp[jn]
 |i::js=>by
  have c:=rX (ts:=ts) (sl:=sl) b h js;simp only[jn];have f:=eX h;by_cases a:i=j
  ·subst a;simp only[f,cZ];simp
  have g:(i::js).contains j=js.contains j:=by
   rw[OI,show(j==i)=false from beq_eq_false_iff_ne.2 fun e=>a e.symm,Qi]
  rw[g];split
  ·next d hd=>
   rw[cZ,if_neg,c];rintro rfl;exact a (gV b hd f)
  exact c
def wd(ops:Array Oper)(fu:Nat)(dsts:List (Option Nat))(i:Nat)(anc:List Nat)(o:Oper):Bool:=(ej o.op).all fun s=>match eK s dsts with
 |none=>true
 |some j=>cond (anc.contains j) (!Nat.beq j i&&reach ops fu i j) (Nat.beq j i||reach ops fu j i)
def EX(ops:Array Oper)(fu:Nat)(ws:List Nat)(c:Cfg)(i:Nat):Bool:= !c.on.contains i&&ws.all fun j=>Nat.beq j i||cond (reach ops fu i j) (c.on.contains j) (cond (reach ops fu j i) (!c.on.contains j) true)
def KG(ws:List Nat)(c:Cfg)(L:Nat->Bool):Prop:=(∀j,ws.contains j=true->L j=c.on.contains j)/\∀j,c.on.contains j=true->ws.contains j=true
def zQ(pn:Nat)(o:Oper)(S0:St)(K:Tree->Tree)(tt:Tree)(bs':List (TypeId×List Tree))(rs':List (Option Row)):Prop:=∀w0 (G0:Bse) (S:St),G0.pn=pn->S.n=S0.n->S.bs=S0.bs->S.rs=S0.rs->(∀s,(ej o.op).contains s=true->S0.get s=.any\/S.get s=S0.get s)->
 ∃S',rk w0 G0 o S S'/\S'.n=S.n/\S'.bs=bs'/\S'.rs=rs'/\∀s,S'.get s=if o.dst=some s then tt else K (S.get s)
inductive TsK (ops:Array Oper) (fu i:Nat) (K:Tree->Tree):Nat->List Tree->List Tree->Prop
 |nil {j:Nat}:TsK ops fu i K j [] []
 |k {j:Nat} {t t':Tree} {ts ts':List Tree} (h:t'=K t) (r:TsK ops fu i K (j+1) ts ts'):TsK ops fu i K j (t::ts) (t'::ts')
 |a {j:Nat} {t t':Tree} {ts ts':List Tree} (h:t'=.any) (r:TsK ops fu i K (j+1) ts ts'):TsK ops fu i K j (t::ts) (t'::ts')
 |i {j:Nat} {t t':Tree} {ts ts':List Tree} (h:j=i) (r:TsK ops fu i K (j+1) ts ts'):TsK ops fu i K j (t::ts) (t'::ts')
 |d {j:Nat} {t t':Tree} {ts ts':List Tree} (h:reach ops fu j i=true) (r:TsK ops fu i K (j+1) ts ts'):TsK ops fu i K j (t::ts) (t'::ts')
theorem TsK.at{ops:Array Oper}{fu i:Nat}{K:Tree->Tree}:∀{j:Nat} {ts b:List Tree},TsK ops fu i K j ts b->∀q,b.getD q .any=K (ts.getD q .any)\/b.getD q .any=.any\/j+q=i\/reach ops fu (j+q) i=true
 |_,_,_,.nil,q=>.inr (.inl (by simp))
 |_,_,_,.k h _,0=>.inl (by simpa using h)
 |_,_,_,.a h _,0=>.inr (.inl (by simpa using h))
 |_,_,_,.i h _,0=>.inr (.inr (.inl h))
 |_,_,_,.d h _,0=>.inr (.inr (.inr h))
 |j,_,_,.k _ r,q+1=>by have:=r.at q;rw[show j+1+q=j+(q+1) by omega]at this;simpa using this
 |j,_,_,.a _ r,q+1=>by have:=r.at q;rw[show j+1+q=j+(q+1) by omega]at this;simpa using this
 |j,_,_,.i _ r,q+1=>by have:=r.at q;rw[show j+1+q=j+(q+1) by omega]at this;simpa using this
 |j,_,_,.d _ r,q+1=>by have:=r.at q;rw[show j+1+q=j+(q+1) by omega]at this;simpa using this
def LE(i:Nat)(on on':List Nat):Bool:=on'.contains i&&(on.all fun j=>on'.contains j)&&on'.all fun j=>j==i||on.contains j
theorem EY{i:Nat}{c a:List Nat}(h:LE i c a=true)(j:Nat):a.contains j=(j==i||c.contains j):=by
 simp only[LE,L8]at h;obtain⟨⟨g,e⟩,f⟩:=h;cases b:a.contains j with
 |true=>exact(Mh.1 f j (MM.1 b)).symm
 |false=>
  symm;rw[Mo];constructor
  ·cases d:j==i with
   |false=>rfl
   |true=>rw[beq_iff_eq.1 d,g]at b;cases b
  cases d:c.contains j with
  |false=>rfl
  |true=>
   have:=Mh.1 e j (MM.1 d);rw[this]at b;cases b
inductive OpC (pn:Nat) (ops:Array Oper) (fu n:Nat) (dsts:List (Option Nat)) (ws:List Nat) (Cs:List Cfg) (i:Nat) (o:Oper) (anc:List Nat):List Cfg->Prop
 |nil:OpC pn ops fu n dsts ws Cs i o anc []
 |no {c:Cfg} {cs:List Cfg} (h:EX ops fu ws c i=false) (r:OpC pn ops fu n dsts ws Cs i o anc cs):OpC pn ops fu n dsts ws Cs i o anc (c::cs)
 |ok {c:Cfg} {cs:List Cfg} {t:Tree} (hw:ws.contains i=false) (ht:c.ts[i]? =some t) (hg:o.guard=none) (h:OpOK o ⟨n,jn dsts c.ts c.sl anc,c.bs,c.rs⟩ t) (r:OpC pn ops fu n dsts ws Cs i o anc cs):OpC pn ops fu n dsts ws Cs i o anc (c::cs)
 |cnd {c:Cfg} {cs:List Cfg} {t:Tree} (j:Nat) (b:Bool) (gs d:Nat) (C:Prop) [Decidable C] (hw:ws.contains i=false) (hg:o.guard=some (j,b)) (hj:(ops[j]?).bind (·.dst)=some gs) (hgs:Nat.blt gs n=true) (hp:eK gs dsts=some j) (ha:anc.contains j=true) (hr:(!Nat.beq j i&&reach ops fu i j)=true) (hG:∃gv,look (jn dsts c.ts c.sl anc) gs=.sc gv/\(C↔gv=.bool b)) (hd:o.dst=some d) (hdn:Nat.blt d n=true) (ht:c.ts[i]? =some (if C then t else .sc undef)) (h:C->OpOK o ⟨n,jn dsts c.ts c.sl anc,c.bs,c.rs⟩ t) (r:OpC pn ops fu n dsts ws Cs i o anc cs):OpC pn ops fu n dsts ws Cs i o anc (c::cs)
 |wr {c:Cfg} {cs:List Cfg} (m:Nat) {c':Cfg} (K:Tree->Tree) (tt:Tree) (hw:ws.contains i=true) (hm:Cs[m]? =some c') (hg:o.guard=none) (h:zQ pn o ⟨n,jn dsts c.ts c.sl anc,c.bs,c.rs⟩ K tt c'.bs c'.rs) (hon:LE i c.on c'.on=true) (hK:K .any=.any) (hsl:c.sl.map (fun p=>(p.1,K p.2))=c'.sl) (hti:c'.ts[i]? =some tt) (hts:TsK ops fu i K 0 c.ts c'.ts) (r:OpC pn ops fu n dsts ws Cs i o anc cs):OpC pn ops fu n dsts ws Cs i o anc (c::cs)
inductive StepsW (pn:Nat) (ops:Array Oper) (fu n:Nat) (dsts:List (Option Nat)) (ws:List Nat) (Cs:List Cfg):Nat->List Oper->Prop
 |nil {i:Nat}:StepsW pn ops fu n dsts ws Cs i []
 |op {i:Nat} {o:Oper} {os:List Oper} (anc:List Nat) (hr:wd ops fu dsts i anc o=true) (h:OpC pn ops fu n dsts ws Cs i o anc Cs) (r:StepsW pn ops fu n dsts ws Cs (i+1) os):StepsW pn ops fu n dsts ws Cs i (o::os)
theorem OpC.nos{a:Nat}{ops:Array Oper}{fu n:Nat}{dsts:List (Option Nat)}{ws:List Nat}{Cs:List Cfg}{i:Nat}{o:Oper}{anc:List Nat}:∀{cs:List Cfg} (k:Nat) (_:OpC a ops fu n dsts ws Cs i o anc (cs.drop k)) (_:((cs.take k).all fun c=> !EX ops fu ws c i)=true:=by kernel_rfl),OpC a ops fu n dsts ws Cs i o anc cs
 |[],k,r,_=>by rwa[List.drop_nil]at r
 |_::_,0,r,_=>r
 |c::cs,k+1,r,h=>by
  rw[NR,Ny,L8,Ng]at h;exact .no h.1 (OpC.nos k r h.2)
theorem OpC.fin{a:Nat}{ops:Array Oper}{fu n:Nat}{dsts:List (Option Nat)}{ws:List Nat}{Cs cs:List Cfg}{i:Nat}{o:Oper}{anc:List Nat}(h:(cs.all fun c=> !EX ops fu ws c i)=true:=by kernel_rfl):OpC a ops fu n dsts ws Cs i o anc cs:=
 OpC.nos cs.length (by rw[PU];exact .nil) (by rw[M6];exact h)
theorem OpC.okk{b:Nat}{ops:Array Oper}{fu n:Nat}{dsts:List (Option Nat)}{ws:List Nat}{Cs cs:List Cfg}{c:Cfg}{i:Nat}{o:Oper}{anc:List Nat}{t:Tree}(d:c.ts[i]? =some t)(h:OpOK o ⟨n,jn dsts c.ts c.sl anc,c.bs,c.rs⟩ t)(r:OpC b ops fu n dsts ws Cs i o anc cs)(a:(!ws.contains i&&o.guard.isNone)=true:=by kernel_rfl):OpC b ops fu n dsts ws Cs i o anc (c::cs):=by
 rw[L8,Ng,Option.isNone_iff_eq_none]at a;exact .ok a.1 d a.2 h r
theorem StepsW.opp{a:Nat}{ops:Array Oper}{fu n:Nat}{dsts:List (Option Nat)}{ws:List Nat}{Cs:List Cfg}{i:Nat}{o:Oper}{b:List Oper}(anc:List Nat)(h:OpC a ops fu n dsts ws Cs i o anc Cs)(r:StepsW a ops fu n dsts ws Cs (i+1) b)(c:wd ops fu dsts i anc o=true:=by kernel_rfl):StepsW a ops fu n dsts ws Cs i (o::b):=.op anc c h r
def Jz(n:Nat)(dsts:List (Option Nat))(ws:List Nat)(Cs:List Cfg)(L:Nat->Bool)(S:St):Prop:=∃c,c∈Cs/\KG ws c L/\S.n=n/\S.bs=c.bs/\S.rs=c.rs/\∀s,Hc dsts c L s=.any\/S.get s=Hc dsts c L s
section
variable {w0:World} {G0:Bse} {Q:Exit->St->Prop} {S:St} {ops:Array Oper} {fu n:Nat} {dsts:List (Option Nat)} {ws:List Nat} {Cs:List Cfg} {o:Oper}
theorem OpOK.up{S S':St}{t:Tree}(h:OpOK o S t)(g:S'.bs=S.bs)(d:S'.rs=S.rs)(f:∀s,(ej o.op).contains s=true->S.get s=.any\/S'.get s=S.get s):OpOK o S' t:=by
 intro w0 G0 bx rv w T b c;rw[g,d]at b;rw[d]at c⊢;refine h w0 G0 bx rv w T b fun s e=>?_
 rcases f s e with a|a
 ·rw[a];exact .any _ .nil
 rw[<-a];exact c s e
theorem EZ{c:Cfg}{L:Nat->Bool}{i:Nat}{anc:List Nat}(h:b4 n dsts=true)(l:wd ops fu dsts i anc o=true)(e:Kn ops L i)(m:∀s,Hc dsts c L s=.any\/S.get s=Hc dsts c L s)(s:Nat)(k:(ej o.op).contains s=true):(⟨n,jn dsts c.ts c.sl anc,c.bs,c.rs⟩:St).get s=.any\/S.get s=(⟨n,jn dsts c.ts c.sl anc,c.bs,c.rs⟩:St).get s:=by
 have a:=Mh.1 l s (MM.1 k);have b:=m s;show look (jn dsts c.ts c.sl anc) s=.any\/S.get s=look (jn dsts c.ts c.sl anc) s
 unfold Hc at b;cases d:eK s dsts with
 |none=>
  rw[d]at b;rw[pZ d];exact b
 |some j=>
  rw[d]at a b;dsimp only at a b;rw[rX h d];cases g:anc.contains j with
  |true=>
   simp only[g,cond_true]at a;simp only[L8,Ng]at a;have f:L j=true:=e.up fu j (by rw[a.1,a.2];rfl);simp only[f,cond_true]at b;simpa using b
  |false=>
   simp only[g,cond_false,MP]at a;have f:L j=false:=by
    rcases a with a|a
    ·rw[Oh a];exact e.self
    exact e.down fu j a
   simp only[f,cond_false]at b;simpa using b
theorem Hr{c:Cfg}{L:Nat->Bool}{i:Nat}(a:KG ws c L)(d:Kn ops L i):EX ops fu ws c i=true:=by
 unfold EX;rw[L8];refine⟨?_,Mh.2 fun j h=>?_⟩
 ·cases e:c.on.contains i with
  |false=>rfl
  |true=>
   have:=a.1 i (a.2 i e);rw[d.self,e]at this;cases this
 have b:=MM.2 h;cases g:Nat.beq j i with
 |true=>rfl
 |false=>
  cases k:reach ops fu i j with
  |true=>
   have:=a.1 j b;rw[d.up fu j (by rw[g,k];rfl)]at this;rw[<-this];rfl
  |false=>
   cases f:reach ops fu j i with
   |true=>
    have:=a.1 j b;rw[d.down fu j f]at this;rw[<-this];rfl
   |false=>rfl
theorem oR(L:Nat->Bool)(i:Nat):Hb L i i=true:=by simp[Hb]
theorem rY{L:Nat->Bool}{i j:Nat}(h:j≠i):Hb L i j=L j:=by
 unfold Hb;cases a:Nat.beq j i with
 |true=>exact absurd (Oh a) h
 |false=>rfl
theorem Hs{ops:Array Oper}{rest:List Oper}{d j s:Nat}{t:Tree}{b:Bool}(C:Prop)[Decidable C](g:o.guard=some (j,b))(l:(ops[j]?).bind (·.dst)=some s)(f:Nat.blt s S.n=true)(e:∃a,S.get s=.sc a/\(C↔a=.bool b))(c:o.dst=some d)(i:Nat.blt d S.n=true)(h:C->OpOK o S t)
  (k:AOps w0 G0 ops rest Q (S.put o.dst (if C then t else .sc undef))):AOps w0 G0 ops (o::rest) Q S:=by
 obtain⟨n,sl,bs,rs⟩:=S;rw[c]at k;exact zO C g l f e c i h k
theorem E1(u:b4 n dsts=true){i:Nat}{anc:List Nat}(a:dsts[i]? =some o.dst)(I:wd ops fu dsts i anc o=true){L:Nat->Bool}(A:Kn ops L i)(V:Jz n dsts ws Cs L S):∀{cs:List Cfg},OpC G0.pn ops fu n dsts ws Cs i o anc cs->(∀c,c∈Cs->c∈cs)->AOps w0 G0 ops [o] (fun e S'=>e=.normal/\Jz n dsts ws Cs (Hb L i) S') S:=by
 obtain⟨c,Q,q,D,w,v,l⟩:=V;have P:dM S.n o.dst=true:=by
  cases M:o.dst with
  |none=>rfl
  |some d=>
   rw[D];rw[M]at a;clear I q l A Q;induction dsts generalizing i with
   |nil=>simp at a
   |cons x xs ih=>
    cases i with
    |zero=>
     simp only[MV,MK]at a;subst a;simp only[b4,L8]at u;simpa[dM]using u.1.2
    |succ i=>
     refine ih ?_ (by simpa using a);cases x with
     |none=>exact u
     |some _=>simp only[b4,L8]at u;exact u.2
 have fin:∀t,ws.contains i=false->c.ts[i]? =some t->Jz n dsts ws Cs (Hb L i) (S.put o.dst t):=fun t z G=>by
  refine⟨c,Q,⟨fun j k=>?_,q.2⟩,by rw[fd];exact D,by rw[eB];exact w,by rw[c6];exact v,fun s=>?_⟩
  ·rw[rY (fun e=>by rw[e,z]at k;cases k)];exact q.1 j k
  rw[dV];have f:=l s;unfold Hc at f⊢;cases r:eK s dsts with
  |none=>
   rw[r]at f;have:o.dst≠some s:=fun e=>by
    rw[e]at a;have:=MM.2 (L7 a);rw[fS r]at this;cases this
   rw[if_neg this];exact f
  |some j=>
   rw[r]at f;dsimp only at f⊢;have k:=eX r;by_cases g:j=i
   ·subst g;rw[k]at a;injection a with a
    rw[if_pos a.symm,oR];right;simp[Mk,G]
   rw[rY g,if_neg (fun e=>g (by rw[e]at a;exact gV u k a))];exact f
 have key:∀{cs:List Cfg},OpC G0.pn ops fu n dsts ws Cs i o anc cs->c∈cs->AOps w0 G0 ops [o] (fun e S'=>e=.normal/\Jz n dsts ws Cs (Hb L i) S') S:=by
  intro cs h p;induction h with
  |nil=>cases p
  | @no c1 cs h _ ih=>
   rcases Mi.1 p with rfl|p
   ·rw[Hr q A]at h;cases h
   exact ih p
  | @ok c1 cs t z G hg h _ ih=>
   rcases Mi.1 p with rfl|p
   ·have O:OpOK o S t:=h.up w v (EZ u I A l);exact BF hg P O (ag ⟨Z,fin t z G⟩)
   exact ih p
  | @cnd c1 cs t j b gs d C dC z hg k hgs r hanc hre hG M hdl G h _ ih=>
   rcases Mi.1 p with rfl|p
   ·obtain⟨T,y,R⟩:=hG;have E:L j=true:=A.up fu j hre;have N:S.get gs=.sc T:=by
     have f:=l gs;unfold Hc at f;rw[r]at f;dsimp only at f;rw[E,cond_true]at f;rw[rX u r,if_pos hanc]at y;rcases f with f|f
     ·rw[f]at y;cases y
     rw[f];exact y
    exact Hs C hg k (by rw[D];exact hgs) ⟨T,N,R⟩ M (by rw[D];exact hdl) (fun U=>(h U).up w v (EZ u I A l)) (ag ⟨Z,fin _ z G⟩)
   exact ih p
  | @wr c1 cs m c' K tt z hm' hg h hon' hKa hsl' hti hts _ ih=>
   rcases Mi.1 p with rfl|p
   ·obtain⟨S',J,Y,e2,X,W⟩:=h w0 G0 S rfl D w v (EZ u I A l);refine gj hg J (ag ⟨Z,c',L7 hm',⟨fun j k=>?_,fun j k=>?_⟩,Y.trans D,e2,X,fun s=>?_⟩)
    ·rw[EY hon'];by_cases g:j=i
     ·subst g;rw[oR];simp
     rw[rY g,q.1 j k];have:(j==i)=false:=beq_eq_false_iff_ne.2 g;rw[this];rfl
    ·rw[EY hon',MP]at k;rcases k with k|k
     ·rw[beq_iff_eq.1 k];exact z
     exact q.2 j k
    rw[W];have f:=l s;have H:look c'.sl s=K (look c.sl s):=by rw[<-hsl',jL K hKa]
    unfold Hc at f⊢;cases r:eK s dsts with
    |none=>
     rw[r]at f;have:o.dst≠some s:=fun e=>by
      rw[e]at a;have:=MM.2 (L7 a);rw[fS r]at this;cases this
     simp only;rw[if_neg this,H];rcases f with f|f
     ·simp only at f;rw[f];exact .inl hKa
     simp only at f;rw[f];exact .inr Z
    |some j=>
     rw[r]at f;have k:=eX r;dsimp only at f⊢;by_cases g:j=i
     ·subst g;rw[k]at a;injection a with a
      rw[if_pos a.symm,oR,cond_true];right;simp[Mk,hti]
     rw[rY g,if_neg (fun e=>g (by rw[e]at a;exact gV u k a))];cases E:L j with
     |false=>
      rw[E,cond_false]at f;rw[cond_false,H];rcases f with f|f
      ·rw[f];exact .inl hKa
      rw[f];exact .inr Z
     |true=>
      rw[E,cond_true]at f;rw[cond_true];rcases hts.at j with B|B|B|B
      ·rw[B];rcases f with f|f
       ·rw[f];exact .inl hKa
       rw[f];exact .inr Z
      ·exact .inl B
      ·exact absurd (by omega) g
      rw[MT]at B;have:=A.down fu j B;rw[E]at this;cases this
   exact ih p
 intro cs h F;exact key h (F c Q)
theorem StepsW.at(c:b4 n dsts=true)(d:ops.toList.map (·.dst)=dsts):∀{b:List Oper} {i:Nat},StepsW G0.pn ops fu n dsts ws Cs i b->(∀(k:Nat) (o:Oper),b[k]? =some o->ops[i+k]? =some o)->∀(k:Nat) (o:Oper),b[k]? =some o->∀L,Kn ops L (i+k)->∀S,Jz n dsts ws Cs L S->AOps w0 G0 ops [o] (fun e S'=>e=.normal/\Jz n dsts ws Cs (Hb L (i+k)) S') S
 |_,_,.nil,_,k,o,h,_,_,_,_=>by simp at h
 |_,i,.op anc hr h _,hall,0,o,ho,L,hK,S,hS=>by
  have a:=hall 0 o ho;simp only[MV,MK]at ho;subst ho;refine E1 c ?_ hr hK hS h (fun _ h=>h);rw[Nk]at a;rw[<-d,MN,Nj,a];rfl
 |_,i,.op _ _ _ r,hall,k+1,o,ho,L,hK,S,hS=>by
  have:=r.at c d (fun q x f=>by have:=hall (q+1) x (by simpa using f);rwa[show i+(q+1)=i+1+q by omega]at this) k o (by simpa using ho) L (by rw[show i+1+k=i+(k+1) by omega];exact hK) S hS;rw[show i+1+k=i+(k+1) by omega]at this;exact this
theorem Sim.leG{S':St}{a:Act}{w:World}(h:Sim w0 G0 S a w)(l:S'.n=S.n)(k:S'.bs=S.bs)(f:S'.rs=S.rs)(j:∀s,S'.get s=.any\/S'.get s=S.get s):Sim w0 G0 S' a w:=by
 obtain⟨bx,rv,g,d,b,c⟩:=h;refine⟨bx,rv,by rw[k,f];exact g,by rw[l];exact d,b,fun i=>?_⟩;rw[f];rcases j i with e|e
 ·rw[e];exact .any _ .nil
 rw[e];exact c i
theorem mX{s:Nat}:∀(a:List (Option Nat)) (ts:List Tree) (sl:List (Nat×Tree)),eK s a=none->look (jm sl a ts) s=look sl s
 |[],ts,sl,_=>by cases sl<;>rfl
 |some d::a,[],sl,_=>rfl
 |none::a,[],sl,_=>rfl
 |some d::a,t::ts,sl,h=>by
  simp only[eK]at h;split at h
  ·cases h
  next hne=>
  simp only[Pk]at h;simp only[jm];rw[mX a ts _ h,cZ,if_neg (fun e=>hne (by rw[e]))]
 |none::a,t::ts,sl,h=>by
  simp only[eK]at h;split at h
  ·cases h
  simp only[Pk]at h;simp only[jm];exact mX a ts _ h
theorem rZ{s n:Nat}:∀(a:List (Option Nat)) (ts:List Tree) (sl:List (Nat×Tree)) (j:Nat),b4 n a=true->a.length=ts.length->eK s a=some j->look (jm sl a ts) s=ts.getD j .any
 |[],ts,sl,j,_,_,h=>by simp[eK]at h
 |some d::a,[],sl,j,_,hl,_=>by simp at hl
 |none::a,[],sl,j,_,hl,_=>by simp at hl
 |some d::a,t::ts,sl,j,ha,hl,h=>by
  simp only[b4,L8,Ng]at ha;simp only[eK]at h;simp only[jm];split at h
  ·next b=>
   cases h;injection b with b
   subst b;have:eK d a=none:=by
    cases e:eK d a with
    |none=>rfl
    |some q=>
     have:=MM.2 (L7 (eX e));rw[ha.1.1]at this;cases this
   rw[mX a ts _ this,cZ,if_pos Z];rfl
  simp only[Nb]at h;obtain⟨q,c,rfl⟩:=h;rw[rZ a ts _ q ha.2 (by simpa using hl) c];simp
 |none::a,t::ts,sl,j,ha,hl,h=>by
  simp only[eK]at h;simp only[jm];split at h
  ·next b=>cases b
  simp only[Nb]at h;obtain⟨q,c,rfl⟩:=h;rw[rZ a ts _ q ha (by simpa using hl) c];simp
theorem ff{id fu n:Nat}{ops:List Oper}{sl sl':List (Nat×Tree)}{bs:List (TypeId×List Tree)}{rs:List (Option Row)}(dsts:List (Option Nat))(ws:List Nat)(ts:List Tree)(H:List Cfg)(l:Cfg)(I:e8 ops.toArray=true)(T:ops.map (·.dst)=dsts)(v:b4 n dsts=true)(C:(ws.all fun j=>Nat.blt j ops.length)=true)(M:((⟨[],sl,bs,rs,ts⟩::H).all fun c=> !(ws.all fun j=>c.on.contains j))=true)(r:dsts.length=l.ts.length)(p:jm l.sl dsts l.ts=sl')
  (hs:StepsW G0.pn ops.toArray fu n dsts ws ((⟨[],sl,bs,rs,ts⟩::H)++[l]) 0 ops) (k:Q .normal ⟨n,sl',l.bs,l.rs⟩):AWP w0 G0 (.region id ops.toArray true) Q ⟨n,sl,bs,rs⟩:=by
 subst p;intro a w d;refine fJ (fun L a W=>L.size=ops.toArray.size/\Closed ops.toArray L/\∃S,Jz n dsts ws ((⟨[],sl,bs,rs,ts⟩::H)++[l]) (fun j=>L.getD j false) S/\Sim w0 G0 S a W) (by kernel_rfl) I ⟨by simp,gi _,⟨n,sl,bs,rs⟩,?_,d.drew⟩ ?_ ?_
 ·have:(fun j=>(Array.replicate ops.toArray.size false).getD j false)=fun _=>false:=by
   funext j;cases h:(Array.replicate ops.toArray.size false).getD j false with
   |false=>rfl
   |true=>exact absurd h j9
  rw[this];refine⟨⟨[],sl,bs,rs,ts⟩,by simp,⟨fun j b=>rfl,fun j b=>by simp at b⟩,Z,Z,Z,fun s=>?_⟩;right;unfold Hc;split<;>rfl
 ·rintro L a W i o E f z R ⟨_,x,S,V,d⟩;have hi:i<ops.toArray.size:=(MD.1 z).1;have u:L.getD i false=false:=getD_both f;have J:∀n j,j≠i->reach ops.toArray n i j=true->L.getD j false=true:=fun n j b K=>by
   have O:=x.step z R;have:=O.reach n i j K (dX (by omega));rwa[cl (fun e=>b e.symm)]at this
  have P:∀n j,reach ops.toArray n j i=true->L.getD j false=false:=fun n j K=>by
   cases U:L.getD j false with
   |false=>rfl
   |true=>
    have:=x.reach n j i K U;rw[u]at this;cases this
  have Y:Kn ops.toArray (fun j=>L.getD j false) i:=⟨u,fun n j b=>by
   simp only[L8,Ng]at b;exact J n j (fun e=>by subst e;simp at b) b.2,P⟩
  have t:=hs.at (w0:=w0) (G0:=G0) v (by simpa using T) (fun k o X=>by simpa using X) i o (by simpa using z) (fun j=>L.getD j false) (by rw[MT];exact Y) S V a W d;rw[MT]at t;refine zP ?_ t;rintro e a' W' ⟨S',⟨rfl,A⟩,m⟩;refine⟨by simpa using E,x.step z R,S',?_,m⟩;have:(fun j=>(L.setIfInBounds i true).getD j false)=Hb (fun j=>L.getD j false) i:=by
   funext j;by_cases b:j=i
   ·subst b;rw[dX (by omega),oR]
   rw[cl (fun e=>b e.symm),rY b]
  rw[this];exact A
 rintro L a W E ⟨_,_,S,⟨c,x,F,hn,N,D,p⟩,d⟩;have g:∀j,j<ops.length->L.getD j false=true:=fun j b=>E j (by simpa using b)
 have G:c=l:=by
  rcases Mw.1 x with h|h
  ·have:=Mh.1 M c h;simp only[Ng]at this;rw[PM]at this;obtain⟨j,b,B⟩:=this;have:=F.1 j (MM.2 b);have y:=Mh.1 C j b;rw[Nv]at y;simp only[g j y]at this;exact absurd this.symm B
  exact Mm.1 h
 subst G;refine⟨_,k,d.leG hn.symm N.symm D.symm fun s=>?_⟩;have f:=p s;show look (jm c.sl dsts c.ts) s=.any\/look (jm c.sl dsts c.ts) s=S.get s
 unfold Hc at f;cases q:eK s dsts with
 |none=>
  rw[q]at f;rw[mX _ _ _ q];exact f.imp (fun h=>h) Eq.symm
 |some j=>
  rw[q]at f;dsimp only at f;rw[rZ _ _ _ j v r q];have b:=(L6.1 (eX q)).1;have:L.getD j false=true:=g j (by rw[<-T]at b;simpa using b);simp only[this,cond_true]at f;exact f.imp (fun h=>h) Eq.symm
end
theorem hH{w0:World}{G0:Bse}{c:Code}{Q:Exit->St->Prop}{n:Nat}{sl sl':List (Nat×Tree)}{bs:List (TypeId×List Tree)}{rs:List (Option Row)}(d:KeepsP ⟨n,sl,bs,rs⟩ sl')(h:AWP w0 G0 c Q ⟨n,sl',bs,rs⟩):AWP w0 G0 c Q ⟨n,sl,bs,rs⟩:=fun a w b=>h a w (b.leP ⟨Z,Z,Z,d⟩)
theorem qI{S a:St}{op:Op}{x:Operand}{t:Tree}(c:∀s,(ej op).contains s=true->a.get s=.any\/S.get s=a.get s)(d:x∈op.operands.toList)(h:a.ev x=t)(i:t≠ .any):S.ev x=t:=by
 cases x with
 |tmp s=>
  have e:(ej op).contains s=true:=MM.2 (PE.2 ⟨_,d,Z⟩);rcases c s e with b|b
  ·exact absurd (h.symm.trans b) i
  exact b.trans h
 |const v=>exact h
 |global g=>exact h
 |func f=>exact h
theorem kP{w:Nat}{o:Oper}{n d k m b:Nat}{sl:List (Nat×Tree)}{bs bs':List (TypeId×List Tree)}{rs rs':List (Option Row)}{x y:Operand}{t:TypeId}{R:Row}{a:List Tree}(h:o.op=.call {callee:=.builtin .append,args:=#[x,y],argTypes:=#[t,t]})(v:o.dst=some d)(H:Nat.blt d n=true)(E:kM Tryz.prog t=some (R.e,R.sz,b))(z:St.ev ⟨n,sl,bs,rs⟩ x=.own k)(D:rs[k]? =some (some R))(G:St.ev ⟨n,sl,bs,rs⟩ y=.sl a)(B:R.sz=m)(F:Sized m a)(A:AllC Tree.one a)(C:AllC Tree.noDig a)(I:R.es.length+a.length<=1073741824)(u:Nat.ble b 100000=true)(l:bs.map (fun p=>(p.1,p.2.map (iC k)))=bs')(f:rs.set k (some ⟨R.e,R.sz,R.es++a,false⟩)=rs'):zQ w o ⟨n,sl,bs,rs⟩ (mb k) (.own k) bs' rs':=by
 subst B l f;intro w0 G0 S J q r j c;dsimp only at q r j;have g:=qI c (by rw[h];simp[Op.operands,Call.operands]) z (by simp);have i:=qI c (by rw[h];simp[Op.operands,Call.operands]) G (by simp);refine⟨_,un (S:=S) h (by rw[v,q];simpa[dM,Nv]using H) E g (by rw[j];exact D) i F A C I (by simpa using u),by rw[fd];rfl,by rw[eB,<-r];rfl,by rw[c6];dsimp only;rw[j],fun s=>?_⟩;rw[dV];split
 ·rfl
 exact qF S k s
theorem gE{p:Nat}{o:Oper}{n b off m:Nat}{sl:List (Nat×Tree)}{bs bs':List (TypeId×List Tree)}{rs:List (Option Row)}{ty k:TypeId}{x y:Operand}{cs:List Tree}{t:Tree}(e:o.op=.store ty x y)(a:o.dst=none)(q:St.ev ⟨n,sl,bs,rs⟩ x=.box b off)(A:bs[b]? =some (k,cs))(v:St.ev ⟨n,sl,bs,rs⟩ y=t)(j:t.oneA=true)(u:t.cells.all Tree.one=true)(B:t.cells.all Tree.noDig=true)(z:(Tryz.prog.info? ty).map (·.size)=some m)(r:t.cells.length=m)(g:Nat.ble (off+m) cs.length=true)(h:bs.set b (k,EI cs off t)=bs'):zQ p o ⟨n,sl,bs,rs⟩ id .any bs' rs:=by
 subst h;intro w0 G0 S C w i l c;dsimp only at w i l;have d:=qI c (by rw[e];simp[Op.operands]) q (by simp);have f:=qI c (by rw[e];simp[Op.operands]) v (by rintro rfl;simp[Tree.oneA,Tree.one]at j);refine⟨_,ly (S:=S) e a d (by rw[i];exact A) f j u B z r (by simpa using g),Z,by rw[i],l,fun s=>?_⟩;rw[a,if_neg (by simp)];rfl
theorem i7{i:Nat}{o:Oper}{n d b:Nat}{sl:List (Nat×Tree)}{bs bs':List (TypeId×List Tree)}{rs:List (Option Row)}{ty:TypeId}{c:List Value}{cs:List Tree}(q:o.op=.alloc ty)(h:o.dst=some d)(m:Nat.blt d n=true)(j:gz Tryz.prog ty=some c)(k:c.all bQ=true)(p:c.map dl=cs)(l:bs.length=b)(a:bs++[(ty,cs)]=bs'):zQ i o ⟨n,sl,bs,rs⟩ id (.box b 0) bs' rs:=by
 subst p l a;intro w0 G0 S t g e f r;dsimp only at g e f;refine⟨_,rU (S:=S) q (by rw[h,g];simpa[dM,Nv]using m) j k,by rw[fd],by rw[eB,e],by rw[c6,f],fun s=>?_⟩;rw[dV,e];rfl
end Go.Proofs.YtfoejfohbkmmeaaGreatDoor
