import Derived.Test.YtfoejfohbkmmeaaGreatDoorU08
import Derived.Test.YtfoejfohbkmmeaaGreatDoorU00
namespace Go.Proofs.YtfoejfohbkmmeaaGreatDoor
open Go.RowKit
open Lib renaming hid→J
theorem Eh{P:Program}{o:Oper}{a:Act}{w:World}{K g:Act->World->Prop}{Q i:Exit->Act->World->Prop}(h:∀a w,K a w->g a w)(f:∀e a w,Q e a w->i e a w)(b:o.wp P a w K Q):o.wp P a w g i:=by
 unfold Oper.wp at*;generalize (execOp a.eval o).run P w=r at*;cases r with
 |ok n w'=>
  cases n<;>simp only[Oper.upon]at b⊢<;>
   first
    |exact h _ _ b
    |exact Calls.mono b (fun e k d=>by
      cases e with
      |returned v=>exact h _ _ d
      |panicked c=>exact f _ _ _ d
      |outgrown=>obtain⟨a,w,j⟩:=d;exact⟨a,w,f _ _ _ j⟩)
    |exact Rows.mono b (fun _ _ d=>h _ _ d)
 |halt x w'=>cases x<;>simp only[Oper.upon]at b⊢<;>first|exact f _ _ _ b|exact b
theorem rH{P:Program}{ops:Array Oper}{o:Oper}{a:Act}{w:World}{Q d:Exit->Act->World->Prop}(c:∀e a w,Q e a w->d e a w)(b:wpList P ops Q [o] a w):wpList P ops d [o] a w:=by
 simp only[wpList]at b⊢;split
 ·next hw=>
  rw[if_pos hw]at b;rcases b with b|⟨f,g,w',h⟩
  ·exact .inl (Eh (fun a w=>c .normal a w) c b)
  exact .inr ⟨f,g,w',c _ _ _ h⟩
 next hw=>
 rw[if_neg hw]at b;exact c _ _ _ b
def DU(L:Nat->Bool)(i:Nat):Nat->Bool:=fun j=>cond (Nat.beq j i) true (L j)
structure Kn (ops:Array Oper) (L:Nat->Bool) (i:Nat):Prop where
 self:L i=false
 up:∀n j,(!Nat.beq j i&&reach ops n i j)=true->L j=true
 down:∀n j,reach ops n j i=true->L j=false
def KeepsP(S:St):List (Nat×Tree)->Prop
 |[]=>True
 |(i,t)::l=>S.get i=t/\KeepsP S l
theorem KeepsP.get{S:St}:∀{l:List (Nat×Tree)},KeepsP S l->∀i,look l i=.any\/look l i=S.get i
 |[],_,_=>.inl Z
 |(j,t)::l,h,i=>by
  rw[cV];split
  ·next e=>subst e;exact .inr h.1.symm
  exact h.2.get i
structure LeP (S S':St):Prop where
 n:S'.n=S.n
 bs:S'.bs=S.bs
 rs:S'.rs=S.rs
 sl:KeepsP S S'.sl
section
variable {w0:World} {G0:Nat->Prop} {Q:Exit->St->Prop} {S:St}
theorem Sim.leP{S':St}{a:Act}{w:World}(h:Sim w0 G0 S a w)(b:LeP S S'):Sim w0 G0 S' a w:=by
 obtain⟨bx,rv,g,f,c,d⟩:=h;refine⟨bx,rv,by rw[b.bs,b.rs];exact g,by rw[b.n];exact f,c,fun i=>?_⟩;rw[b.rs];show FT _ _ [look S'.sl i]
 rcases b.sl.get i with e|e
 ·rw[e];exact .any _ .nil
 rw[e];exact d i
theorem Sim.drew{a:Act}{w:World}(h:Sim w0 G0 S a w):Sim w0 G0 S a w.drew:=by
 obtain⟨bx,rv,d,e,b,c⟩:=h;exact⟨bx,rv,d.later (Below.refl _ _).drew,e,b,fun i=>(c i).later (Below.refl _ _).drew⟩
inductive StepsD (w0:World) (G0:Nat->Prop) (ops:Array Oper) (SS:(Nat->Bool)->St->Prop):Nat->List Oper->Prop
 |nil {i:Nat}:StepsD w0 G0 ops SS i []
 |op {i:Nat} {o:Oper} {os:List Oper} (h:∀L,Kn ops L i->∀S,SS L S->AOps w0 G0 ops [o] (fun e S'=>e=.normal/\∃Sx,SS (DU L i) Sx/\LeP S' Sx) S) (hs:StepsD w0 G0 ops SS (i+1) os):StepsD w0 G0 ops SS i (o::os)
end
theorem Ei(W:World)(G:Nat->Prop):∀a:List Value,PT W G a (a.map Tree.sc)
 |[]=>.nil
 |z::a=>.sc z (Ei W G a)
theorem pr{S:St}{o:Oper}{t:TypeId}{parts:Array (Nat×Operand)}{u:List (Nat×Nat)}{n:List Value}{qs:List (Nat×Tree)}{rs:List Tree}(s:o.op=.build t parts)(b:tJ Tryz.prog t=some (u,n))(y:parts.toList.map (fun p=>(p.1,S.ev p.2))=qs)(c:(qs.all fun q=>q.2.oneA)=true)(B:nW (u[·]?) (n.map Tree.sc) qs=some rs):OpOK o S (.agg rs):=by
 intro w0 G0 bx rv w T G D;have r:=nZ (S:=S) D parts.toList (fun p C=>by rw[s];simp only[Op.operands,Ny];exact⟨p,C,Z⟩);unfold tJ at b;split at b
 ·next fs i hu hi=>
  cases e:i.zero with
  |none=>simp[e]at b
  |some z=>
   simp only[e,Nc,Na,Pk]at b;obtain⟨a,j,rfl,rfl⟩:=b;have l:=nq (w:=w) j;rw[y]at r;obtain⟨us,A,F⟩:=qP (E:=en w G0 bx rv S.rs) (place:=(a[·]?)) (ps:=parts.toList.map fun p=>(p.1,cA T p.2)) (qs:=qs) (cells:=z.cells) (ts:=z.cells.toList.map Tree.sc) (by rw[<-y];simp) r c (.of (Ei _ _ _)) B;refine aq (v:=.agg us) (W':=w) ?_ ⟨?_,Below.refl _ _⟩
   ·have k:(fs.mapM (m:=Sem) fun f=>do pure (f.offset,<-sizeOf f.type)).run Tryz.prog w=.ok a.toArray w:=by
     rw[Ol,Sem.run_map,l];rfl
    have h:Instr.fill (fun x=>a.toArray[x]?) z.cells (parts.map fun p=>(p.1,cA T p.2)).toList=some us:=by
     rw[<-A];simp
    have g:(zeroValue t).run Tryz.prog w=.ok z w:=by simp[zeroValue,typeInfo,hi,e]
    have d:(Instr.build t (parts.map fun p=>(p.1,cA T p.2))).run Tryz.prog w=.ok (.agg us) w:=by
     unfold Instr.build;rw[Sem.run_bind,g,Result.andThen_ok,Sem.run_bind,run_underlying hu,Result.andThen_ok];simp only;rw[Sem.run_bind,k,Result.andThen_ok];simp only[h];rfl
    simp[execOp,s,d]
   have:FT (en w G0 bx rv S.rs) [.agg us.toList.toArray] [.agg rs]:=.agg _ _ F .nil;simpa using this
 cases b
section
variable {w0 w:World} {G0:Nat->Prop} {bs:List (TypeId×List Tree)} {rs:List (Option Row)} {bx:List Nat} {rv:List Value} {e sz:Nat}
theorem rI(a:rv.length=rs.length)(b:Nat)(g:b∈cq bx (rv++[.slice none 0 0]) (rs++[some ⟨e,sz,[],false⟩])):b∈cq bx rv rs:=by
 rcases aX.1 g with c|⟨j,u,X,c,i,d⟩
 ·exact aX.2 (.inl c)
 rcases cS a j u X c i with⟨_,rfl,_⟩|⟨_,h,f⟩
 ·simp[Value.ownBlock]at d
 exact aX.2 (.inr ⟨j,u,X,h,f,d⟩)
theorem wQ(a:rv.length=rs.length):∀b,b<w.heap.size->¬GG G0 bx rv rs b->w.heap[b]? =w.heap[b]? /\¬GG G0 bx (rv++[.slice none 0 0]) (rs++[some ⟨e,sz,[],false⟩]) b:=fun b _ c=>⟨Z,fun h=>c (h.imp id (rI a b))⟩
theorem Ej(a:rv.length=rs.length){us:List Value}{ts:List Tree}(h:FT (en w G0 bx rv rs) us ts):FT (en w G0 bx (rv++[.slice none 0 0]) (rs++[some ⟨e,sz,[],false⟩])) us ts:=h.mono (L5 _) (wQ a) (fun _ _ h=>h) fun j u h=>by
 have h:fh rv rs j=some u:=h;show fh (rv++[.slice none 0 0]) (rs++[some ⟨e,sz,[],false⟩]) j=some u
 unfold fh at h⊢;cases b:rs[j]? with
 |none=>simp[b]at h
 |some r=>
  have c:=(L7.1 b).1;rw[ME c,ME (by omega)];exact h
theorem Mem.addNil(c:Mem w0 G0 bs rs bx rv w):Mem w0 G0 bs (rs++[some ⟨e,sz,[],false⟩]) bx (rv++[.slice none 0 0]) w:=by
 have a:=c.nr;refine⟨c.below,c.env0,c.g0,c.nb,by simp[a],fun i g q=>?_,fun j u X d f=>?_,⟨c.nodup.bb,fun j u X b d f m=>?_,fun i j u v X Y b o d f m k l n=>?_⟩,fun b B=>c.ge b (rI a b B)⟩
 ·obtain⟨ty,cs,us,d,f,m,k⟩:=c.box i g q;exact⟨ty,cs,us,d,f,Ej a m,k⟩
 ·rcases cS a j u X d f with⟨_,rfl,rfl⟩|⟨_,k,l⟩
  ·exact⟨[],World.ownsRow_nil _ _ _ _,.nil,⟨(fun _ h=>by cases h),fun h=>by cases h⟩,(fun g s=>by cases s)⟩
  obtain⟨xs,n,z,p,y⟩:=c.row j u X k l;exact⟨xs,n,z.mono (L5 _) (wQ a),p,y⟩
 ·rcases cS a j u X d f with⟨_,rfl,_⟩|⟨_,k,l⟩
  ·simp[Value.ownBlock]at m
  exact c.nodup.br j u X b k l m
 rcases cS a i u X d f with⟨_,rfl,_⟩|⟨_,t,r⟩
 ·simp[Value.ownBlock]at l
 rcases cS a j v Y m k with⟨_,rfl,_⟩|⟨_,A,x⟩
 ·simp[Value.ownBlock]at n
 exact c.nodup.rr i j u v X Y b o t r A x l n
theorem tV{E:En}{a:Tree}(h:∀v,FT E [v] [.sc (.slice none 0 0)]->FT E [v] [a]):∀{us:List Value} {ts:List Tree} (off:Nat),FT E us ts->ts[off]? =some (.sc (.slice none 0 0))->FT E us (ts.set off a)
 |[],[],_,_,ht=>by simp at ht
 |[],_::_,_,h',_=>by cases h'
 |_::_,[],_,h',_=>by cases h'
 |u::us,t::ts,0,h',ht=>by
  simp only[MW,MN]at ht;subst ht;exact FT.cons (h u h'.head) h'.tail
 |u::us,t::ts,off+1,h',ht=>FT.cons h'.head (tV h off h'.tail (by simpa using ht))
end
section
variable {w0:World} {G0:Nat->Prop} {Q:Exit->St->Prop} {n:Nat} {sl:List (Nat×Tree)} {bs:List (TypeId×List Tree)} {rs:List (Option Row)}
theorem mD{c:Code}(b off e sz:Nat){ty:TypeId}{cs:List Tree}(y:bs[b]? =some (ty,cs))(B:cs[off]? =some (.sc (.slice none 0 0))){bs':List (TypeId×List Tree)}{rs':List (Option Row)}(m:bs.set b (ty,cs.set off (.own rs.length))=bs')(s:rs++[some ⟨e,sz,[],false⟩]=rs')(h:AWP w0 G0 c Q ⟨n,sl,bs',rs'⟩):AWP w0 G0 c Q ⟨n,sl,bs,rs⟩:=by
 subst m s;rintro a w ⟨bx,rv,x,q,o,j⟩;have k:rv.length=rs.length:=x.nr;have d:Mem w0 G0 bs (rs++[some ⟨e,sz,[],false⟩]) bx (rv++[.slice none 0 0]) w:=x.addNil;refine h a w ⟨bx,rv++[.slice none 0 0],⟨d.below,d.env0,d.g0,by simp[d.nb],d.nr,fun i g A=>?_,d.row,d.nodup,d.ge⟩,q,o,fun i=>Ej k (j i)⟩;obtain⟨r,p,us,l,u,t,z⟩:=d.box i g A;by_cases f:i=b
 ·subst f;rw[y]at l;cases l;refine⟨ty,cs.set off (.own rs.length),us,by rw[NA (L7.1 y).1],u,tV (fun v C=>?_) off t B,z⟩;obtain rfl:=C.isSc;refine .own _ 0 0 none ?_ .nil;show fh (rv++[.slice none 0 0]) (rs++[some ⟨e,sz,[],false⟩]) rs.length=_
  unfold fh;rw[Mw (L5 _),M4,Mw (by omega),show rs.length-rv.length=0 by omega];rfl
 exact⟨r,p,us,by rw[Nm (fun e=>f e.symm)];exact l,u,t,z⟩
end
structure Cfg where
 on:List Nat
 sl:List (Nat×Tree)
 bs:List (TypeId×List Tree)
 rs:List (Option Row)
 ts:List Tree
def GK(dsts:List (Option Nat))(c:Cfg)(L:Nat->Bool)(s:Nat):Tree:=
 match eJ s dsts with
 |none=>look c.sl s
 |some j=>cond (L j) (c.ts.getD j .any) (look c.sl s)
def ki(dsts:List (Option Nat))(ts:List Tree)(sl:List (Nat×Tree)):List Nat->List (Nat×Tree)
 |[]=>sl
 |j::js=>match dsts[j]? with
  |some (some d)=>(d,ts.getD j .any)::ki dsts ts sl js
  |_=>ki dsts ts sl js
theorem pu{dsts:List (Option Nat)}{ts:List Tree}{sl:List (Nat×Tree)}{s:Nat}(h:eJ s dsts=none):∀anc,look (ki dsts ts sl anc) s=look sl s
 |[]=>rfl
 |j::js=>by
  simp only[ki];split
  ·next d hd=>
   rw[cV,if_neg,pu h js];rintro rfl;have:=MT.2 (L9 hd);rw[fI h]at this;cases this
  exact pu h js
theorem wR{dsts:List (Option Nat)}{ts:List Tree}{sl:List (Nat×Tree)}{s j n:Nat}(b:bV n dsts=true)(h:eJ s dsts=some j):∀anc,look (ki dsts ts sl anc) s=if anc.contains j then ts.getD j .any else look sl s
 |[]=>by simp[ki]
 |i::js=>by
  have f:=wR (ts:=ts) (sl:=sl) b h js;simp only[ki];have c:=eP h;by_cases a:i=j
  ·subst a;simp only[c,cV];simp
  have g:(i::js).contains j=js.contains j:=by
   rw[OM,show(j==i)=false from beq_eq_false_iff_ne.2 fun e=>a e.symm,Qm]
  rw[g];split
  ·next d hd=>
   rw[cV,if_neg,f];rintro rfl;exact a (gA b hd c)
  exact f
def za(ops:Array Oper)(fu:Nat)(dsts:List (Option Nat))(i:Nat)(anc:List Nat)(o:Oper):Bool:=(dN o.op).all fun s=>match eJ s dsts with
 |none=>true
 |some j=>cond (anc.contains j) (!Nat.beq j i&&reach ops fu i j) (Nat.beq j i||reach ops fu j i)
def IQ(ops:Array Oper)(fu:Nat)(ws:List Nat)(c:Cfg)(i:Nat):Bool:= !c.on.contains i&&ws.all fun j=>Nat.beq j i||cond (reach ops fu i j) (c.on.contains j) (cond (reach ops fu j i) (!c.on.contains j) true)
def J7(ws:List Nat)(c:Cfg)(L:Nat->Bool):Prop:=(∀j,ws.contains j=true->L j=c.on.contains j)/\∀j,c.on.contains j=true->ws.contains j=true
def wS(o:Oper)(S0:St)(K:Tree->Tree)(tt:Tree)(bs':List (TypeId×List Tree))(rs':List (Option Row)):Prop:=∀w0 G0 (S:St),S.n=S0.n->S.bs=S0.bs->S.rs=S0.rs->(∀s,(dN o.op).contains s=true->S0.get s=.any\/S.get s=S0.get s)->
 ∃S',n5 w0 G0 o S S'/\S'.n=S.n/\S'.bs=bs'/\S'.rs=rs'/\∀s,S'.get s=if o.dst=some s then tt else K (S.get s)
inductive TsK (ops:Array Oper) (fu i:Nat) (K:Tree->Tree):Nat->List Tree->List Tree->Prop
 |nil {j:Nat}:TsK ops fu i K j [] []
 |k {j:Nat} {t t':Tree} {ts ts':List Tree} (h:t'=K t) (r:TsK ops fu i K (j+1) ts ts'):TsK ops fu i K j (t::ts) (t'::ts')
 |a {j:Nat} {t t':Tree} {ts ts':List Tree} (h:t'=.any) (r:TsK ops fu i K (j+1) ts ts'):TsK ops fu i K j (t::ts) (t'::ts')
 |i {j:Nat} {t t':Tree} {ts ts':List Tree} (h:j=i) (r:TsK ops fu i K (j+1) ts ts'):TsK ops fu i K j (t::ts) (t'::ts')
 |d {j:Nat} {t t':Tree} {ts ts':List Tree} (h:reach ops fu j i=true) (r:TsK ops fu i K (j+1) ts ts'):TsK ops fu i K j (t::ts) (t'::ts')
theorem TsK.at{ops:Array Oper}{fu i:Nat}{K:Tree->Tree}:∀{j:Nat} {ts b:List Tree},TsK ops fu i K j ts b->∀q,b.getD q .any=K (ts.getD q .any)\/b.getD q .any=.any\/j+q=i\/reach ops fu (j+q) i=true
 |_,_,_,.nil,q=>.inr (.inl (by simp))
 |_,_,_,.k h _,0=>.inl (by simpa using h)
 |_,_,_,.a h _,0=>.inr (.inl (by simpa using h))
 |_,_,_,.i h _,0=>.inr (.inr (.inl h))
 |_,_,_,.d h _,0=>.inr (.inr (.inr h))
 |j,_,_,.k _ r,q+1=>by have:=r.at q;rw[show j+1+q=j+(q+1) by omega]at this;simpa using this
 |j,_,_,.a _ r,q+1=>by have:=r.at q;rw[show j+1+q=j+(q+1) by omega]at this;simpa using this
 |j,_,_,.i _ r,q+1=>by have:=r.at q;rw[show j+1+q=j+(q+1) by omega]at this;simpa using this
 |j,_,_,.d _ r,q+1=>by have:=r.at q;rw[show j+1+q=j+(q+1) by omega]at this;simpa using this
def Lt(i:Nat)(on on':List Nat):Bool:=on'.contains i&&(on.all fun j=>on'.contains j)&&on'.all fun j=>j==i||on.contains j
theorem Ek{i:Nat}{c a:List Nat}(h:Lt i c a=true)(j:Nat):a.contains j=(j==i||c.contains j):=by
 simp only[Lt,Ma]at h;obtain⟨⟨f,g⟩,e⟩:=h;cases b:a.contains j with
 |true=>exact(Mh.1 e j (MT.1 b)).symm
 |false=>
  symm;rw[Mz];constructor
  ·cases d:j==i with
   |false=>rfl
   |true=>rw[beq_iff_eq.1 d,f]at b;cases b
  cases d:c.contains j with
  |false=>rfl
  |true=>
   have:=Mh.1 g j (MT.1 d);rw[this]at b;cases b
inductive OpC (ops:Array Oper) (fu n:Nat) (dsts:List (Option Nat)) (ws:List Nat) (Cs:List Cfg) (i:Nat) (o:Oper) (anc:List Nat):List Cfg->Prop
 |nil:OpC ops fu n dsts ws Cs i o anc []
 |no {c:Cfg} {cs:List Cfg} (h:IQ ops fu ws c i=false) (r:OpC ops fu n dsts ws Cs i o anc cs):OpC ops fu n dsts ws Cs i o anc (c::cs)
 |ok {c:Cfg} {cs:List Cfg} {t:Tree} (hw:ws.contains i=false) (ht:c.ts[i]? =some t) (hg:o.guard=none) (h:OpOK o ⟨n,ki dsts c.ts c.sl anc,c.bs,c.rs⟩ t) (r:OpC ops fu n dsts ws Cs i o anc cs):OpC ops fu n dsts ws Cs i o anc (c::cs)
 |wr {c:Cfg} {cs:List Cfg} (m:Nat) {c':Cfg} (K:Tree->Tree) (tt:Tree) (hw:ws.contains i=true) (hm:Cs[m]? =some c') (hg:o.guard=none) (h:wS o ⟨n,ki dsts c.ts c.sl anc,c.bs,c.rs⟩ K tt c'.bs c'.rs) (hon:Lt i c.on c'.on=true) (hK:K .any=.any) (hsl:c.sl.map (fun p=>(p.1,K p.2))=c'.sl) (hti:c'.ts[i]? =some tt) (hts:TsK ops fu i K 0 c.ts c'.ts) (r:OpC ops fu n dsts ws Cs i o anc cs):OpC ops fu n dsts ws Cs i o anc (c::cs)
inductive StepsW (ops:Array Oper) (fu n:Nat) (dsts:List (Option Nat)) (ws:List Nat) (Cs:List Cfg):Nat->List Oper->Prop
 |nil {i:Nat}:StepsW ops fu n dsts ws Cs i []
 |op {i:Nat} {o:Oper} {os:List Oper} (anc:List Nat) (hr:za ops fu dsts i anc o=true) (h:OpC ops fu n dsts ws Cs i o anc Cs) (r:StepsW ops fu n dsts ws Cs (i+1) os):StepsW ops fu n dsts ws Cs i (o::os)
def JN(n:Nat)(dsts:List (Option Nat))(ws:List Nat)(Cs:List Cfg)(L:Nat->Bool)(S:St):Prop:=∃c,c∈Cs/\J7 ws c L/\S.n=n/\S.bs=c.bs/\S.rs=c.rs/\∀s,GK dsts c L s=.any\/S.get s=GK dsts c L s
section
variable {w0:World} {G0:Nat->Prop} {Q:Exit->St->Prop} {S:St} {ops:Array Oper} {fu n:Nat} {dsts:List (Option Nat)} {ws:List Nat} {Cs:List Cfg} {o:Oper}
theorem OpOK.up{S S':St}{t:Tree}(h:OpOK o S t)(f:S'.bs=S.bs)(d:S'.rs=S.rs)(g:∀s,(dN o.op).contains s=true->S.get s=.any\/S'.get s=S.get s):OpOK o S' t:=by
 intro w0 G0 bx rv w T c e;rw[f,d]at c;rw[d]at e⊢;refine h w0 G0 bx rv w T c fun s b=>?_
 rcases g s b with a|a
 ·rw[a];exact .any _ .nil
 rw[<-a];exact e s b
theorem Io{c:Cfg}{L:Nat->Bool}{i:Nat}{anc:List Nat}(h:bV n dsts=true)(k:za ops fu dsts i anc o=true)(e:Kn ops L i)(l:∀s,GK dsts c L s=.any\/S.get s=GK dsts c L s)(s:Nat)(m:(dN o.op).contains s=true):(⟨n,ki dsts c.ts c.sl anc,c.bs,c.rs⟩:St).get s=.any\/S.get s=(⟨n,ki dsts c.ts c.sl anc,c.bs,c.rs⟩:St).get s:=by
 have a:=Mh.1 k s (MT.1 m);have b:=l s;show look (ki dsts c.ts c.sl anc) s=.any\/S.get s=look (ki dsts c.ts c.sl anc) s
 unfold GK at b;cases d:eJ s dsts with
 |none=>
  rw[d]at b;rw[pu d];exact b
 |some j=>
  rw[d]at a b;dsimp only at a b;rw[wR h d];cases g:anc.contains j with
  |true=>
   simp only[g,cond_true]at a;simp only[Ma,Nj]at a;have f:L j=true:=e.up fu j (by rw[a.1,a.2];rfl);simp only[f,cond_true]at b;simpa using b
  |false=>
   simp only[g,cond_false,M5]at a;have f:L j=false:=by
    rcases a with a|a
    ·rw[N7 a];exact e.self
    exact e.down fu j a
   simp only[f,cond_false]at b;simpa using b
theorem GL{c:Cfg}{L:Nat->Bool}{i:Nat}(a:J7 ws c L)(d:Kn ops L i):IQ ops fu ws c i=true:=by
 unfold IQ;rw[Ma];refine⟨?_,Mh.2 fun j g=>?_⟩
 ·cases e:c.on.contains i with
  |false=>rfl
  |true=>
   have:=a.1 i (a.2 i e);rw[d.self,e]at this;cases this
 have b:=MT.2 g;cases f:Nat.beq j i with
 |true=>rfl
 |false=>
  cases h:reach ops fu i j with
  |true=>
   have:=a.1 j b;rw[d.up fu j (by rw[f,h];rfl)]at this;rw[<-this];rfl
  |false=>
   cases k:reach ops fu j i with
   |true=>
    have:=a.1 j b;rw[d.down fu j k]at this;rw[<-this];rfl
   |false=>rfl
theorem oe(L:Nat->Bool)(i:Nat):DU L i i=true:=by simp[DU]
theorem rJ{L:Nat->Bool}{i j:Nat}(h:j≠i):DU L i j=L j:=by
 unfold DU;cases a:Nat.beq j i with
 |true=>exact absurd (N7 a) h
 |false=>rfl
theorem El(q:bV n dsts=true){i:Nat}{anc:List Nat}(a:dsts[i]? =some o.dst)(E:za ops fu dsts i anc o=true){L:Nat->Bool}(y:Kn ops L i)(P:JN n dsts ws Cs L S):∀{cs:List Cfg},OpC ops fu n dsts ws Cs i o anc cs->(∀c,c∈Cs->c∈cs)->AOps w0 G0 ops [o] (fun e S'=>e=.normal/\JN n dsts ws Cs (DU L i) S') S:=by
 obtain⟨c,F,k,B,v,w,l⟩:=P;have H:cT S.n o.dst=true:=by
  cases M:o.dst with
  |none=>rfl
  |some d=>
   rw[B];rw[M]at a;clear E k l y F;induction dsts generalizing i with
   |nil=>simp at a
   |cons x xs ih=>
    cases i with
    |zero=>
     simp only[MW,MN]at a;subst a;simp only[bV,Ma]at q;simpa[cT]using q.1.2
    |succ i=>
     refine ih ?_ (by simpa using a);cases x with
     |none=>exact q
     |some _=>simp only[bV,Ma]at q;exact q.2
 have key:∀{cs:List Cfg},OpC ops fu n dsts ws Cs i o anc cs->c∈cs->AOps w0 G0 ops [o] (fun e S'=>e=.normal/\JN n dsts ws Cs (DU L i) S') S:=by
  intro cs h p;induction h with
  |nil=>cases p
  | @no c1 cs h _ ih=>
   rcases Mi.1 p with rfl|p
   ·rw[GL k y]at h;cases h
   exact ih p
  | @ok c1 cs t hw ht hg h _ ih=>
   rcases Mi.1 p with rfl|p
   ·have G:OpOK o S t:=h.up v w (Io q E y l);refine Bg hg H G (ag ⟨Z,c,F,⟨fun j g=>?_,k.2⟩,by rw[eo];exact B,by rw[dC];exact v,by rw[ch];exact w,fun s=>?_⟩)
    ·rw[rJ (fun e=>by rw[e,hw]at g;cases g)];exact k.1 j g
    rw[dk];have b:=l s;unfold GK at b⊢;cases r:eJ s dsts with
    |none=>
     rw[r]at b;have:o.dst≠some s:=fun e=>by
      rw[e]at a;have:=MT.2 (L9 a);rw[fI r]at this;cases this
     rw[if_neg this];exact b
    |some j=>
     rw[r]at b;dsimp only at b⊢;have g:=eP r;by_cases f:j=i
     ·subst f;rw[g]at a;injection a with a
      rw[if_pos a.symm,oe];right;simp[ht]
     rw[rJ f,if_neg (fun e=>f (by rw[e]at a;exact gA q g a))];exact b
   exact ih p
  | @wr c1 cs m c' K tt hw hm' hg h hon' hKa hsl' hti hts _ ih=>
   rcases Mi.1 p with rfl|p
   ·obtain⟨S',C,N,I,O,J⟩:=h w0 G0 S B v w (Io q E y l);refine eD hg C (ag ⟨Z,c',L9 hm',⟨fun j g=>?_,fun j g=>?_⟩,N.trans B,I,O,fun s=>?_⟩)
    ·rw[Ek hon'];by_cases f:j=i
     ·subst f;rw[oe];simp
     rw[rJ f,k.1 j g];have:(j==i)=false:=beq_eq_false_iff_ne.2 f;rw[this];rfl
    ·rw[Ek hon',M5]at g;rcases g with g|g
     ·rw[beq_iff_eq.1 g];exact hw
     exact k.2 j g
    rw[J];have b:=l s;have z:look c'.sl s=K (look c.sl s):=by rw[<-hsl',jp K hKa]
    unfold GK at b⊢;cases r:eJ s dsts with
    |none=>
     rw[r]at b;have:o.dst≠some s:=fun e=>by
      rw[e]at a;have:=MT.2 (L9 a);rw[fI r]at this;cases this
     simp only;rw[if_neg this,z];rcases b with b|b
     ·simp only at b;rw[b];exact .inl hKa
     simp only at b;rw[b];exact .inr Z
    |some j=>
     rw[r]at b;have g:=eP r;dsimp only at b⊢;by_cases f:j=i
     ·subst f;rw[g]at a;injection a with a
      rw[if_pos a.symm,oe,cond_true];right;simp[hti]
     rw[rJ f,if_neg (fun e=>f (by rw[e]at a;exact gA q g a))];cases D:L j with
     |false=>
      rw[D,cond_false]at b;rw[cond_false,z];rcases b with b|b
      ·rw[b];exact .inl hKa
      rw[b];exact .inr Z
     |true=>
      rw[D,cond_true]at b;rw[cond_true];rcases hts.at j with u|u|u|u
      ·rw[u];rcases b with b|b
       ·rw[b];exact .inl hKa
       rw[b];exact .inr Z
      ·exact .inl u
      ·exact absurd (by omega) f
      rw[M0]at u;have:=y.down fu j u;rw[D]at this;cases this
   exact ih p
 intro cs h A;exact key h (A c F)
theorem StepsW.at(c:bV n dsts=true)(d:ops.toList.map (·.dst)=dsts):∀{b:List Oper} {i:Nat},StepsW ops fu n dsts ws Cs i b->(∀(k:Nat) (o:Oper),b[k]? =some o->ops[i+k]? =some o)->∀(k:Nat) (o:Oper),b[k]? =some o->∀L,Kn ops L (i+k)->∀S,JN n dsts ws Cs L S->AOps w0 G0 ops [o] (fun e S'=>e=.normal/\JN n dsts ws Cs (DU L (i+k)) S') S
 |_,_,.nil,_,k,o,h,_,_,_,_=>by simp at h
 |_,i,.op anc hr h _,hall,0,o,ho,L,hK,S,hS=>by
  have a:=hall 0 o ho;simp only[MW,MN]at ho;subst ho;refine El c ?_ hr hK hS h (fun _ h=>h);rw[No]at a;rw[<-d,MQ,Np,a];rfl
 |_,i,.op _ _ _ r,hall,k+1,o,ho,L,hK,S,hS=>by
  have:=r.at c d (fun q x f=>by have:=hall (q+1) x (by simpa using f);rwa[show i+(q+1)=i+1+q by omega]at this) k o (by simpa using ho) L (by rw[show i+1+k=i+(k+1) by omega];exact hK) S hS;rw[show i+1+k=i+(k+1) by omega]at this;exact this
theorem Sim.leG{S':St}{a:Act}{w:World}(h:Sim w0 G0 S a w)(g:S'.n=S.n)(k:S'.bs=S.bs)(f:S'.rs=S.rs)(l:∀s,S'.get s=.any\/S'.get s=S.get s):Sim w0 G0 S' a w:=by
 obtain⟨bx,rv,j,d,b,c⟩:=h;refine⟨bx,rv,by rw[k,f];exact j,by rw[g];exact d,b,fun i=>?_⟩;rw[f];rcases l i with e|e
 ·rw[e];exact .any _ .nil
 rw[e];exact c i
theorem mE{s:Nat}:∀(a:List (Option Nat)) (ts:List Tree) (sl:List (Nat×Tree)),eJ s a=none->look (iS sl a ts) s=look sl s
 |[],ts,sl,_=>by cases sl<;>rfl
 |some d::a,[],sl,_=>rfl
 |none::a,[],sl,_=>rfl
 |some d::a,t::ts,sl,h=>by
  simp only[eJ]at h;split at h
  ·cases h
  next hne=>
  simp only[Pi]at h;simp only[iS];rw[mE a ts _ h,cV,if_neg (fun e=>hne (by rw[e]))]
 |none::a,t::ts,sl,h=>by
  simp only[eJ]at h;split at h
  ·cases h
  simp only[Pi]at h;simp only[iS];exact mE a ts _ h
theorem rK{s n:Nat}:∀(a:List (Option Nat)) (ts:List Tree) (sl:List (Nat×Tree)) (j:Nat),bV n a=true->a.length=ts.length->eJ s a=some j->look (iS sl a ts) s=ts.getD j .any
 |[],ts,sl,j,_,_,h=>by simp[eJ]at h
 |some d::a,[],sl,j,_,hl,_=>by simp at hl
 |none::a,[],sl,j,_,hl,_=>by simp at hl
 |some d::a,t::ts,sl,j,ha,hl,h=>by
  simp only[bV,Ma,Nj]at ha;simp only[eJ]at h;simp only[iS];split at h
  ·next b=>
   cases h;injection b with b
   subst b;have:eJ d a=none:=by
    cases e:eJ d a with
    |none=>rfl
    |some q=>
     have:=MT.2 (L9 (eP e));rw[ha.1.1]at this;cases this
   rw[mE a ts _ this,cV,if_pos Z];rfl
  simp only[Na]at h;obtain⟨q,c,rfl⟩:=h;rw[rK a ts _ q ha.2 (by simpa using hl) c];simp
 |none::a,t::ts,sl,j,ha,hl,h=>by
  simp only[eJ]at h;simp only[iS];split at h
  ·next b=>cases b
  simp only[Na]at h;obtain⟨q,c,rfl⟩:=h;rw[rK a ts _ q ha (by simpa using hl) c];simp
theorem fz{id fu n:Nat}{ops:List Oper}{sl sl':List (Nat×Tree)}{bs:List (TypeId×List Tree)}{rs:List (Option Row)}(dsts:List (Option Nat))(ws:List Nat)(ts:List Tree)(P:List Cfg)(l:Cfg)(B:dM ops.toArray=true)(R:ops.map (·.dst)=dsts)(q:bV n dsts=true)(H:(ws.all fun j=>Nat.blt j ops.length)=true)(A:((⟨[],sl,bs,rs,ts⟩::P).all fun c=> !(ws.all fun j=>c.on.contains j))=true)(u:dsts.length=l.ts.length)(m:iS l.sl dsts l.ts=sl')
  (X:StepsW ops.toArray fu n dsts ws ((⟨[],sl,bs,rs,ts⟩::P)++[l]) 0 ops) (k:Q .normal ⟨n,sl',l.bs,l.rs⟩):AWP w0 G0 (.region id ops.toArray true) Q ⟨n,sl,bs,rs⟩:=by
 subst m;intro a w d;refine dF (fun L a W=>L.size=ops.toArray.size/\Closed ops.toArray L/\∃S,JN n dsts ws ((⟨[],sl,bs,rs,ts⟩::P)++[l]) (fun j=>L.getD j false) S/\Sim w0 G0 S a W) (by kernel_rfl) B ⟨by simp,eI _,⟨n,sl,bs,rs⟩,?_,d.drew⟩ ?_ ?_
 ·have:(fun j=>(Array.replicate ops.toArray.size false).getD j false)=fun _=>false:=by
   funext j;cases h:(Array.replicate ops.toArray.size false).getD j false with
   |false=>rfl
   |true=>exact absurd h dG
  rw[this];refine⟨⟨[],sl,bs,rs,ts⟩,by simp,⟨fun j b=>rfl,fun j b=>by simp at b⟩,Z,Z,Z,fun s=>?_⟩;right;unfold GK;split<;>rfl
 ·rintro L a W i o C f z T ⟨_,t,S,hS,d⟩;have hi:i<ops.toArray.size:=(ML.1 z).1;have x:L.getD i false=false:=getD_both f;have J:∀n j,j≠i->reach ops.toArray n i j=true->L.getD j false=true:=fun n j b E=>by
   have D:=t.step z T;have:=D.reach n i j E (cM (by omega));rwa[am (fun e=>b e.symm)]at this
  have M:∀n j,reach ops.toArray n j i=true->L.getD j false=false:=fun n j E=>by
   cases Y:L.getD j false with
   |false=>rfl
   |true=>
    have:=t.reach n j i E Y;rw[x]at this;cases this
  have U:Kn ops.toArray (fun j=>L.getD j false) i:=⟨x,fun n j b=>by
   simp only[Ma,Nj]at b;exact J n j (fun e=>by subst e;simp at b) b.2,M⟩
  have y:=X.at (w0:=w0) (G0:=G0) q (by simpa using R) (fun k o ho=>by simpa using ho) i o (by simpa using z) (fun j=>L.getD j false) (by rw[M0];exact U) S hS a W d;rw[M0]at y;refine rH ?_ y;rintro e a' W' ⟨S',⟨rfl,G⟩,p⟩;refine⟨by simpa using C,t.step z T,S',?_,p⟩;have:(fun j=>(L.setIfInBounds i true).getD j false)=DU (fun j=>L.getD j false) i:=by
   funext j;by_cases b:j=i
   ·subst b;rw[cM (by omega),oe]
   rw[am (fun e=>b e.symm),rJ b]
  rw[this];exact G
 rintro L a W C ⟨_,_,S,⟨c,t,I,V,F,N,m⟩,d⟩;have g:∀j,j<ops.length->L.getD j false=true:=fun j b=>C j (by simpa using b)
 have K:c=l:=by
  rcases My.1 t with h|h
  ·have:=Mh.1 A c h;simp only[Nj]at this;rw[PO]at this;obtain⟨j,b,O⟩:=this;have:=I.1 j (MT.2 b);have r:=Mh.1 H j b;rw[Nn]at r;simp only[g j r]at this;exact absurd this.symm O
  exact Ml.1 h
 subst K;refine⟨_,k,d.leG V.symm F.symm N.symm fun s=>?_⟩;have f:=m s;show look (iS c.sl dsts c.ts) s=.any\/look (iS c.sl dsts c.ts) s=S.get s
 unfold GK at f;cases v:eJ s dsts with
 |none=>
  rw[v]at f;rw[mE _ _ _ v];exact f.imp (fun h=>h) Eq.symm
 |some j=>
  rw[v]at f;dsimp only at f;rw[rK _ _ _ j q u v];have b:=(L7.1 (eP v)).1;have:L.getD j false=true:=g j (by rw[<-R]at b;simpa using b);simp only[this,cond_true]at f;exact f.imp (fun h=>h) Eq.symm
end
theorem iw{w0:World}{G0:Nat->Prop}{c:Code}{Q:Exit->St->Prop}{n:Nat}{sl sl':List (Nat×Tree)}{bs:List (TypeId×List Tree)}{rs:List (Option Row)}(b:KeepsP ⟨n,sl,bs,rs⟩ sl')(h:AWP w0 G0 c Q ⟨n,sl',bs,rs⟩):AWP w0 G0 c Q ⟨n,sl,bs,rs⟩:=fun a w d=>h a w (d.leP ⟨Z,Z,Z,b⟩)
theorem og{S a:St}{op:Op}{x:Operand}{t:Tree}(i:∀s,(dN op).contains s=true->a.get s=.any\/S.get s=a.get s)(d:x∈op.operands.toList)(h:a.ev x=t)(c:t≠ .any):S.ev x=t:=by
 cases x with
 |tmp s=>
  have e:(dN op).contains s=true:=MT.2 (PG.2 ⟨_,d,Z⟩);rcases i s e with b|b
  ·exact absurd (h.symm.trans b) c
  exact b.trans h
 |const v=>exact h
 |global g=>exact h
 |func f=>exact h
theorem kj{o:Oper}{n d k m b:Nat}{sl:List (Nat×Tree)}{bs bs':List (TypeId×List Tree)}{rs rs':List (Option Row)}{x y:Operand}{t:TypeId}{R:Row}{a:List Tree}(l:o.op=.call {callee:=.builtin .append,args:=#[x,y],argTypes:=#[t,t]})(E:o.dst=some d)(u:Nat.blt d n=true)(D:lM Tryz.prog t=some (R.e,R.sz,b))(z:St.ev ⟨n,sl,bs,rs⟩ x=.own k)(B:rs[k]? =some (some R))(A:St.ev ⟨n,sl,bs,rs⟩ y=.sl a)(G:R.sz=m)(w:Sized m a)(C:AllC Tree.one a)(F:AllC Tree.noDig a)(v:R.es.length+a.length<=1073741824)(H:Nat.ble b 100000=true)(f:bs.map (fun p=>(p.1,p.2.map (gZ k)))=bs')(h:rs.set k (some ⟨R.e,R.sz,R.es++a,false⟩)=rs'):wS o ⟨n,sl,bs,rs⟩ (lI k) (.own k) bs' rs':=by
 subst G f h;intro w0 G0 S r q i c;dsimp only at r q i;have g:=og c (by rw[l];simp[Op.operands,Call.operands]) z (by simp);have j:=og c (by rw[l];simp[Op.operands,Call.operands]) A (by simp);refine⟨_,tU (S:=S) l (by rw[E,r];simpa[cT,Nn]using u) D g (by rw[i];exact B) j w C F v (by simpa using H),by rw[eo];rfl,by rw[dC,<-q];rfl,by rw[ch];dsimp only;rw[i],fun s=>?_⟩;rw[dk];split
 ·rfl
 exact p8 S k s
theorem gJ{o:Oper}{n b off m:Nat}{sl:List (Nat×Tree)}{bs bs':List (TypeId×List Tree)}{rs:List (Option Row)}{ty l:TypeId}{x y:Operand}{cs:List Tree}{t:Tree}(i:o.op=.store ty x y)(a:o.dst=none)(q:St.ev ⟨n,sl,bs,rs⟩ x=.box b off)(z:bs[b]? =some (l,cs))(u:St.ev ⟨n,sl,bs,rs⟩ y=t)(j:t.oneA=true)(w:t.cells.all Tree.one=true)(p:t.cells.all Tree.noDig=true)(A:(Tryz.prog.info? ty).map (·.size)=some m)(r:t.cells.length=m)(d:Nat.ble (off+m) cs.length=true)(f:bs.set b (l,D8 cs off t)=bs'):wS o ⟨n,sl,bs,rs⟩ id .any bs' rs:=by
 subst f;intro w0 G0 S v e k c;dsimp only at v e k;have g:=og c (by rw[i];simp[Op.operands]) q (by simp);have h:=og c (by rw[i];simp[Op.operands]) u (by rintro rfl;simp[Tree.oneA,Tree.one]at j);refine⟨_,kX (S:=S) i a g (by rw[e];exact z) h j w p A r (by simpa using d),Z,by rw[e],k,fun s=>?_⟩;rw[a,if_neg (by simp)];rfl
theorem iI{o:Oper}{n d b:Nat}{sl:List (Nat×Tree)}{bs bs':List (TypeId×List Tree)}{rs:List (Option Row)}{ty:TypeId}{e:List Value}{cs:List Tree}(k:o.op=.alloc ty)(m:o.dst=some d)(j:Nat.blt d n=true)(i:gc Tryz.prog ty=some e)(q:e.all bL=true)(l:e.map dg=cs)(h:bs.length=b)(c:bs++[(ty,cs)]=bs'):wS o ⟨n,sl,bs,rs⟩ id (.box b 0) bs' rs:=by
 subst l h c;intro w0 G0 S g a f p;dsimp only at g a f;refine⟨_,rD (S:=S) k (by rw[m,g];simpa[cT,Nn]using j) i q,by rw[eo],by rw[dC,a],by rw[ch,f],fun s=>?_⟩;rw[dk,a];rfl
end Go.Proofs.YtfoejfohbkmmeaaGreatDoor
