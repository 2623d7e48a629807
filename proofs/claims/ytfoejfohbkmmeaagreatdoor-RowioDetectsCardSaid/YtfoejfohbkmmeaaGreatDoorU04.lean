import Derived.Test.YtfoejfohbkmmeaaGreatDoorU03
import Derived.Test.YtfoejfohbkmmeaaGreatDoorU00
import Derived.Deep.MidRow
import Derived.Laws.IdiomStrings
import Derived.Lib.BufferRead
namespace Go.Proofs.YtfoejfohbkmmeaaGreatDoor
open Go.RowKit
open Lib renaming hid→J
structure Row where
 e:TypeId
 sz:Nat
 es:List Tree
 tt:Bool
structure St where
 n:Nat
 sl:List (Nat×Tree)
 bs:List (TypeId×List Tree)
 rs:List (Option Row)
def look:List (Nat×Tree)->Nat->Tree
 |[],_=>.any
 |(i,t)::l,j=>cond (Nat.beq i j) t (look l j)
theorem cV(i:Nat)(t:Tree)(l:List (Nat×Tree))(j:Nat):look ((i,t)::l) j=if i=j then t else look l j:=by
 simp only[look];by_cases h:i=j
 ·subst h;simp
 rw[if_neg h];have:Nat.beq i j=false:=by
  cases a:Nat.beq i j with
  |false=>rfl
  |true=>exact absurd (N7 a) h
 rw[this];rfl
def St.get(S:St)(i:Nat):Tree:=look S.sl i
def St.put(S:St)(d:Option Nat)(t:Tree):St:=
 match d with
 |some d=>{S with sl:=(d,t)::S.sl}
 |none=>S
def St.ev(S:St):Operand->Tree
 | .tmp s=>S.get s
 | .const v=>.sc v
 | .global g=>.sc (.pointer (some ⟨g,0,none⟩))
 | .func f=>.sc (.func (.func f) #[] #[])
def cT(n:Nat):Option Nat->Bool
 |some d=>decide (d<n)
 |none=>true
def bL:Value->Bool
 | .int .u32 _=>false
 |_=>true
def NoDigB(w:World)(g:Nat):Prop:=∀i u,w.cell? ⟨g,i,none⟩=some u->bL u=true
theorem NoDigB.of{w w':World}{g:Nat}(h:NoDigB w g)(b:w'.heap[g]? =w.heap[g]?):NoDigB w' g:=fun i u a=>h i u (by rw[<-a];exact(World.cell?_of_block b).symm)
def np(v:Value):Prop:=∀A m c,v=.slice A m c->c=m
def cq(bx:List Nat)(rv:List Value)(rs:List (Option Row)):List Nat:=bx++(rv.zip rs).filterMap fun p=>p.2.bind fun _=>p.1.ownBlock
def GG(G0:Nat->Prop)(bx:List Nat)(rv:List Value)(rs:List (Option Row)):Nat->Prop:=fun b=>G0 b\/b∈cq bx rv rs
def fh(rv:List Value)(rs:List (Option Row))(k:Nat):Option Value:=((rs[k]?).bind id).bind fun _=>rv[k]?
def en(w:World)(G0:Nat->Prop)(bx:List Nat)(rv:List Value)(rs:List (Option Row)):En:=⟨w,GG G0 bx rv rs,fun i=>bx[i]?,fh rv rs⟩
structure Apart (bx:List Nat) (rv:List Value) (rs:List (Option Row)):Prop where
 bb:bx.Nodup
 br:∀(k:Nat) (v:Value) (R:Row) (b:Nat),rv[k]? =some v->rs[k]? =some (some R)->v.ownBlock=some b->b∉bx
 rr:∀(j k:Nat) (u v:Value) (X R:Row) (b:Nat),j≠k->rv[j]? =some u->rs[j]? =some (some X)->rv[k]? =some v->rs[k]? =some (some R)->u.ownBlock=some b->v.ownBlock=some b->False
structure Mem (w0:World) (G0:Nat->Prop) (bs:List (TypeId×List Tree)) (rs:List (Option Row)) (bx:List Nat) (rv:List Value) (w:World):Prop where
 below:Below w0.heap.size w0 w
 env0:Env w0
 g0:∀g,G0 g->g<w0.heap.size/\NoDigB w0 g
 nb:bx.length=bs.length
 nr:rv.length=rs.length
 box:∀(i g:Nat),bx[i]? =some g->∃ty cs us,bs[i]? =some (ty,cs)/\IsBlk w g ty us.toArray/\FT (en w G0 bx rv rs) us cs/\us.all bL=true
 row:∀(k:Nat) (v:Value) (R:Row),rv[k]? =some v->rs[k]? =some (some R)->∃xs,w.ownsRow w0.heap.size R.e R.sz v R.es.length xs/\PT w (GG G0 bx rv rs) xs (flat R.es)/\(Sized R.sz R.es/\(R.tt=true->np v))/\∀g,v.ownBlock=some g->NoDigB w g
 nodup:Apart bx rv rs
 ge:∀b∈cq bx rv rs,w0.heap.size<=b
section
variable {w0 w w':World} {G0:Nat->Prop} {bs:List (TypeId×List Tree)} {rs:List (Option Row)} {bx:List Nat} {rv:List Value}
theorem FT.later{us:List Value}{ts:List Tree}(h:FT (en w G0 bx rv rs) us ts)(c:Below w.heap.size w w'):FT (en w' G0 bx rv rs) us ts:=
 h.mono c.size (fun b a d=>⟨c.block b a,d⟩) (fun _ _ h=>h) (fun _ _ h=>h)
theorem Mem.later(h:Mem w0 G0 bs rs bx rv w)(a:Below w.heap.size w w'):Mem w0 G0 bs rs bx rv w':=by
 refine⟨ak h.below a h.below.size,h.env0,h.g0,h.nb,h.nr,fun i g j=>?_,fun k v R l m=>?_,h.nodup,h.ge⟩
 ·obtain⟨ty,cs,us,b,c,d,e⟩:=h.box i g j;exact⟨ty,cs,us,b,c.below a c.lt,d.later a,e⟩
 obtain⟨xs,b,c,d,e⟩:=h.row k v R l m;exact⟨xs,dz b a,c.later a,d,fun g f=>(e g f).of (a.block g (b.lt g f).2)⟩
theorem Mem.env(h:Mem w0 G0 bs rs bx rv w):Env w:=h.env0.below h.below (L5 _)
theorem aX{b:Nat}:b∈cq bx rv rs↔b∈bx\/∃(k:Nat) (v:Value) (R:Row),rv[k]? =some v/\rs[k]? =some (some R)/\v.ownBlock=some b:=by
 simp only[cq,My,PG];refine or_congr OU ⟨?_,?_⟩
 ·rintro⟨⟨v,r⟩,g,c⟩;obtain⟨k,e,d⟩:=Nb g;simp only[List.getElem_zip,Pk]at d;have a:k<rv.length/\k<rs.length:=by rw[List.length_zip]at e;omega
  cases r with
  |none=>simp at c
  |some R=>
   refine⟨k,v,R,?_,?_,by simpa using c⟩
   ·rw[L4 a.1,d.1]
   rw[L4 a.2,d.2]
 rintro⟨k,v,R,f,h,c⟩;refine⟨(v,some R),?_,by simpa using c⟩;refine L9 (i:=k) ?_;rw[List.getElem?_zip_eq_some];exact⟨f,h⟩
theorem Mem.ok(h:Mem w0 G0 bs rs bx rv w):∀g,GG G0 bx rv rs g->g<w.heap.size/\NoDigB w g:=by
 rintro g (b|b)
 ·have a:=h.g0 g b;exact⟨Mp a.1 h.below.size,a.2.of (h.below.block g a.1)⟩
 rcases aX.1 b with a|⟨k,v,R,m,n,d⟩
 ·obtain⟨i,l,rfl⟩:=Nb a;obtain⟨ty,cs,us,_,f,_,c⟩:=h.box i _ (L4 l);refine⟨f.lt,fun j u e=>?_⟩;rw[f.cell j]at e;exact Mh.1 c u (L9 (by simpa using e))
 obtain⟨xs,a,_,_,c⟩:=h.row k v R m n;exact⟨(a.lt g d).2,c g d⟩
end
def Sim(w0:World)(G0:Nat->Prop)(S:St)(a:Act)(w:World):Prop:=
 ∃bx rv,Mem w0 G0 S.bs S.rs bx rv w/\a.tmps.size=S.n/\a.defers=[]/\∀i,FT (en w G0 bx rv S.rs) [a.tmps.getD i undef] [S.get i]
def yW(w0:World)(G0:Nat->Prop)(Q:Exit->St->Prop)(e:Exit)(a:Act)(w:World):Prop:=∃S,Q e S/\Sim w0 G0 S a w
def dN(o:Op):List Nat:=o.operands.toList.filterMap fun| .tmp t=>some t|_=>none
def OpOK(o:Oper)(S:St)(t:Tree):Prop:=∀(w0:World) (G0:Nat->Prop) (bx:List Nat) (rv:List Value) (w:World) (T:Nat->Value),Mem w0 G0 S.bs S.rs bx rv w->
 (∀s,(dN o.op).contains s=true->FT (en w G0 bx rv S.rs) [T s] [S.get s])->OpRuns Tryz.prog o T w fun v w'=>FT (en w' G0 bx rv S.rs) [v] [t]/\Below w.heap.size w w'
def AOps(w0:World)(G0:Nat->Prop)(ops:Array Oper)(rest:List Oper)(Q:Exit->St->Prop)(S:St):Prop:=∀a w,Sim w0 G0 S a w->wpList Tryz.prog ops (yW w0 G0 Q) rest a w
def AWP(w0:World)(G0:Nat->Prop)(c:Code)(Q:Exit->St->Prop)(S:St):Prop:=∀a w,Sim w0 G0 S a w->c.wp Tryz.prog (yW w0 G0 Q) a w
section
variable {w0:World} {G0:Nat->Prop} {ops:Array Oper} {rest:List Oper} {Q:Exit->St->Prop} {S:St} {o:Oper}
theorem ga(a:Act)(d:Option Nat)(v:Value)(n:Nat)(c:a.tmps.size=n)(b:cT n d=true)(i:Nat):(a.put d v).tmps.getD i undef=if d=some i then v else a.tmps.getD i undef:=by
 cases d with
 |none=>simp[Act.put]
 |some d=>
  simp only[cT,decide_eq_true_eq]at b;simp only[Act.put,MN];by_cases h:d=i
  ·subst h;rw[if_pos Z,MV,Array.getElem?_setIfInBounds_self_of_lt (by omega)];rfl
  rw[if_neg h,MV,MV,Array.getElem?_setIfInBounds_ne h]
theorem dB(a:Act)(d:Option Nat)(v:Value):(a.put d v).tmps.size=a.tmps.size:=by cases d<;>simp[Act.put]
theorem cH(a:Act)(d:Option Nat)(v:Value):(a.put d v).defers=a.defers:=by cases d<;>rfl
theorem dk(S:St)(d:Option Nat)(t:Tree)(i:Nat):(S.put d t).get i=if d=some i then t else S.get i:=by
 cases d with
 |none=>simp[St.put]
 |some d=>simp only[St.put,St.get,cV,MN]
theorem eo(S:St)(d:Option Nat)(t:Tree):(S.put d t).n=S.n:=by cases d<;>rfl
theorem dC(S:St)(d:Option Nat)(t:Tree):(S.put d t).bs=S.bs:=by cases d<;>rfl
theorem ch(S:St)(d:Option Nat)(t:Tree):(S.put d t).rs=S.rs:=by cases d<;>rfl
theorem gY{a:Act}{w w':World}{bx:List Nat}{rv:List Value}{t:Tree}{v:Value}{rs:List (Option Row)}(b:a.tmps.size=S.n)(d:cT S.n o.dst=true)(e:∀us ts,FT (en w G0 bx rv S.rs) us ts->FT (en w' G0 bx rv rs) us ts)
  (f:∀i,FT (en w G0 bx rv S.rs) [a.tmps.getD i undef] [S.get i]) (c:FT (en w' G0 bx rv rs) [v] [t]):∀i,FT (en w' G0 bx rv rs) [(a.put o.dst v).tmps.getD i undef] [(S.put o.dst t).get i]:=fun i=>by
 rw[ga a o.dst v S.n b d,dk];split
 ·exact c
 exact e _ _ (f i)
theorem ag(h:Q .normal S):AOps w0 G0 ops [] Q S:=fun _ _ a=>⟨S,h,a⟩
theorem tS(d:∀a w,Sim w0 G0 S a w->Region.wanted o (yielded ops a.tmps)=true)(m:cT S.n o.dst=true){t:Tree}(h:OpOK o S t)(k:AOps w0 G0 ops rest Q (S.put o.dst t)):AOps w0 G0 ops (o::rest) Q S:=by
 intro a w i;have d:=d a w i;obtain⟨bx,rv,g,f,c,b⟩:=i;refine ec d fun K j=>?_
 have p:=(h w0 G0 bx rv w (fun s=>a.tmps.getD s undef) g fun s _=>b s).wp (Q:=yW w0 G0 Q);refine Oper.wp_mono ?_ p;rintro q w' ⟨v,rfl,l,e⟩;refine j _ _ (k _ _ ⟨bx,rv,?_,by rw[dB,eo,f],by rw[cH,c],?_⟩)
 ·rw[dC,ch];exact g.later e
 rw[ch];exact gY f m (fun _ _ h=>h.later e) b l
theorem Bg(a:o.guard=none)(b:cT S.n o.dst=true){t:Tree}(h:OpOK o S t)(k:AOps w0 G0 ops rest Q (S.put o.dst t)):AOps w0 G0 ops (o::rest) Q S:=
 tS (fun _ _ _=>by simp[Region.wanted,a]) b h k
theorem ae{id:Nat}{ops:List Oper}(h:AOps w0 G0 ops.toArray ops Q S):AWP w0 G0 (.region id ops.toArray false) Q S:=fun a w b=>wp_region_list (by simpa using h a w b)
end
def qF(P:Program)(t:TypeId):Option Nat:=
 match P.underlying t with
 |some d=>if d.isRow then(P.info? t).map (·.size)else none
 |none=>none
def iU(P:Program)(t:TypeId):Bool:=
 match P.underlying t with
 |some d=> !d.isRow
 |none=>false
def j4(P:Program)(s:TypeId)(j:Nat):Option Nat:=
 match P.underlying s with
 |some (.struct fs)=>(fs[j]?).bind fun f=>(P.info? f.type).bind fun i=>if i.size=0 then none else some f.offset
 |_=>none
def gE(P:Program)(t:TypeId):Option (TypeId×Nat):=
 match P.underlying t with
 |some (.slice e)=>(P.info? e).map fun i=>(e,i.size)
 |_=>none
theorem vh{P:Program}{t:TypeId}{n:Nat}(h:qF P t=some n):∃d,P.underlying t=some d/\d.isRow=true/\(P.info? t).map (·.size)=some n:=by
 unfold qF at h;cases a:P.underlying t with
 |none=>simp[a]at h
 |some d=>
  simp only[a]at h;split at h
  ·exact⟨d,Z,by assumption,h⟩
  cases h
theorem vk{P:Program}{t:TypeId}(h:iU P t=true):∃d,P.underlying t=some d/\d.isRow=false:=by
 unfold iU at h;cases a:P.underlying t with
 |none=>simp[a]at h
 |some d=>exact⟨d,Z,by simpa[a]using h⟩
theorem GB{P:Program}{s:TypeId}{j o:Nat}(h:j4 P s j=some o):∃a f i,P.underlying s=some (.struct a)/\a[j]? =some f/\P.info? f.type=some i/\i.size≠0/\f.offset=o:=by
 unfold j4 at h;split at h
 ·next a hu=>
  cases c:a[j]? with
  |none=>simp[c]at h
  |some f=>
   simp only[c,Nc]at h;cases b:P.info? f.type with
   |none=>simp[b]at h
   |some i=>
    simp only[b,Nc]at h;split at h
    ·cases h
    exact⟨a,f,i,hu,c,b,by assumption,by simpa using h⟩
 cases h
theorem jI{P:Program}{t e:TypeId}{n:Nat}(h:gE P t=some (e,n)):P.underlying t=some (.slice e)/\∃i,P.info? e=some i/\i.size=n:=by
 unfold gE at h;split at h
 ·next e' hu=>
  cases a:P.info? e' with
  |none=>simp[a]at h
  |some i=>
   simp only[a,Nu,MN,Pk]at h;obtain⟨rfl,rfl⟩:=h;exact⟨hu,i,a,Z⟩
 cases h
section
variable {P:Program} {w:World}
theorem iV{b o:Nat}{t:TypeId}{u:Value}(h:iU P t=true)(e:w.cell? ⟨b,o,none⟩=some u):(Instr.loadAt t (.pointer (some ⟨b,o,none⟩))).run P w=.ok u w:=by
 obtain⟨d,c,f⟩:=vk h;have a:(isAgg t).run P w=.ok false w:=by
  unfold isAgg;rw[Sem.run_bind,run_underlying c w];cases d<;>simp_all
 simp[Instr.loadAt,Instr.sureAddr,loadVar,a,e]
theorem kU{b o fo:Nat}{s:TypeId}{j:Nat}(h:j4 P s j=some fo):(Instr.fieldAt s (.pointer (some ⟨b,o,none⟩)) j).run P w=.ok (.pointer (some ⟨b,o+fo,none⟩)) w:=by
 obtain⟨g,f,i,c,e,a,d,rfl⟩:=GB h;simp[Instr.fieldAt,Instr.sureAddr,fieldPlace,run_underlying c,e,sizeOf,typeInfo,a,d,Addr.add_mid]
theorem kV{b o n c m:Nat}{t e:TypeId}{k:IntKind}{i:Int}(h:gE P t=some (e,m))(f:0<=i)(g:i<n):(Instr.indexAt t (.slice (some ⟨b,o,none⟩) n c) (.int k i)).run P w=.ok (.pointer (some ⟨b,o+i.toNat*m,none⟩)) w:=by
 obtain⟨d,j,a,rfl⟩:=jI h;simp[Instr.indexAt,asIntOf,run_underlying d,sizeOf,typeInfo,a,f,g,Addr.add_mid]
end
section
variable {S:St} {o:Oper}
theorem wH{op:Op}{s:Nat}(h:Operand.tmp s∈op.operands.toList):(dN op).contains s=true:=by
 simp only[MT,dN,PG];exact⟨_,h,Z⟩
theorem D3{E:En}{T:Nat->Value}{op:Op}(b:∀s,(dN op).contains s=true->FT E [T s] [S.get s]){x:Operand}(a:x∈op.operands.toList):FT E [cA T x] [S.ev x]:=by
 cases x with
 |tmp s=>exact b s (wH a)
 |const v=>exact .pure (.sc v .nil) .nil
 |global g=>exact .pure (.sc _ .nil) .nil
 |func f=>exact .pure (.sc _ .nil) .nil
theorem bI{E:En}{T:Nat->Value}{op:Op}(b:∀s,(dN op).contains s=true->FT E [T s] [S.get s]){x:Operand}{t:Tree}(c:S.ev x=t)(a:x∈op.operands.toList):FT E [cA T x] [t]:=c▸D3 b a
theorem aw{x:Operand}{t:Tree}(a:o.op=.move x)(c:S.ev x=t):OpOK o S t:=by
 intro w0 G0 bx rv w T d b;have h:=bI b c (by rw[a];simp[Op.operands]);exact aq (v:=cA T x) (W':=w) (by simp[execOp,a]) ⟨h,Below.refl _ _⟩
theorem bW{x:Operand}{t:Tree}(a:o.op=.assign x)(c:S.ev x=t):OpOK o S t:=by
 intro w0 G0 bx rv w T d b;have h:=bI b c (by rw[a];simp[Op.operands]);exact aq (v:=cA T x) (W':=w) (by simp[execOp,a]) ⟨h,Below.refl _ _⟩
theorem cW{v:Value}{t:Tree}(a:o.op=.move (.const v)\/o.op=.assign (.const v))(h:∀W G,PT W G [v] [t]):OpOK o S t:=by
 intro w0 G0 bx rv w T b c;refine aq (v:=v) (W':=w) ?_ ⟨.pure (h _ _) .nil,Below.refl _ _⟩;rcases a with a|a<;>simp[execOp,a,cA]
theorem dI(W:World)(G:Nat->Prop):PT W G [.slice none 0 0] [.sl []]:=.sl0 none 0 (fun _=>rfl) (by omega) .nil
theorem Bh{c a b:Operand}{x:Bool}{t:Tree}(d:o.op=.pick c a b)(g:S.ev c=.sc (.bool x))(f:S.ev (if x then a else b)=t):OpOK o S t:=by
 intro w0 G0 bx rv w T j e;have h:=(bI e g (by rw[d];simp[Op.operands])).isSc;have i:FT (en w G0 bx rv S.rs) [cA T (if x then a else b)] [t]:=bI e f (by rw[d];cases x<;>simp[Op.operands]);refine aq (v:=cA T (if x then a else b)) (W':=w) ?_ ⟨i,Below.refl _ _⟩;cases x<;>simp[execOp,d,h,asBool]
theorem jn{w0 w:World}{G0:Nat->Prop}{bs:List (TypeId×List Tree)}{rs:List (Option Row)}{bx:List Nat}{rv:List Value}{k:Nat}{R:Row}{v:Value}(c:Mem w0 G0 bs rs bx rv w)(b:rs[k]? =some (some R))(h:FT (en w G0 bx rv rs) [v] [.own k]):
  rv[k]? =some v/\∃xs,w.ownsRow w0.heap.size R.e R.sz v R.es.length xs/\PT w (GG G0 bx rv rs) xs (flat R.es)/\(Sized R.sz R.es/\(R.tt=true->np v))/\∀g,v.ownBlock=some g->NoDigB w g:=by
 have a:fh rv rs k=some v:=h.isOwn.1;simp only[fh,b,Nc,id]at a;exact⟨a,c.row k v R a b⟩
theorem cc{w:World}{base:Nat}{e:TypeId}{sz n:Nat}{v:Value}{xs:List Value}(h:w.ownsRow base e sz v n xs):∃A c,v=.slice A n c:=by
 rcases h.2 with⟨rfl,a⟩|⟨g,b,cur,rfl,_⟩
 ·exact⟨none,0,by rw[a]⟩
 exact⟨_,_,Z⟩
theorem bd{x:Operand}{t e:TypeId}{n:Nat}{es:List Tree}(a:o.op=.call {callee:=.builtin .len,args:=#[x],argTypes:=#[t]})(b:gE Tryz.prog t=some (e,n))(d:S.ev x=.sl es):OpOK o S (.sc (.int .i64 (es.length:Nat))):=by
 intro w0 G0 bx rv w T i h;obtain⟨A,c,g,_⟩:=(bI h d (by rw[a];simp[Op.operands,Call.operands])).isSl.slice;obtain⟨f,_⟩:=jI b;refine aq (v:=.int .i64 (es.length:Nat)) (W':=w) ?_ ⟨.pure (.sc _ .nil) .nil,Below.refl _ _⟩;simp[execOp,a,resolve,invoke,builtin,Builtin.len_,g,run_underlying f,goInt]
theorem yX{x:Operand}{t e:TypeId}{n k:Nat}{R:Row}(a:o.op=.call {callee:=.builtin .len,args:=#[x],argTypes:=#[t]})(b:gE Tryz.prog t=some (e,n))(d:S.ev x=.own k)(h:S.rs[k]? =some (some R)):OpOK o S (.sc (.int .i64 (R.es.length:Nat))):=by
 intro w0 G0 bx rv w T g j;obtain⟨_,xs,l,_⟩:=jn g h (bI j d (by rw[a];simp[Op.operands,Call.operands]));obtain⟨A,c,i⟩:=cc l;obtain⟨f,_⟩:=jI b;refine aq (v:=.int .i64 (R.es.length:Nat)) (W':=w) ?_ ⟨.pure (.sc _ .nil) .nil,Below.refl _ _⟩;simp[execOp,a,resolve,invoke,builtin,Builtin.len_,i,run_underlying f,goInt]
theorem rB{w0 w:World}{G0:Nat->Prop}{bs:List (TypeId×List Tree)}{rs:List (Option Row)}{bx:List Nat}{rv:List Value}{b off:Nat}{ty:TypeId}{cs:List Tree}{v:Value}(j:Mem w0 G0 bs rs bx rv w)(f:bs[b]? =some (ty,cs))(h:FT (en w G0 bx rv rs) [v] [.box b off]):
  ∃g us,bx[b]? =some g/\v=.pointer (some ⟨g,off,none⟩)/\IsBlk w g ty us.toArray/\FT (en w G0 bx rv rs) us cs/\us.all bL=true:=by
 obtain⟨g,c,rfl⟩:=h.isBox;obtain⟨l,d,us,a,i,k,e⟩:=j.box b g c;rw[f]at a;cases a;exact⟨g,us,c,Z,i,k,e⟩
theorem aJ{r:List Tree}{x:Operand}{t ty:TypeId}{b off n:Nat}{cs:List Tree}(h:o.op=.load t x)(q:S.ev x=.box b off)(l:S.bs[b]? =some (ty,cs))(p:qF Tryz.prog t=some n)(e:Nat.ble (off+n) cs.length=true)(c:(cs.drop off).take n=r):OpOK o S (.agg r):=by
 subst c;have e:off+n<=cs.length:=by simpa using e
 intro w0 G0 bx rv w T u A;obtain⟨g,us,_,z,m,f,_⟩:=rB u l (bI A q (by rw[h];simp[Op.operands]));obtain⟨d,s,y,k⟩:=vh p;have i:((us.drop off).take n).length=n:=by have:=f.length;rw[Mf,MS];omega
 have c:=run_loadAt_mid (P:=Tryz.prog) w g off t ((us.drop off).take n) d (fun j v a=>by
  rw[m.cell,NV];rw[MZ]at a;split at a
  ·rw[Nd]at a;exact a
  cases a) s y (by rw[i];exact k)
 refine aq (v:=.agg ((us.drop off).take n).toArray) (W':=w) ?_ ⟨.agg _ _ ((f.drop off).take n) .nil,Below.refl _ _⟩;simp[execOp,h,z,c]
theorem aD{x:Operand}{t ty:TypeId}{b off:Nat}{cs:List Tree}{c:Tree}(a:o.op=.load t x)(j:S.ev x=.box b off)(d:S.bs[b]? =some (ty,cs))(i:iU Tryz.prog t=true)(f:cs[off]? =some c):OpOK o S c:=by
 intro w0 G0 bx rv w T l n;obtain⟨g,us,_,m,e,h,_⟩:=rB l d (bI n j (by rw[a];simp[Op.operands]));obtain⟨u,k,p⟩:=h.get off c f;have q:=iV (P:=Tryz.prog) (w:=w) (b:=g) (o:=off) (u:=u) i (by rw[e.cell,NV];exact k);refine aq (v:=u) (W':=w) ?_ ⟨p,Below.refl _ _⟩;simp[execOp,a,m,q]
theorem cU{r:List Tree}{x:Operand}{t:TypeId}{n:Nat}{cs:List Tree}(g:o.op=.load t x)(a:S.ev x=.ref cs)(k:qF Tryz.prog t=some n)(f:Nat.ble n cs.length=true)(e:cs.take n=r):OpOK o S (.agg r):=by
 subst e;have f:n<=cs.length:=by simpa using f
 intro w0 G0 bx rv w T u s;obtain⟨b,off,xs,q,_,_,m,a⟩:=(bI s a (by rw[g];simp[Op.operands])).isRef;obtain⟨d,l,p,i⟩:=vh k;have h:(xs.take n).length=n:=by have:=a.length;rw[Mf];omega
 have e:=run_loadAt_mid (P:=Tryz.prog) w b off t (xs.take n) d (fun j v c=>by
  rw[MZ]at c;split at c
  ·exact m j v c
  cases c) l p (by rw[h];exact i)
 refine aq (v:=.agg (xs.take n).toArray) (W':=w) ?_ ⟨.pure (.agg _ _ (a.take n) .nil) .nil,Below.refl _ _⟩;simp[execOp,g,q,e]
theorem bE{x:Operand}{t:TypeId}{cs:List Tree}{c:Tree}(d:o.op=.load t x)(a:S.ev x=.ref cs)(f:iU Tryz.prog t=true)(e:cs[0]? =some c):OpOK o S c:=by
 intro w0 G0 bx rv w T m j;obtain⟨b,off,xs,i,_,_,h,a⟩:=(bI j a (by rw[d];simp[Op.operands])).isRef;obtain⟨u,g,k⟩:=a.get 0 c e;have l:=iV (P:=Tryz.prog) (w:=w) (b:=b) (o:=off) (u:=u) f (h 0 u g);refine aq (v:=u) (W':=w) ?_ ⟨.pure k .nil,Below.refl _ _⟩;simp[execOp,d,i,l]
theorem az{r:Nat}{x:Operand}{s:TypeId}{j b off fo:Nat}(a:o.op=.fieldAddr s x j)(d:S.ev x=.box b off)(h:j4 Tryz.prog s j=some fo)(i:off+fo=r):OpOK o S (.box b r):=by
 subst i;intro w0 G0 bx rv w T k f;obtain⟨g,e,c⟩:=(bI f d (by rw[a];simp[Op.operands])).isBox;refine aq (v:=.pointer (some ⟨g,off+fo,none⟩)) (W':=w) ?_ ⟨.box b _ g e .nil,Below.refl _ _⟩;simp[execOp,a,c,kU h]
theorem bw{r:List Tree}{x:Operand}{s:TypeId}{j fo:Nat}{cs:List Tree}(c:o.op=.fieldAddr s x j)(a:S.ev x=.ref cs)(k:j4 Tryz.prog s j=some fo)(l:cs.drop fo=r):OpOK o S (.ref r):=by
 subst l;intro w0 G0 bx rv w T m i;obtain⟨b,off,xs,h,e,g,f,a⟩:=(bI i a (by rw[c];simp[Op.operands])).isRef;refine aq (v:=.pointer (some ⟨b,off+fo,none⟩)) (W':=w) ?_ ⟨.pure (.ref b (off+fo) (xs.drop fo) _ e g (fun j u d=>?_) (a.drop fo) .nil) .nil,Below.refl _ _⟩
 ·simp[execOp,c,h,kU k]
 rw[Nd]at d;rw[NT];exact f _ u d
theorem vm{r:Nat}{x:Operand}{s:TypeId}{j k off fo:Nat}(a:o.op=.fieldAddr s x j)(d:S.ev x=.elp k off)(h:j4 Tryz.prog s j=some fo)(i:off+fo=r):OpOK o S (.elp k r):=by
 subst i;intro w0 G0 bx rv w T l f;obtain⟨g,n,c,e,b⟩:=(bI f d (by rw[a];simp[Op.operands])).isElp;refine aq (v:=.pointer (some ⟨g,off+fo,none⟩)) (W':=w) ?_ ⟨.elp k _ g n c e .nil,Below.refl _ _⟩;simp[execOp,a,b,kU h]
theorem aQ{r:List Tree}(c:Tree){x y:Operand}{t e:TypeId}{n:Nat}{es:List Tree}{k:IntKind}{i:Int}{j:Nat}(q:o.op=.indexAddr t x y)(K:gE Tryz.prog t=some (e,n))(m:S.ev x=.sl es)(J:S.ev y=.sc (.int k i))(H:i=j)(z:es[j]? =some c)(l:Sized n es)(f:c.cells=r):OpOK o S (.ref r):=by
 subst f;intro w0 G0 bx rv w T O B;have G:=(bI B J (by rw[q];simp[Op.operands])).isSc;obtain⟨A,I,M,_,_,_,E⟩:=(bI B m (by rw[q];simp[Op.operands])).isSl.slice;obtain⟨d,s⟩:=L7.1 z;obtain⟨b,off,xs,rfl,N,F,p,m⟩:=E (by omega);subst H;have f:=kV (P:=Tryz.prog) (w:=w) (b:=b) (o:=off) (n:=es.length) (c:=I) (k:=k) (i:=(j:Int)) K (by omega) (by omega);rw[Oq]at f;have g:c.cells.length=n:=l c (L9 z);have D:=l.flat;have h:(j+1)*n<=es.length*n:=MJ _ d;rw[M3,Og]at h;refine aq (v:=.pointer (some ⟨b,off+j*n,none⟩)) (W':=w) ?_ ⟨.pure (.ref b (off+j*n) ((xs.drop (j*n)).take n) _ N F (fun i u a=>?_) ?_ .nil) .nil,Below.refl _ _⟩
 ·simp[execOp,q,G,M,f]
 ·rw[MZ]at a;split at a
  ·rw[Nd]at a;rw[NT];exact p _ u a
  cases a
 have C:=(m.drop (j*n)).take n;rw[<-jh l j]at C;have L:(flat (es.drop j)).take n=c.cells:=by
  rw[Md d,s,ei,<-g,P9]
 rwa[L]at C
theorem dD{x:Operand}{j:Nat}{ts:List Tree}{t:Tree}(a:o.op=.extract x j)(d:S.ev x=.tup ts)(c:ts[j]? =some t):OpOK o S t:=by
 intro w0 G0 bx rv w T i g;obtain⟨xs,e,h⟩:=(bI g d (by rw[a];simp[Op.operands])).isTup;obtain⟨u,b,f⟩:=h.get j t c;refine aq (v:=u) (W':=w) ?_ ⟨f,Below.refl _ _⟩;simp[execOp,a,e,Instr.extract,b]
end
theorem qO{w:World}{B:Nat}{A:Option Addr}{l:List UInt8}(c:Nat)(h:At w B A (bH l)):(convert 22 9 (.slice A l.length c)).run Tryz.prog w=.ok (.string ⟨l.toArray⟩) w:=by
 cases A with
 |none=>
  have d:l=[]:=by
   cases l with
   |nil=>rfl
   |cons a l=>obtain⟨b,off,e,_⟩:=h (by simp[bH]);cases e
  subst d;exact Lib.run_convert_nil_bytes w _ _ 5 c Tryz.underlying22 Tryz.underlying5 Tryz.underlying9
 |some a=>
  refine run_convert_bytes_back w _ _ 5 a c l Tryz.underlying22 Tryz.underlying5 Tryz.underlying9 fun j f=>?_
  obtain⟨b,off,e,_,g⟩:=h (by rw[eO];omega);injection e with e
  subst e;have:=g j (.int .u8 l[j].toNat) (by simp[bH,L4 f]);rwa[show(⟨b,off,none⟩:Addr).add j=⟨b,off+j,none⟩from by unfold Addr.add;split<;>simp_all]
theorem D4(c:Int)(d:UInt8)(h:c=d.toNat)(w:World):(convert 22 9 (.slice (some ⟨w.heap.size,0,none⟩) 1 1)).run Tryz.prog (w.alloc (.cells #[.int .u8 c] 5))=.ok (.string ⟨#[d]⟩) (w.alloc (.cells #[.int .u8 c] 5)):=by
 refine qO (B:=w.heap.size+1) (l:=[d]) 1 fun _=>⟨w.heap.size,0,Z,by omega,fun j u a=>?_⟩
 rw[M0,(dP w 5 #[.int .u8 c]).cell j];subst h;simpa[bH]using a
section
variable {S:St} {o:Oper}
def IF(S:St):Option Operand->Nat->Prop
 |none,l=>l=0
 |some x,l=>∃k,S.ev x=.sc (.int k l)
def IG(S:St)(n:Nat):Option Operand->Nat->Prop
 |none,h=>h=n
 |some x,h=>∃k,S.ev x=.sc (.int k h)
theorem jo{P:Program}{w:World}{t e:TypeId}{m n c l h:Nat}{A:Option Addr}(p:gE P t=some (e,m))(lo f:Option Value)(g:(lo=none/\l=0)\/∃k,lo=some (.int k l))(b:(f=none/\h=n)\/∃k,f=some (.int k h))(o:l<=h)(s:h<=n)(r:n<=c):
  (Instr.sliceAt t (.slice A n c) lo f none).run P w=.ok (.slice (if c=l then A else A.map (·.add (l*m))) (h-l) (c-l)) w:=by
 obtain⟨d,i,a,rfl⟩:=jI p;have j:¬c<h:=by omega
 rcases g with⟨rfl,rfl⟩|⟨k,rfl⟩
 ·rcases b with⟨rfl,rfl⟩|⟨q,rfl⟩
  ·simp[Instr.sliceAt,Instr.slice,Instr.sliceBounds,run_underlying d,sizeOf,typeInfo,a]
  simp[Instr.sliceAt,Instr.slice,Instr.sliceBounds,Instr.sliceBound,asIntOf,run_underlying d,sizeOf,typeInfo,a,j]
 rcases b with⟨rfl,rfl⟩|⟨q,rfl⟩
 ·simp[Instr.sliceAt,Instr.slice,Instr.sliceBounds,Instr.sliceBound,asIntOf,run_underlying d,sizeOf,typeInfo,a,o]
 simp[Instr.sliceAt,Instr.slice,Instr.sliceBounds,Instr.sliceBound,asIntOf,run_underlying d,sizeOf,typeInfo,a,o,j]
theorem GC{W:World}{G:Nat->Prop}{b off c n m l h:Nat}{xs:List Value}{es:List Tree}(f:Sized m es)(g:b<W.heap.size)(p:¬G b)(i:∀(j:Nat) u,xs[j]? =some u->W.cell? ⟨b,off+j,none⟩=some u)(k:PT W G xs (flat es))(r:l<=h)(s:h<=es.length)(q:n=h-l)(d:n<=c)(o:c<=9223372036854775807):PT W G [.slice (some ⟨b,off+l*m,none⟩) n c] [.sl ((es.take h).drop l)]:=by
 have e:n=((es.take h).drop l).length:=by rw[MS,Mf];omega
 refine .sl b (off+l*m) c n ((xs.take (h*m)).drop (l*m)) _ g p (fun j u a=>?_) e (by rw[<-e];exact d) o ?_ .nil
 ·rw[Nd,MZ]at a;split at a
  ·rw[NT];exact i _ u a
  cases a
 rw[jh (f.take h),mw f];exact(k.take _).drop _
theorem iG{x:Operand}{lo d:Option Operand}{t e:TypeId}{m l h:Nat}{es:List Tree}(n:o.op=.slice t x lo d none)(I:gE Tryz.prog t=some (e,m))(D:S.ev x=.sl es)(g:IF S lo l)(i:IG S es.length d h)(u:l<=h)(z:h<=es.length)(M:Sized m es):OpOK o S (.sl ((es.take h).drop l)):=by
 intro w0 G0 bx rv w T O s;obtain⟨A,c,J,B,N,K,C⟩:=(bI s D (by rw[n];simp[Op.operands])).isSl.slice;have j:(lo.map (cA T)=none/\l=0)\/∃k,lo.map (cA T)=some (.int k l):=by
  cases lo with
  |none=>exact .inl ⟨Z,g⟩
  |some y=>
   obtain⟨k,q⟩:=g;exact .inr ⟨k,by rw[Nu,(bI s q (by rw[n];simp[Op.operands])).isSc]⟩
 have f:(d.map (cA T)=none/\h=es.length)\/∃k,d.map (cA T)=some (.int k h):=by
  cases d with
  |none=>exact .inl ⟨Z,i⟩
  |some y=>
   obtain⟨k,q⟩:=i;exact .inr ⟨k,by rw[Nu,(bI s q (by rw[n];simp[Op.operands])).isSc]⟩
 have G:=jo (P:=Tryz.prog) (w:=w) (A:=A) I (lo.map (cA T)) (d.map (cA T)) j f u z B;refine aq (v:=.slice (if c=l then A else A.map (·.add (l*m))) (h-l) (c-l)) (W':=w) (by simp[execOp,n,J,G]) ⟨.pure ?_ .nil,Below.refl _ _⟩;by_cases E:h-l=0
 ·have H:(es.take h).drop l=[]:=Mk (by rw[MS,Mf];omega);rw[H,E];refine .sl0 _ _ (fun e=>?_) (by omega) .nil;split at e
  ·omega
  cases A with
  |none=>have:=K Z;omega
  |some a=>simp at e
 obtain⟨b,off,xs,rfl,L,F,r,p⟩:=C (by omega);rw[if_neg (by omega),Nu,Addr.add_mid];exact GC M L F r p u z Z (by omega) (by omega)
def nW(place:Nat->Option (Nat×Nat)):List Tree->List (Nat×Tree)->Option (List Tree)
 |cells,[]=>some cells
 |cells,(i,t)::rest=>
  match place i with
  |none=>none
  |some (off,size)=>if t.cells.length≠size\/off+t.cells.length>cells.length then none else nW place (cells.take off++t.cells++cells.drop (off+t.cells.length)) rest
theorem tT:∀(vs:List Value) (k off:Nat) (cells:Array Value),off+k+vs.length<=cells.size->(vs.zipIdx k).foldl (fun cs (c,j)=>cs.setIfInBounds (off+j) c) cells=(cells.toList.take (off+k)++vs++cells.toList.drop (off+k+vs.length)).toArray
 |[],k,off,cells,h=>by simp
 |v::vs,k,off,cells,h=>by
  simp only[Mb]at h;rw[List.zipIdx_cons,NH,tT vs (k+1) off _ (by simp;omega)];simp only[NQ,Mb];congr 1;rw[<-NT,Qn (by omega),PI,Mq (by simp;omega)];have e:(List.take (off+k) cells.toList).length=off+k:=by rw[Mf];simp;omega
  rw[NK _ _ (by omega),e];simp[NT,NW 1]
theorem pp{v:Value}(h:v.oneCell'=true):v.cells=#[v]:=by cases v<;>simp_all [Value.cells,Value.oneCell']
theorem yY{t:Tree}(h:t.one=true):t.cells=[t]:=by cases t<;>simp_all [Tree.cells,Tree.one]
def Tree.oneA:Tree->Bool
 | .agg _=>true
 |t=>t.one
theorem nX{E:En}{v:Value}{t:Tree}(h:FT E [v] [t])(d:t.oneA=true):FT E v.cells.toList t.cells:=by
 by_cases c:∃cs,t=.agg cs
 ·obtain⟨cs,rfl⟩:=c;obtain⟨xs,rfl,b⟩:=h.isAgg;exact b
 have a:t.one=true:=by
  cases t<;>simp_all [Tree.oneA]
 rw[pp (h.one a),yY a];exact h
theorem qP{E:En}{place:Nat->Option (Nat×Nat)}:∀{ps:List (Nat×Value)} {qs:List (Nat×Tree)} {cells:Array Value} {ts rs:List Tree},ps.map (·.1)=qs.map (·.1)->FT E (ps.map (·.2)) (qs.map (·.2))->(qs.all fun q=>q.2.oneA)=true->FT E cells.toList ts->nW place ts qs=some rs->∃us,Instr.fill place cells ps=some us/\FT E us.toList rs
 |[],[],cells,ts,rs,_,_,_,h,hr=>by
  simp only[nW,MN]at hr;subst hr;exact⟨cells,Z,h⟩
 |[],_::_,_,_,_,a,_,_,_,_=>by simp at a
 |_::_,[],_,_,_,a,_,_,_,_=>by simp at a
 |(i,v)::ps,(j,t)::qs,cells,ts,rs,a,hf,hp,h,hr=>by
  simp only[MX,Pv]at a hf;obtain⟨rfl,a⟩:=a;simp only[NP,Ma]at hp;have l:=nX hf.head hp.1;have e:=l.length;have m:=h.length;simp only[nW]at hr;cases b:place i with
  |none=>simp[b]at hr
  |some p=>
   obtain⟨off,size⟩:=p;simp only[b]at hr;split at hr
   ·cases hr
   next hc=>
   have k:v.cells.size=t.cells.length:=by simpa using e
   have f:cells.size=ts.length:=by simpa using m
   have o:¬(v.cells.size≠size||decide (off+v.cells.size>cells.size))=true:=by
    simp only[M5,decide_eq_true_eq,not_or];rw[k,f];constructor<;>omega
   have d:=tT v.cells.toList 0 off cells (by simp;omega);simp only[Instr.fill,b];rw[if_neg o];have n:v.cells.zipIdx.foldl (fun cs (x:Value×Nat)=>cs.setIfInBounds (off+x.2) x.1) cells=(cells.toList.take off++v.cells.toList++cells.toList.drop (off+v.cells.toList.length)).toArray:=by
    rw[<-Array.foldl_toList,Array.toList_zipIdx];exact d
   have g:(v.cells.zipIdx.foldl (fun cs (x:Value×Nat)=>match x with|(c,j)=>cs.setIfInBounds (off+j) c) cells)=(cells.toList.take off++v.cells.toList++cells.toList.drop (off+v.cells.toList.length)).toArray:=n;rw[g];refine qP a hf.tail hp.2 ?_ hr;rw[e];exact((h.take off).append l).append (h.drop _)
end
end Go.Proofs.YtfoejfohbkmmeaaGreatDoor
