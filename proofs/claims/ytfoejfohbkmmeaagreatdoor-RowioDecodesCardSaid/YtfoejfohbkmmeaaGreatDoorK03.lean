import Derived.Test.YtfoejfohbkmmeaaGreatDoorK02
import Derived.Deep.MidRow
import Derived.Laws.IdiomStrings
import Derived.Lib.BufferRead
set_option linter.defProp false
open Go.Proofs.Tryz
namespace Go.Proofs.YtfoejfohbkmmeaaGreatDoor
open Go.RowKit
open Lib renaming hid→J
structure Row where
 e:TypeId
 sz:Nat
 es:List Tree
 tt:Bool
structure St where
 n:Nat
 sl:List (Nat×Tree)
 bs:List (TypeId×List Tree)
 rs:List (Option Row)
def look:List (Nat×Tree)->Nat->Tree
 |[],_=>.any
 |(i,t)::l,j=>cond (Nat.beq i j) t (look l j)
def dX(i:Nat)(t:Tree)(l:List (Nat×Tree))(j:Nat):look ((i,t)::l) j=if i=j then t else look l j:=by
 simp only[look];by_cases h:i=j
 ·subst h;simp
 rw[if_neg h];have:Nat.beq i j=false:=by
  cases a:Nat.beq i j with
  |false=>rfl
  |true=>exact absurd (Tz a) h
 rw[this];rfl
def St.get(S:St)(i:Nat):Tree:=look S.sl i
def St.put(S:St)(d:Option Nat)(t:Tree):St:=
 match d with
 |some d=>{S with sl:=(d,t)::S.sl}
 |none=>S
def St.ev(S:St):Operand->Tree
 | .tmp s=>S.get s
 | .const v=>.sc v
 | .global g=>.sc (.pointer (some ⟨g,0,none⟩))
 | .func f=>.sc (.func (.func f) #[] #[])
def cF(n:Nat):Option Nat->Bool
 |some d=>decide (d<n)
 |none=>true
def bR:Value->Bool
 | .int .u32 _=>false
 |_=>true
def NoDigB(w:World)(g:Nat):Prop:=∀i u,w.cell? ⟨g,i,none⟩=some u->bR u=true
def NoDigB.of{w w':World}{g:Nat}(h:NoDigB w g)(a:w'.heap[g]? =w.heap[g]?):NoDigB w' g:=λi u b=>h i u (by rw[<-b];exact(World.cell?_of_block a).symm)
def pQ(v:Value):Prop:=∀A m c,v=.slice A m c->c=m
def cJ(bx:List Nat)(rv:List Value)(rs:List (Option Row)):List Nat:=bx++(rv.zip rs).filterMap λp=>p.2.bind λ_=>p.1.ownBlock
structure Bse where
 G:Nat->Prop
 X:Nat->Prop
 pn:Nat
 P:Nat->Nat
def pln(G:Nat->Prop):Bse:=⟨G,λ_=>False,0,λ_=>0⟩
structure Kept (w0:World) (X:Nat->Prop) (w:World):Prop where
 os:w.os=w0.os
 tape:w.tape=w0.tape
 output:w.output=w0.output
 size:w0.heap.size<=w.heap.size
 block:∀k,k<w0.heap.size->¬X k->w.heap[k]? =w0.heap[k]?
def Kept.refl(w:World)(X:Nat->Prop):Kept w X w:=⟨Z,Z,Z,Q3 _,λ_ _ _=>rfl⟩
def Kept.then{w0 w w':World}{X:Nat->Prop}(h:Kept w0 X w)(a:Below w.heap.size w w'):Kept w0 X w':=⟨a.os.trans h.os,a.tape.trans h.tape,a.output.trans h.output,Q7 h.size a.size,λk b c=>(a.block k (Rh b h.size)).trans (h.block k b c)⟩
def Kept.grown{w0 w w':World}{X:Nat->Prop}{row:Option Nat}(h:Kept w0 X w)(a:w.grownBy w' row)(f:∀k,row=some k->w0.heap.size<=k\/X k):Kept w0 X w':=⟨a.os.trans h.os,a.tape.trans h.tape,a.output.trans h.output,Q7 h.size a.size,λk d c=>(a.block k (Rh d h.size) (λe=>by rcases f k e.symm with b|b;(· omega);exact c b)).trans (h.block k d c)⟩
def Kept.below{w0 w:World}(h:Kept w0 (λ_=>False) w):Below w0.heap.size w0 w:=⟨h.os,h.tape,h.output,h.size,λk a=>h.block k a id⟩
def Kept.of{w0 w:World}{X:Nat->Prop}(h:Below w0.heap.size w0 w):Kept w0 X w:=⟨h.os,h.tape,h.output,h.size,λk a _=>h.block k a⟩
def EnvX(w0:World)(X:Nat->Prop):Prop:=∃wE,Env wE/\Below wE.heap.size wE w0/\∀b,X b->wE.heap.size<=b
def EnvX.pln{w:World}(h:Env w):EnvX w (λ_=>False):=⟨w,h,Below.refl _ _,λ_ h=>h.elim⟩
def EnvX.at{w0 w:World}{X:Nat->Prop}(h:EnvX w0 X)(d:Kept w0 X w):∃c,Env c/\Below c.heap.size c w/\c.heap.size<=w0.heap.size/\∀b,X b->c.heap.size<=b:=by
 obtain⟨c,g,a,f⟩:=h;exact⟨c,g,⟨d.os.trans a.os,d.tape.trans a.tape,d.output.trans a.output,Q7 a.size d.size,λk e=>(d.block k (Rh e a.size) λi=>by have:=f k i;omega).trans (a.block k e)⟩,a.size,f⟩
def EnvX.env{w0 w:World}{X:Nat->Prop}(h:EnvX w0 X)(c:Kept w0 X w):Env w:=by
 obtain⟨d,a,b,_⟩:=h.at c;exact a.below b (Q3 _)
def EnvX.env0{w0:World}{X:Nat->Prop}(h:EnvX w0 X):Env w0:=h.env (Kept.refl _ _)
def GG(G0:Bse)(bx:List Nat)(rv:List Value)(rs:List (Option Row)):Nat->Prop:=λb=>G0.G b\/b∈cJ bx rv rs
def fX(rv:List Value)(rs:List (Option Row))(k:Nat):Option Value:=((rs[k]?).bind id).bind λ_=>rv[k]?
def en(w:World)(G0:Bse)(bx:List Nat)(rv:List Value)(rs:List (Option Row)):En:=⟨w,GG G0 bx rv rs,λi=>bx[i]?,fX rv rs⟩
structure Apart (bx:List Nat) (rv:List Value) (rs:List (Option Row)):Prop where
 bb:bx.Nodup
 br:∀(k:Nat) (v:Value) (R:Row) (b:Nat),rv[k]? =some v->rs[k]? =some (some R)->v.ownBlock=some b->b∉bx
 rr:∀(j k:Nat) (u v:Value) (X R:Row) (b:Nat),j≠k->rv[j]? =some u->rs[j]? =some (some X)->rv[k]? =some v->rs[k]? =some (some R)->u.ownBlock=some b->v.ownBlock=some b->False
structure Mem (w0:World) (G0:Bse) (bs:List (TypeId×List Tree)) (rs:List (Option Row)) (bx:List Nat) (rv:List Value) (w:World):Prop where
 below:Kept w0 G0.X w
 env0:EnvX w0 G0.X
 g0:∀g,G0.G g->g<w0.heap.size/\NoDigB w0 g/\¬G0.X g
 nb:bx.length=bs.length
 nr:rv.length=rs.length
 box:∀(i g:Nat),bx[i]? =some g->∃ty cs us,bs[i]? =some (ty,cs)/\IsBlk w g ty us.toArray/\FT (en w G0 bx rv rs) us cs/\us.all bR=true
 row:∀(k:Nat) (v:Value) (R:Row),rv[k]? =some v->rs[k]? =some (some R)->∃xs,w.ownsRow 0 R.e R.sz v R.es.length xs/\PT w (GG G0 bx rv rs) xs (flat R.es)/\(Sized R.sz R.es/\(R.tt=true->pQ v))/\∀g,v.ownBlock=some g->NoDigB w g
 nodup:Apart bx rv rs
 ge:∀b∈cJ bx rv rs,w0.heap.size<=b\/G0.X b
 pin:∀i,i<G0.pn->bx[i]? =some (G0.P i)
section
variable {w0 w w':World} {G0:Bse} {bs:List (TypeId×List Tree)} {rs:List (Option Row)} {bx:List Nat} {rv:List Value}
def FT.later{us:List Value}{ts:List Tree}(h:FT (en w G0 bx rv rs) us ts)(c:Below w.heap.size w w'):FT (en w' G0 bx rv rs) us ts:=
 h.mono c.size (λb a d=>⟨c.block b a,d⟩) (λ_ _ h=>h) (λ_ _ h=>h)
def Mem.later(h:Mem w0 G0 bs rs bx rv w)(a:Below w.heap.size w w'):Mem w0 G0 bs rs bx rv w':=by
 refine⟨h.below.then a,h.env0,h.g0,h.nb,h.nr,λi g l=>?_,λk v R m j=>?_,h.nodup,h.ge,h.pin⟩
 ·obtain⟨ty,cs,us,b,c,d,e⟩:=h.box i g l;exact⟨ty,cs,us,b,c.below a c.lt,d.later a,e⟩
 obtain⟨xs,b,c,d,e⟩:=h.row k v R m j;exact⟨xs,eF b a,c.later a,d,λg f=>(e g f).of (a.block g (b.lt g f).2)⟩
def Mem.env(h:Mem w0 G0 bs rs bx rv w):Env w:=h.env0.env h.below
def be{b:Nat}:b∈cJ bx rv rs↔b∈bx\/∃(k:Nat) (v:Value) (R:Row),rv[k]? =some v/\rs[k]? =some (some R)/\v.ownBlock=some b:=by
 simp only[cJ,RI,UM];refine or_congr T1 ⟨?_,?_⟩
 ·rintro⟨⟨v,r⟩,g,c⟩;obtain⟨k,f,d⟩:=Sl g;simp only[List.getElem_zip,Td]at d;have a:k<rv.length/\k<rs.length:=by rw[List.length_zip]at f;omega
  cases r with
  |none=>simp at c
  |some R=>
   refine⟨k,v,R,?_,?_,by simpa using c⟩
   ·rw[Q2 a.1,d.1]
   rw[Q2 a.2,d.2]
 rintro⟨k,v,R,h,e,c⟩;refine⟨(v,some R),?_,by simpa using c⟩;refine Q8 (i:=k) ?_;rw[List.getElem?_zip_eq_some];exact⟨h,e⟩
def Mem.ok(h:Mem w0 G0 bs rs bx rv w):∀g,GG G0 bx rv rs g->g<w.heap.size/\NoDigB w g:=by
 rintro g (c|c)
 ·have a:=h.g0 g c;exact⟨Rh a.1 h.below.size,a.2.1.of (h.below.block g a.1 a.2.2)⟩
 rcases be.1 c with a|⟨k,v,R,n,l,e⟩
 ·obtain⟨i,m,rfl⟩:=Sl a;obtain⟨ty,cs,us,_,d,_,b⟩:=h.box i _ (Q2 m);refine⟨d.lt,λj u f=>?_⟩;rw[d.cell j]at f;exact Rl.1 b u (Q8 (by simpa using f))
 obtain⟨xs,a,_,_,b⟩:=h.row k v R n l;exact⟨(a.lt g e).2,b g e⟩
end
def Sim(w0:World)(G0:Bse)(S:St)(a:Act)(w:World):Prop:=
 ∃bx rv,Mem w0 G0 S.bs S.rs bx rv w/\a.tmps.size=S.n/\a.defers=[]/\∀i,FT (en w G0 bx rv S.rs) [a.tmps.getD i undef] [S.get i]
def Dx(w0:World)(G0:Bse)(Q:Exit->St->Prop)(e:Exit)(a:Act)(w:World):Prop:=∃S,Q e S/\Sim w0 G0 S a w
def fd(o:Op):List Nat:=o.operands.toList.filterMap λ| .tmp t=>some t|_=>none
def OpOK(o:Oper)(S:St)(t:Tree):Prop:=∀(w0:World) (G0:Bse) (bx:List Nat) (rv:List Value) (w:World) (T:Nat->Value),Mem w0 G0 S.bs S.rs bx rv w->
 (∀s,(fd o.op).contains s=true->FT (en w G0 bx rv S.rs) [T s] [S.get s])->OpRuns prog o T w λv w'=>FT (en w' G0 bx rv S.rs) [v] [t]/\Below w.heap.size w w'
def AOps(w0:World)(G0:Bse)(ops:Array Oper)(rest:List Oper)(Q:Exit->St->Prop)(S:St):Prop:=∀a w,Sim w0 G0 S a w->wpList prog ops (Dx w0 G0 Q) rest a w
def AWP(w0:World)(G0:Bse)(c:Code)(Q:Exit->St->Prop)(S:St):Prop:=∀a w,Sim w0 G0 S a w->c.wp prog (Dx w0 G0 Q) a w
section
variable {w0:World} {G0:Bse} {ops:Array Oper} {rest:List Oper} {Q:Exit->St->Prop} {S:St} {o:Oper}
def gA(a:Act)(d:Option Nat)(v:Value)(n:Nat)(c:a.tmps.size=n)(b:cF n d=true)(i:Nat):(a.put d v).tmps.getD i undef=if d=some i then v else a.tmps.getD i undef:=by
 cases d with
 |none=>simp[Act.put]
 |some d=>
  simp only[cF,decide_eq_true_eq]at b;simp only[Act.put,Ro];by_cases h:d=i
  ·subst h;rw[if_pos Z,RU,Array.getElem?_setIfInBounds_self_of_lt O];rfl
  rw[if_neg h,RU,RU,Array.getElem?_setIfInBounds_ne h]
def ee(a:Act)(d:Option Nat)(v:Value):(a.put d v).tmps.size=a.tmps.size:=by cases d<;>simp[Act.put]
def df(a:Act)(d:Option Nat)(v:Value):(a.put d v).defers=a.defers:=by cases d<;>rfl
def dh(S:St)(d:Option Nat)(t:Tree)(i:Nat):(S.put d t).get i=if d=some i then t else S.get i:=by
 cases d with
 |none=>simp[St.put]
 |some d=>simp only[St.put,St.get,dX,Ro]
def eu(S:St)(d:Option Nat)(t:Tree):(S.put d t).n=S.n:=by cases d<;>rfl
def dJ(S:St)(d:Option Nat)(t:Tree):(S.put d t).bs=S.bs:=by cases d<;>rfl
def cj(S:St)(d:Option Nat)(t:Tree):(S.put d t).rs=S.rs:=by cases d<;>rfl
def jx{a:Act}{w w':World}{bx:List Nat}{rv:List Value}{t:Tree}{v:Value}{rs:List (Option Row)}(d:a.tmps.size=S.n)(c:cF S.n o.dst=true)(b:∀us ts,FT (en w G0 bx rv S.rs) us ts->FT (en w' G0 bx rv rs) us ts)
  (e:∀i,FT (en w G0 bx rv S.rs) [a.tmps.getD i undef] [S.get i]) (f:FT (en w' G0 bx rv rs) [v] [t]):∀i,FT (en w' G0 bx rv rs) [(a.put o.dst v).tmps.getD i undef] [(S.put o.dst t).get i]:=λi=>by
 rw[gA a o.dst v S.n d c,dh];split
 ·exact f
 exact b _ _ (e i)
def af(h:Q .normal S):AOps w0 G0 ops [] Q S:=λ_ _ a=>⟨S,h,a⟩
def E:type_of% @af:=@af
def xQ(d:∀a w,Sim w0 G0 S a w->Region.wanted o (yielded ops a.tmps)=true)(m:cF S.n o.dst=true){t:Tree}(h:OpOK o S t)(k:AOps w0 G0 ops rest Q (S.put o.dst t)):AOps w0 G0 ops (o::rest) Q S:=by
 intro a w i;have d:=d a w i;obtain⟨bx,rv,f,g,c,b⟩:=i;refine fj d λK l=>?_
 have j:=(h w0 G0 bx rv w (λs=>a.tmps.getD s undef) f λs _=>b s).wp (Q:=Dx w0 G0 Q);refine Oper.wp_mono ?_ j;rintro q w' ⟨v,rfl,p,e⟩;refine l _ _ (k _ _ ⟨bx,rv,?_,by rw[ee,eu,g],by rw[df,c],?_⟩)
 ·rw[dJ,cj];exact f.later e
 rw[cj];exact jx g m (λ_ _ h=>h.later e) b p
def Fi(b:o.guard=none)(a:cF S.n o.dst=true){t:Tree}(h:OpOK o S t)(k:AOps w0 G0 ops rest Q (S.put o.dst t)):AOps w0 G0 ops (o::rest) Q S:=
 xQ (λ_ _ _=>by simp[Region.wanted,b]) a h k
def am{id:Nat}{ops:List Oper}(h:AOps w0 G0 ops.toArray ops Q S):AWP w0 G0 (.region id ops.toArray false) Q S:=λa w b=>wp_region_list (by simpa using h a w b)
end
def sf(P:Program)(t:TypeId):Option Nat:=
 match P.underlying t with
 |some d=>if d.isRow then(P.info? t).map (·.size)else none
 |none=>none
def jP(P:Program)(t:TypeId):Bool:=
 match P.underlying t with
 |some d=> !d.isRow
 |none=>false
def jy(P:Program)(s:TypeId)(j:Nat):Option Nat:=
 match P.underlying s with
 |some (.struct fs)=>(fs[j]?).bind λf=>(P.info? f.type).bind λi=>if i.size=0 then none else some f.offset
 |_=>none
def gQ(P:Program)(t:TypeId):Option (TypeId×Nat):=
 match P.underlying t with
 |some (.slice e)=>(P.info? e).map λi=>(e,i.size)
 |_=>none
def zC{P:Program}{t:TypeId}{n:Nat}(h:sf P t=some n):∃d,P.underlying t=some d/\d.isRow=true/\(P.info? t).map (·.size)=some n:=by
 unfold sf at h;cases a:P.underlying t with
 |none=>simp[a]at h
 |some d=>
  simp only[a]at h;split at h
  ·exact⟨d,Z,by assumption,h⟩
  cases h
def zD{P:Program}{t:TypeId}(h:jP P t=true):∃d,P.underlying t=some d/\d.isRow=false:=by
 unfold jP at h;cases a:P.underlying t with
 |none=>simp[a]at h
 |some d=>exact⟨d,Z,by simpa[a]using h⟩
def Ma{P:Program}{s:TypeId}{j o:Nat}(h:jy P s j=some o):∃a f i,P.underlying s=some (.struct a)/\a[j]? =some f/\P.info? f.type=some i/\i.size≠0/\f.offset=o:=by
 unfold jy at h;split at h
 ·next a hu=>
  cases b:a[j]? with
  |none=>simp[b]at h
  |some f=>
   simp only[b,Sp]at h;cases c:P.info? f.type with
   |none=>simp[c]at h
   |some i=>
    simp only[c,Sp]at h;split at h
    ·cases h
    exact⟨a,f,i,hu,b,c,by assumption,by simpa using h⟩
 cases h
def lj{P:Program}{t e:TypeId}{n:Nat}(h:gQ P t=some (e,n)):P.underlying t=some (.slice e)/\∃i,P.info? e=some i/\i.size=n:=by
 unfold gQ at h;split at h
 ·next e' hu=>
  cases a:P.info? e' with
  |none=>simp[a]at h
  |some i=>
   simp only[a,Sr,Ro,Td]at h;obtain⟨rfl,rfl⟩:=h;exact⟨hu,i,a,Z⟩
 cases h
section
variable {P:Program} {w:World}
def j9{b o:Nat}{t:TypeId}{u:Value}(h:jP P t=true)(c:w.cell? ⟨b,o,none⟩=some u):(Instr.loadAt t (.pointer (some ⟨b,o,none⟩))).run P w=.ok u w:=by
 obtain⟨d,e,f⟩:=zD h;have a:(isAgg t).run P w=.ok false w:=by
  unfold isAgg;rw[Sem.run_bind,run_underlying e w];cases d<;>simp_all
 simp[Instr.loadAt,Instr.sureAddr,loadVar,a,c]
def mP{b o fo:Nat}{s:TypeId}{j:Nat}(h:jy P s j=some fo):(Instr.fieldAt s (.pointer (some ⟨b,o,none⟩)) j).run P w=.ok (.pointer (some ⟨b,o+fo,none⟩)) w:=by
 obtain⟨g,f,i,e,c,d,a,rfl⟩:=Ma h;simp[Instr.fieldAt,Instr.sureAddr,fieldPlace,run_underlying e,c,sizeOf,typeInfo,d,a,Addr.add_mid]
def mQ{b o n c m:Nat}{t e:TypeId}{k:IntKind}{i:Int}(h:gQ P t=some (e,m))(a:0<=i)(d:i<n):(Instr.indexAt t (.slice (some ⟨b,o,none⟩) n c) (.int k i)).run P w=.ok (.pointer (some ⟨b,o+i.toNat*m,none⟩)) w:=by
 obtain⟨g,j,f,rfl⟩:=lj h;simp[Instr.indexAt,asIntOf,run_underlying g,sizeOf,typeInfo,f,a,d,Addr.add_mid]
end
section
variable {S:St} {o:Oper}
def AV{op:Op}{s:Nat}(h:Operand.tmp s∈op.operands.toList):(fd op).contains s=true:=by
 simp only[RX,fd,UM];exact⟨_,h,Z⟩
def I7{E:En}{T:Nat->Value}{op:Op}(a:∀s,(fd op).contains s=true->FT E [T s] [S.get s]){x:Operand}(b:x∈op.operands.toList):FT E [dG T x] [S.ev x]:=by
 cases x with
 |tmp s=>exact a s (AV b)
 |const v=>exact .pure (.sc v .nil) .nil
 |global g=>exact .pure (.sc _ .nil) .nil
 |func f=>exact .pure (.sc _ .nil) .nil
def bP{E:En}{T:Nat->Value}{op:Op}(a:∀s,(fd op).contains s=true->FT E [T s] [S.get s]){x:Operand}{t:Tree}(b:S.ev x=t)(c:x∈op.operands.toList):FT E [dG T x] [t]:=b▸I7 a c
def au{x:Operand}{t:Tree}(a:o.op=.move x)(c:S.ev x=t):OpOK o S t:=by
 intro w0 G0 bx rv w T d b;have h:=bP b c (by rw[a];simp[Op.operands]);exact aE (v:=dG T x) (W':=w) (by simp[execOp,a]) ⟨h,Below.refl _ _⟩
def K:type_of% @au:=@au
def bN{x:Operand}{t:Tree}(a:o.op=.assign x)(c:S.ev x=t):OpOK o S t:=by
 intro w0 G0 bx rv w T d b;have h:=bP b c (by rw[a];simp[Op.operands]);exact aE (v:=dG T x) (W':=w) (by simp[execOp,a]) ⟨h,Below.refl _ _⟩
def bz{v:Value}{t:Tree}(a:o.op=.move (.const v)\/o.op=.assign (.const v))(h:∀W G,PT W G [v] [t]):OpOK o S t:=by
 intro w0 G0 bx rv w T c b;refine aE (v:=v) (W':=w) ?_ ⟨.pure (h _ _) .nil,Below.refl _ _⟩;rcases a with a|a<;>simp[execOp,a,dG]
def bS(W:World)(G:Nat->Prop):PT W G [.slice none 0 0] [.sl []]:=.sl0 none 0 (λ_=>rfl) O .nil
def oN{c a b:Operand}{x:Bool}{t:Tree}(d:o.op=.pick c a b)(h:S.ev c=.sc (.bool x))(i:S.ev (if x then a else b)=t):OpOK o S t:=by
 intro w0 G0 bx rv w T j e;have f:=(bP e h (by rw[d];simp[Op.operands])).isSc;have g:FT (en w G0 bx rv S.rs) [dG T (if x then a else b)] [t]:=bP e i (by rw[d];cases x<;>simp[Op.operands]);refine aE (v:=dG T (if x then a else b)) (W':=w) ?_ ⟨g,Below.refl _ _⟩;cases x<;>simp[execOp,d,f,asBool]
def gT{w0 w:World}{G0:Bse}{bs:List (TypeId×List Tree)}{rs:List (Option Row)}{bx:List Nat}{rv:List Value}{k:Nat}{R:Row}{v:Value}(c:Mem w0 G0 bs rs bx rv w)(b:rs[k]? =some (some R))(h:FT (en w G0 bx rv rs) [v] [.own k]):
  rv[k]? =some v/\∃xs,w.ownsRow 0 R.e R.sz v R.es.length xs/\PT w (GG G0 bx rv rs) xs (flat R.es)/\(Sized R.sz R.es/\(R.tt=true->pQ v))/\∀g,v.ownBlock=some g->NoDigB w g:=by
 have a:fX rv rs k=some v:=h.isOwn.1;simp only[fX,b,Sp,id]at a;exact⟨a,c.row k v R a b⟩
def ce{w:World}{base:Nat}{e:TypeId}{sz n:Nat}{v:Value}{xs:List Value}(h:w.ownsRow base e sz v n xs):∃A c,v=.slice A n c:=by
 rcases h.2 with⟨rfl,b⟩|⟨g,a,cur,rfl,_⟩
 ·exact⟨none,0,by rw[b]⟩
 exact⟨_,_,Z⟩
def fw{x:Operand}{t e:TypeId}{n:Nat}{es:List Tree}(a:o.op=.call {callee:=.builtin .len,args:=#[x],argTypes:=#[t]})(f:gQ prog t=some (e,n))(h:S.ev x=.sl es):OpOK o S (.sc (.int .i64 (es.length:Nat))):=by
 intro w0 G0 bx rv w T i d;obtain⟨A,c,b,_⟩:=(bP d h (by rw[a];simp[Op.operands,Call.operands])).isSl.slice;obtain⟨g,_⟩:=lj f;refine aE (v:=.int .i64 (es.length:Nat)) (W':=w) ?_ ⟨.pure (.sc _ .nil) .nil,Below.refl _ _⟩;simp[execOp,a,resolve,invoke,builtin,Builtin.len_,b,run_underlying g,goInt]
def kF{x:Operand}{t e:TypeId}{n k:Nat}{R:Row}(a:o.op=.call {callee:=.builtin .len,args:=#[x],argTypes:=#[t]})(i:gQ prog t=some (e,n))(l:S.ev x=.own k)(f:S.rs[k]? =some (some R)):OpOK o S (.sc (.int .i64 (R.es.length:Nat))):=by
 intro w0 G0 bx rv w T h g;obtain⟨_,xs,d,_⟩:=gT h f (bP g l (by rw[a];simp[Op.operands,Call.operands]));obtain⟨A,c,b⟩:=ce d;obtain⟨j,_⟩:=lj i;refine aE (v:=.int .i64 (R.es.length:Nat)) (W':=w) ?_ ⟨.pure (.sc _ .nil) .nil,Below.refl _ _⟩;simp[execOp,a,resolve,invoke,builtin,Builtin.len_,b,run_underlying j,goInt]
def n5{w0 w:World}{G0:Bse}{bs:List (TypeId×List Tree)}{rs:List (Option Row)}{bx:List Nat}{rv:List Value}{b off:Nat}{ty:TypeId}{cs:List Tree}{v:Value}(k:Mem w0 G0 bs rs bx rv w)(j:bs[b]? =some (ty,cs))(h:FT (en w G0 bx rv rs) [v] [.box b off]):
  ∃g us,bx[b]? =some g/\v=.pointer (some ⟨g,off,none⟩)/\IsBlk w g ty us.toArray/\FT (en w G0 bx rv rs) us cs/\us.all bR=true:=by
 obtain⟨g,a,rfl⟩:=h.isBox;obtain⟨l,d,us,c,e,f,i⟩:=k.box b g a;rw[j]at c;cases c;exact⟨g,us,a,Z,e,f,i⟩
def aN{r:List Tree}{x:Operand}{t ty:TypeId}{b off n:Nat}{cs:List Tree}(h:o.op=.load t x)(A:S.ev x=.box b off)(m:S.bs[b]? =some (ty,cs))(y:sf prog t=some n)(f:Nat.ble (off+n) cs.length=true)(c:(cs.drop off).take n=r):OpOK o S (.agg r):=by
 subst c;have f:off+n<=cs.length:=by simpa using f
 intro w0 G0 bx rv w T u l;obtain⟨g,us,_,i,k,e,_⟩:=n5 u m (bP l A (by rw[h];simp[Op.operands]));obtain⟨d,z,p,q⟩:=zC y;have s:((us.drop off).take n).length=n:=by have:=e.length;rw[Rb,Rm];omega
 have c:=run_loadAt_mid (P:=prog) w g off t ((us.drop off).take n) d (λj v a=>by
  rw[k.cell,SO];rw[R7]at a;split at a
  ·rw[Si]at a;exact a
  cases a) z p (by rw[s];exact q)
 refine aE (v:=.agg ((us.drop off).take n).toArray) (W':=w) ?_ ⟨.agg _ _ ((e.drop off).take n) .nil,Below.refl _ _⟩;simp[execOp,h,i,c]
def av{x:Operand}{t ty:TypeId}{b off:Nat}{cs:List Tree}{c:Tree}(a:o.op=.load t x)(q:S.ev x=.box b off)(i:S.bs[b]? =some (ty,cs))(n:jP prog t=true)(l:cs[off]? =some c):OpOK o S c:=by
 intro w0 G0 bx rv w T k h;obtain⟨g,us,_,d,e,f,_⟩:=n5 k i (bP h q (by rw[a];simp[Op.operands]));obtain⟨u,p,j⟩:=f.get off c l;have m:=j9 (P:=prog) (w:=w) (b:=g) (o:=off) (u:=u) n (by rw[e.cell,SO];exact p);refine aE (v:=u) (W':=w) ?_ ⟨j,Below.refl _ _⟩;simp[execOp,a,d,m]
def dt{r:List Tree}{x:Operand}{t:TypeId}{n:Nat}{cs:List Tree}(g:o.op=.load t x)(c:S.ev x=.ref cs)(q:sf prog t=some n)(f:Nat.ble n cs.length=true)(e:cs.take n=r):OpOK o S (.agg r):=by
 subst e;have f:n<=cs.length:=by simpa using f
 intro w0 G0 bx rv w T u i;obtain⟨b,off,xs,h,_,_,k,c⟩:=(bP i c (by rw[g];simp[Op.operands])).isRef;obtain⟨d,s,l,m⟩:=zC q;have p:(xs.take n).length=n:=by have:=c.length;rw[Rb];omega
 have e:=run_loadAt_mid (P:=prog) w b off t (xs.take n) d (λj v a=>by
  rw[R7]at a;split at a
  ·exact k j v a
  cases a) s l (by rw[p];exact m)
 refine aE (v:=.agg (xs.take n).toArray) (W':=w) ?_ ⟨.pure (.agg _ _ (c.take n) .nil) .nil,Below.refl _ _⟩;simp[execOp,g,h,e]
def bi{x:Operand}{t:TypeId}{cs:List Tree}{c:Tree}(d:o.op=.load t x)(a:S.ev x=.ref cs)(k:jP prog t=true)(i:cs[0]? =some c):OpOK o S c:=by
 intro w0 G0 bx rv w T m f;obtain⟨b,off,xs,e,_,_,g,a⟩:=(bP f a (by rw[d];simp[Op.operands])).isRef;obtain⟨u,l,h⟩:=a.get 0 c i;have j:=j9 (P:=prog) (w:=w) (b:=b) (o:=off) (u:=u) k (g 0 u l);refine aE (v:=u) (W':=w) ?_ ⟨.pure h .nil,Below.refl _ _⟩;simp[execOp,d,e,j]
def aq{r:Nat}{x:Operand}{s:TypeId}{j b off fo:Nat}(a:o.op=.fieldAddr s x j)(i:S.ev x=.box b off)(f:jy prog s j=some fo)(h:off+fo=r):OpOK o S (.box b r):=by
 subst h;intro w0 G0 bx rv w T k e;obtain⟨g,c,d⟩:=(bP e i (by rw[a];simp[Op.operands])).isBox;refine aE (v:=.pointer (some ⟨g,off+fo,none⟩)) (W':=w) ?_ ⟨.box b _ g c .nil,Below.refl _ _⟩;simp[execOp,a,d,mP f]
def bL{r:List Tree}{x:Operand}{s:TypeId}{j fo:Nat}{cs:List Tree}(c:o.op=.fieldAddr s x j)(a:S.ev x=.ref cs)(k:jy prog s j=some fo)(l:cs.drop fo=r):OpOK o S (.ref r):=by
 subst l;intro w0 G0 bx rv w T m g;obtain⟨b,off,xs,e,h,f,i,a⟩:=(bP g a (by rw[c];simp[Op.operands])).isRef;refine aE (v:=.pointer (some ⟨b,off+fo,none⟩)) (W':=w) ?_ ⟨.pure (.ref b (off+fo) (xs.drop fo) _ h f (λj u d=>?_) (a.drop fo) .nil) .nil,Below.refl _ _⟩
 ·simp[execOp,c,e,mP k]
 rw[Si]at d;rw[S4];exact i _ u d
def zE{r:Nat}{x:Operand}{s:TypeId}{j k off fo:Nat}(a:o.op=.fieldAddr s x j)(i:S.ev x=.elp k off)(f:jy prog s j=some fo)(h:off+fo=r):OpOK o S (.elp k r):=by
 subst h;intro w0 G0 bx rv w T l e;obtain⟨g,n,c,b,d⟩:=(bP e i (by rw[a];simp[Op.operands])).isElp;refine aE (v:=.pointer (some ⟨g,off+fo,none⟩)) (W':=w) ?_ ⟨.elp k _ g n c b .nil,Below.refl _ _⟩;simp[execOp,a,d,mP f]
def aO{r:List Tree}(c:Tree){x C:Operand}{t e:TypeId}{n:Nat}{es:List Tree}{k:IntKind}{i:Int}{j:Nat}(p:o.op=.indexAddr t x C)(M:gQ prog t=some (e,n))(s:S.ev x=.sl es)(K:S.ev C=.sc (.int k i))(L:i=j)(B:es[j]? =some c)(q:Sized n es)(f:c.cells=r):OpOK o S (.ref r):=by
 subst f;intro w0 G0 bx rv w T N z;have E:=(bP z K (by rw[p];simp[Op.operands])).isSc;obtain⟨A,cp,F,_,_,_,G⟩:=(bP z s (by rw[p];simp[Op.operands])).isSl.slice;obtain⟨a,l⟩:=Q6.1 B;obtain⟨b,off,xs,rfl,I,H,g,s⟩:=G O;subst L;have f:=mQ (P:=prog) (w:=w) (b:=b) (o:=off) (n:=es.length) (c:=cp) (k:=k) (i:=(j:Int)) M O O;rw[TG]at f;have h:c.cells.length=n:=q c (Q8 B);have J:=q.flat;have m:(j+1)*n<=es.length*n:=RB _ a;rw[R2,TC]at m;refine aE (v:=.pointer (some ⟨b,off+j*n,none⟩)) (W':=w) ?_ ⟨.pure (.ref b (off+j*n) ((xs.drop (j*n)).take n) _ I H (λi u d=>?_) ?_ .nil) .nil,Below.refl _ _⟩
 ·simp[execOp,p,E,F,f]
 ·rw[R7]at d;split at d
  ·rw[Si]at d;rw[S4];exact g _ u d
  cases d
 have y:=(s.drop (j*n)).take n;rw[<-ma q j]at y;have D:(flat (es.drop j)).take n=c.cells:=by
  rw[Re a,l,fm,<-h,List.take_left]
 rwa[D]at y
def eN{x:Operand}{j:Nat}{ts:List Tree}{t:Tree}(a:o.op=.extract x j)(h:S.ev x=.tup ts)(g:ts[j]? =some t):OpOK o S t:=by
 intro w0 G0 bx rv w T i f;obtain⟨xs,b,c⟩:=(bP f h (by rw[a];simp[Op.operands])).isTup;obtain⟨u,d,e⟩:=c.get j t g;refine aE (v:=u) (W':=w) ?_ ⟨e,Below.refl _ _⟩;simp[execOp,a,b,Instr.extract,d]
end
def tV{w:World}{B:Nat}{A:Option Addr}{l:List UInt8}(c:Nat)(h:At w B A (bZ l)):(convert 22 9 (.slice A l.length c)).run prog w=.ok (.string ⟨l.toArray⟩) w:=by
 cases A with
 |none=>
  have g:l=[]:=by
   cases l with
   |nil=>rfl
   |cons a l=>obtain⟨b,off,e,_⟩:=h (by simp[bZ]);cases e
  subst g;exact Lib.run_convert_nil_bytes w _ _ 5 c underlying22 underlying5 underlying9
 |some a=>
  refine run_convert_bytes_back w _ _ 5 a c l underlying22 underlying5 underlying9 λj f=>?_
  obtain⟨b,off,e,_,d⟩:=h (by rw[eR];omega);injection e with e
  subst e;have:=d j (.int .u8 l[j].toNat) (by simp[bZ,Q2 f]);rwa[show(⟨b,off,none⟩:Addr).add j=⟨b,off+j,none⟩from by unfold Addr.add;split<;>simp_all]
section
variable {S:St} {o:Oper}
def N9(S:St):Option Operand->Nat->Prop
 |none,l=>l=0
 |some x,l=>∃k,S.ev x=.sc (.int k l)
def Oa(S:St)(n:Nat):Option Operand->Nat->Prop
 |none,h=>h=n
 |some x,h=>∃k,S.ev x=.sc (.int k h)
def jb{P:Program}{w:World}{t e:TypeId}{m n c l h:Nat}{A:Option Addr}(p:gQ P t=some (e,m))(lo f:Option Value)(g:(lo=none/\l=0)\/∃k,lo=some (.int k l))(b:(f=none/\h=n)\/∃k,f=some (.int k h))(o:l<=h)(r:h<=n)(s:n<=c):
  (Instr.sliceAt t (.slice A n c) lo f none).run P w=.ok (.slice (if c=l then A else A.map (·.add (l*m))) (h-l) (c-l)) w:=by
 obtain⟨d,i,a,rfl⟩:=lj p;have j:¬c<h:=O
 rcases g with⟨rfl,rfl⟩|⟨k,rfl⟩
 ·rcases b with⟨rfl,rfl⟩|⟨q,rfl⟩
  ·simp[Instr.sliceAt,Instr.slice,Instr.sliceBounds,run_underlying d,sizeOf,typeInfo,a]
  simp[Instr.sliceAt,Instr.slice,Instr.sliceBounds,Instr.sliceBound,asIntOf,run_underlying d,sizeOf,typeInfo,a,j]
 rcases b with⟨rfl,rfl⟩|⟨q,rfl⟩
 ·simp[Instr.sliceAt,Instr.slice,Instr.sliceBounds,Instr.sliceBound,asIntOf,run_underlying d,sizeOf,typeInfo,a,o]
 simp[Instr.sliceAt,Instr.slice,Instr.sliceBounds,Instr.sliceBound,asIntOf,run_underlying d,sizeOf,typeInfo,a,o,j]
def Mb{W:World}{G:Nat->Prop}{b off c n m l h:Nat}{xs:List Value}{es:List Tree}(f:Sized m es)(i:b<W.heap.size)(g:¬G b)(k:∀(j:Nat) u,xs[j]? =some u->W.cell? ⟨b,off+j,none⟩=some u)(p:PT W G xs (flat es))(q:l<=h)(r:h<=es.length)(s:n=h-l)(d:n<=c)(o:c<=9223372036854775807):PT W G [.slice (some ⟨b,off+l*m,none⟩) n c] [.sl ((es.take h).drop l)]:=by
 have e:n=((es.take h).drop l).length:=by rw[Rm,Rb];omega
 refine .sl b (off+l*m) c n ((xs.take (h*m)).drop (l*m)) _ i g (λj u a=>?_) e (by rw[<-e];exact d) o ?_ .nil
 ·rw[Si,R7]at a;split at a
  ·rw[S4];exact k _ u a
  cases a
 rw[ma (f.take h),lZ f];exact(p.take _).drop _
def ef{x:Operand}{lo d:Option Operand}{t e:TypeId}{m l h:Nat}{es:List Tree}(n:o.op=.slice t x lo d none)(L:gQ prog t=some (e,m))(M:S.ev x=.sl es)(i:N9 S lo l)(f:Oa S es.length d h)(u:l<=h)(z:h<=es.length)(K:Sized m es):OpOK o S (.sl ((es.take h).drop l)):=by
 intro w0 G0 bx rv w T Q p;obtain⟨A,c,B,I,N,F,E⟩:=(bP p M (by rw[n];simp[Op.operands])).isSl.slice;have j:(lo.map (dG T)=none/\l=0)\/∃k,lo.map (dG T)=some (.int k l):=by
  cases lo with
  |none=>exact .inl ⟨Z,i⟩
  |some y=>
   obtain⟨k,r⟩:=i;exact .inr ⟨k,by rw[Sr,(bP p r (by rw[n];simp[Op.operands])).isSc]⟩
 have g:(d.map (dG T)=none/\h=es.length)\/∃k,d.map (dG T)=some (.int k h):=by
  cases d with
  |none=>exact .inl ⟨Z,f⟩
  |some y=>
   obtain⟨k,r⟩:=f;exact .inr ⟨k,by rw[Sr,(bP p r (by rw[n];simp[Op.operands])).isSc]⟩
 have J:=jb (P:=prog) (w:=w) (A:=A) L (lo.map (dG T)) (d.map (dG T)) j g u z I;refine aE (v:=.slice (if c=l then A else A.map (·.add (l*m))) (h-l) (c-l)) (W':=w) (by simp[execOp,n,B,J]) ⟨.pure ?_ .nil,Below.refl _ _⟩;by_cases D:h-l=0
 ·have C:(es.take h).drop l=[]:=Rj (by rw[Rm,Rb];omega);rw[C,D];refine .sl0 _ _ (λe=>?_) O .nil;split at e
  ·omega
  cases A with
  |none=>have:=F Z;omega
  |some a=>simp at e
 obtain⟨b,off,xs,rfl,H,G,q,s⟩:=E O;rw[if_neg O,Sr,Addr.add_mid];exact Mb K H G q s u z Z O O
def qn(place:Nat->Option (Nat×Nat)):List Tree->List (Nat×Tree)->Option (List Tree)
 |cells,[]=>some cells
 |cells,(i,t)::rest=>
  match place i with
  |none=>none
  |some (off,size)=>if t.cells.length≠size\/off+t.cells.length>cells.length then none else qn place (cells.take off++t.cells++cells.drop (off+t.cells.length)) rest
def xR:∀(vs:List Value) (k off:Nat) (cells:Array Value),off+k+vs.length<=cells.size->(vs.zipIdx k).foldl (λcs (c,j)=>cs.setIfInBounds (off+j) c) cells=(cells.toList.take (off+k)++vs++cells.toList.drop (off+k+vs.length)).toArray
 |[],k,off,cells,h=>F
 |v::vs,k,off,cells,h=>by
  simp only[Q5]at h;rw[List.zipIdx_cons,Th,xR vs (k+1) off _ (by simp;omega)];simp only[S3,Q5];congr 1;rw[<-S4,Vu O,UP,Rz (by simp;omega)];have e:(List.take (off+k) cells.toList).length=off+k:=by rw[Rb];simp;omega
  rw[SY _ _ O,e];simp[S4,SN 1]
def sg{v:Value}(h:v.oneCell'=true):v.cells=#[v]:=by cases v<;>simp_all [Value.cells,Value.oneCell']
def Dy{t:Tree}(h:t.one=true):t.cells=[t]:=by cases t<;>simp_all [Tree.cells,Tree.one]
def Tree.oneA:Tree->Bool
 | .agg _=>true
 |t=>t.one
def qo{E:En}{v:Value}{t:Tree}(h:FT E [v] [t])(d:t.oneA=true):FT E v.cells.toList t.cells:=by
 by_cases b:∃cs,t=.agg cs
 ·obtain⟨cs,rfl⟩:=b;obtain⟨xs,rfl,c⟩:=h.isAgg;exact c
 have a:t.one=true:=by
  cases t<;>simp_all [Tree.oneA]
 rw[sg (h.one a),Dy a];exact h
def tW{E:En}{place:Nat->Option (Nat×Nat)}:∀{ps:List (Nat×Value)} {qs:List (Nat×Tree)} {cells:Array Value} {ts rs:List Tree},ps.map (·.1)=qs.map (·.1)->FT E (ps.map (·.2)) (qs.map (·.2))->(qs.all λq=>q.2.oneA)=true->FT E cells.toList ts->qn place ts qs=some rs->∃us,Instr.fill place cells ps=some us/\FT E us.toList rs
 |[],[],cells,ts,rs,_,_,_,h,hr=>by
  simp only[qn,Ro]at hr;subst hr;exact⟨cells,Z,h⟩
 |[],_::_,_,_,_,a,_,_,_,_=>by simp at a
 |_::_,[],_,_,_,a,_,_,_,_=>by simp at a
 |(i,v)::ps,(j,t)::qs,cells,ts,rs,a,hf,hp,h,hr=>by
  simp only[Sb,T4]at a hf;obtain⟨rfl,a⟩:=a;simp only[SJ,Q9]at hp;have l:=qo hf.head hp.1;have e:=l.length;have n:=h.length;simp only[qn]at hr;cases b:place i with
  |none=>simp[b]at hr
  |some p=>
   obtain⟨off,size⟩:=p;simp only[b]at hr;split at hr
   ·cases hr
   next hc=>
   have g:v.cells.size=t.cells.length:=by simpa using e
   have f:cells.size=ts.length:=by simpa using n
   have m:¬(v.cells.size≠size||decide (off+v.cells.size>cells.size))=true:=by
    simp only[Sm,decide_eq_true_eq,not_or];rw[g,f];constructor<;>omega
   have d:=xR v.cells.toList 0 off cells (by simp;omega);simp only[Instr.fill,b];rw[if_neg m];have o:v.cells.zipIdx.foldl (λcs (x:Value×Nat)=>cs.setIfInBounds (off+x.2) x.1) cells=(cells.toList.take off++v.cells.toList++cells.toList.drop (off+v.cells.toList.length)).toArray:=by
    rw[<-Array.foldl_toList,Array.toList_zipIdx];exact d
   have k:(v.cells.zipIdx.foldl (λcs (x:Value×Nat)=>match x with|(c,j)=>cs.setIfInBounds (off+j) c) cells)=(cells.toList.take off++v.cells.toList++cells.toList.drop (off+v.cells.toList.length)).toArray:=o;rw[k];refine tW a hf.tail hp.2 ?_ hr;rw[e];exact((h.take off).append l).append (h.drop _)
end
def Ct(f:FuncId)(args:List Tree)(r:Tree):Prop:=(∃fn,prog.funcs[f]? =some fn/\(fn.name== "runtime.NumGoroutine")=false/\fn.body.isNone=false)/\∀(G:Nat->Prop) (w:World) (vs:List Value),Env w->(∀g,G g->g<w.heap.size/\NoDigB w g)->PT w G vs args->
 Calls prog f vs.toArray w λe w'=>∃v,e=.returned v/\PT w' G [v] [r]/\Below w.heap.size w w'
def eg:Value->Tree
 | .slice none 0 0=>.sl []
 |v=>.sc v
def qp(W:World)(G:Nat->Prop):∀a:List Value,PT W G a (a.map eg)
 |[]=>.nil
 |z::a=>by
  rw[Sb];refine PT.cons ?_ (qp W G a);unfold eg;split
  ·exact bS W G
  exact .sc _ .nil
def si(P:Program)(t:TypeId):Option (List (Nat×Nat)×List Value):=
 match P.underlying t,P.info? t with
 |some (.struct fs),some i=>i.zero.bind λz=>(fs.toList.mapM λf=>(P.info? f.type).map λi=>(f.offset,i.size)).map λpl=>(pl,z.cells.toList)
 |_,_=>none
def ij(P:Program)(e:TypeId):Option (List Value):=(P.info? e).bind λi=>i.zero.map λz=>z.cells.toList
def pR{P:Program}{w:World}:∀{l:List Field} {a:List (Nat×Nat)},(l.mapM λf=>(P.info? f.type).map λi=>(f.offset,i.size))=some a->(l.mapM (m:=Sem) λf=>do pure (f.offset,<-sizeOf f.type)).run P w=.ok a w
 |[],a,h=>by
  simp at h;subst h;rfl
 |f::l,a,h=>by
  simp only[Vi,Option.bind_eq_bind,TH,R9,Option.pure_def,Ro]at h;obtain⟨_,⟨i,b,rfl⟩,ps,c,rfl⟩:=h;simp[Vi,sizeOf,typeInfo,b];have:=pR (P:=P) (w:=w) c;simp[sizeOf,typeInfo]at this;simp[this]
section
variable {S:St} {o:Oper}
def qq{E:En}{T:Nat->Value}{op:Op}(a:∀s,(fd op).contains s=true->FT E [T s] [S.get s]):∀(ps:List (Nat×Operand)),(∀p∈ps,p.2∈op.operands.toList)->FT E ((ps.map λp=>(p.1,dG T p.2)).map (·.2)) ((ps.map λp=>(p.1,S.ev p.2)).map (·.2))
 |[],_=>.nil
 |p::ps,h=>FT.cons (I7 a (h p (Rw ..))) (qq a ps λq b=>h q (RD _ b))
def f5{t:TypeId}{parts:Array (Nat×Operand)}{u:List (Nat×Nat)}{y:List Value}{qs:List (Nat×Tree)}{rs:List Tree}(r:o.op=.build t parts)(b:si prog t=some (u,y))(s:parts.toList.map (λp=>(p.1,S.ev p.2))=qs)(c:(qs.all λq=>q.2.oneA)=true)(F:qn (u[·]?) (y.map eg) qs=some rs):OpOK o S (.agg rs):=by
 intro w0 G0 bx rv w T G C;have n:=qq (S:=S) C parts.toList (λp D=>by rw[r];simp only[Op.operands,Sv];exact⟨p,D,Z⟩);unfold si at b;split at b
 ·next fs i hu hi=>
  cases k:i.zero with
  |none=>simp[k]at b
  |some z=>
   simp only[k,Sp,R9,Td]at b;obtain⟨a,h,rfl,rfl⟩:=b;have j:=pR (w:=w) h;rw[s]at n;obtain⟨us,A,B⟩:=tW (E:=en w G0 bx rv S.rs) (place:=(a[·]?)) (ps:=parts.toList.map λp=>(p.1,dG T p.2)) (qs:=qs) (cells:=z.cells) (ts:=z.cells.toList.map eg) (by rw[<-s];simp) n c (.of (qp _ _ _)) F;refine aE (v:=.agg us) (W':=w) ?_ ⟨?_,Below.refl _ _⟩
   ·have g:(fs.mapM (m:=Sem) λf=>do pure (f.offset,<-sizeOf f.type)).run prog w=.ok a.toArray w:=by
     rw[SR,Sem.run_map,j];rfl
    have e:Instr.fill (λx=>a.toArray[x]?) z.cells (parts.map λp=>(p.1,dG T p.2)).toList=some us:=by
     rw[<-A];simp
    have l:(zeroValue t).run prog w=.ok z w:=by simp[zeroValue,typeInfo,hi,k]
    have d:(Instr.build t (parts.map λp=>(p.1,dG T p.2))).run prog w=.ok (.agg us) w:=by
     unfold Instr.build;rw[Sem.run_bind,l,Result.andThen_ok,Sem.run_bind,run_underlying hu,Result.andThen_ok];simp only;rw[Sem.run_bind,g,Result.andThen_ok];simp only[e];rfl
    simp[execOp,r,d]
   have:FT (en w G0 bx rv S.rs) [.agg us.toList.toArray] [.agg rs]:=.agg _ _ B .nil;simpa using this
 cases b
def Dz{w0 w:World}{G0:Bse}{bs:List (TypeId×List Tree)}{rs:List (Option Row)}{bx:List Nat}{rv:List Value}(a:Mem w0 G0 bs rs bx rv w)(b:Nat)(c:w.heap.size<=b):¬GG G0 bx rv rs b:=λh=>by
 have:=(a.ok b h).1;omega
def aS{t e:TypeId}{len m:Nat}{parts:Array (Nat×Operand)}{F:List Value}{qs:List (Nat×Tree)}{es:List Tree}(J:o.op=.buildSlice t len parts)(ht:gQ prog t=some (e,m))(g:ij prog e=some F)(C:F.length=m)(N:0<len*m)(Q:len*m<=16777216)
  (K:parts.toList.map (λp=>(p.1,S.ev p.2))=qs) (d:(qs.all λq=>q.2.oneA)=true) (s:(flat es).all Tree.plain0=true) (hr:qn (λi=>some (i*m,m)) (((List.range (len*m)).map λi=>F[i%m]!).map eg) qs=some (flat es)) (W:es.length=len):OpOK o S (.sl es):=by
 intro w0 G0 bx rv w T X V;have H:=qq (S:=S) V parts.toList (λp Y=>by rw[J];simp only[Op.operands,Sv];exact⟨p,Y,Z⟩);obtain⟨A,i,n,rfl⟩:=lj ht;unfold ij at g;simp only[n,Sp,R9]at g;obtain⟨z,g,rfl⟩:=g;rw[K]at H;have D:z.cells.size=i.size:=by simpa using C
 have b:((Array.range (len*i.size)).map λx=>z.cells[x%z.cells.size]!).toList=(List.range (len*i.size)).map λx=>z.cells.toList[x%i.size]! :=by
  rw[D];simp only[U2,Array.toList_range];refine SV λa _=>?_
  rw[Va,RU,List.getElem!_eq_getElem?_getD,SC]
 obtain⟨us,P,G⟩:=tW (E:=en w G0 bx rv S.rs) (place:=λx=>some (x*i.size,i.size)) (ps:=parts.toList.map λp=>(p.1,dG T p.2)) (qs:=qs) (cells:=(Array.range (len*i.size)).map λx=>z.cells[x%z.cells.size]!) (ts:=((List.range (len*i.size)).map λx=>z.cells.toList[x%i.size]!).map eg) (by rw[<-K];simp) H d (.of (by rw[b];exact qp _ _ _)) hr;have f:(Instr.buildSlice t len (parts.map λp=>(p.1,dG T p.2))).run prog w=.ok (.slice (some ⟨w.heap.size,0,none⟩) len len) (w.alloc (.cells us e)):=by
  have B:(zeroValue e).run prog w=.ok z w:=by simp[zeroValue,typeInfo,n,g]
  have y:(sizeOf e).run prog w=.ok i.size w:=by simp[sizeOf,typeInfo,n]
  have k:Instr.fill (λx=>some (x*i.size,i.size)) ((Array.range (len*i.size)).map λx=>z.cells[x%z.cells.size]!) (parts.map λp=>(p.1,dG T p.2)).toList=some us:=by
   rw[<-P];simp
  have L:¬2^24<len*i.size:=O
  have M:¬len*i.size=0:=O
  simp only[Instr.buildSlice,Sem.run_bind,run_underlying A,Result.andThen_ok,y,gt_iff_lt,if_neg L,if_neg M,B,Sem.run_pure,k,newRow,newObj];rfl
 have I:us.size=(flat es).length:=by have:=G.length;simpa using this
 have l:=iF w e us;have r:len<=9223372036854775807:=by
  have U:0<i.size:=RR λh=>by rw[h]at N;omega
  have:=U6 len U;omega
 have c:Below w.heap.size w (w.alloc (.cells us e)):=(Below.refl _ _).alloc (Q3 _) _;refine aE (v:=.slice (some ⟨w.heap.size,0,none⟩) len len) (W':=w.alloc (.cells us e)) (by simp[execOp,J,f]) ⟨.pure (.sl w.heap.size 0 len len us.toList es (by simp[en]) (Dz X _ (Q3 _)) (λj u A=>?_) W.symm O r ?_ .nil) .nil,c⟩
 ·rw[R4];show(w.alloc (.cells us e)).cell? _=_
  rw[l.cell];simpa using A
 have R:PT w (GG G0 bx rv S.rs) us.toList (flat es):=G.plain0s s;exact R.later c
def ka{E:En}{T:Nat->Value}{op:Op}(a:∀s,(fd op).contains s=true->FT E [T s] [S.get s]):∀(xs:List Operand),(∀x∈xs,x∈op.operands.toList)->FT E (xs.map (dG T)) (xs.map S.ev)
 |[],_=>.nil
 |x::xs,h=>FT.cons (I7 a (h x (Rw ..))) (ka a xs λq b=>h q (RD _ b))
def ah{f:FuncId}{xs:Array Operand}{a:Array TypeId}{ts:List Tree}{r:Tree}(j:o.op=.call {callee:=.value (.func f),args:=xs,argTypes:=a})(b:Ct f ts r)(u:xs.toList.map S.ev=ts)(t:ts.all Tree.plain=true):OpOK o S r:=by
 intro w0 G0 bx rv w T i q;have h:=ka (S:=S) q xs.toList (λx z=>by rw[j];simp only[Op.operands,Call.operands];simp;exact .inr (by simpa using z));rw[u]at h;obtain⟨⟨d,n,p,g⟩,b⟩:=b;have c:=b (GG G0 bx rv S.rs) w _ i.env i.ok (h.plains t);refine cW (f:=f) (args:=(xs.toList.map (dG T)).toArray) ?_ (c.mono ?_)
 ·have k:¬d.name= "runtime.NumGoroutine" :=by simpa using p
  have l:¬d.body=none:=λe=>by rw[e]at g;cases g
  have m:(xs.toList.map (dG T)).toArray=xs.map (dG T):=TR F;rw[m];simp[execOp,j,resolve,dG,Deferred.ofValue,invoke,callFunc,n,k,l]
 rintro e w' ⟨v,rfl,y,s⟩;exact⟨v,Z,.pure y .nil,s⟩
def D:type_of% @ah:=@ah
def ak(l:List UInt8):List Tree:=l.map λc=>.sc (.int .u8 c.toNat)
def kG:∀l,flat (ak l)=ak l
 |[]=>rfl
 |c::l=>by
  have:=kG l;simp only[ak,Sb,fm,Tree.cells]at this⊢;rw[this];rfl
def aP(l:List UInt8):Sized 1 (ak l):=Sized.map _ l λ_=>rfl
def aA(l:List UInt8):(ak l).length=l.length:=by simp[ak]
def s7{W:World}{G:Nat->Prop}:∀{l:List UInt8} {xs:List Value},PT W G xs (ak l)->xs=bZ l
 |[],xs,h=>by cases h;rfl
 |_::l,xs,h=>by
  cases h with
  |sc v h=>rw[s7 h];rfl
def I8{W:World}{G:Nat->Prop}{v:Value}{l:List UInt8}(h:PT W G [v] [.sl (ak l)]):∃A c,v=.slice A l.length c/\At W W.heap.size A (bZ l)/\(A=none->l.length=0/\c=0)/\l.length<=c/\c<=9223372036854775807:=by
 obtain⟨A,c,g,i,k,m,d⟩:=h.slice;rw[aA]at g i d;refine⟨A,c,g,λp=>?_,λe=>⟨?_,m e⟩,i,k⟩
 ·obtain⟨b,off,xs,rfl,n,_,o,j⟩:=d (by simpa[bZ]using p);rw[kG]at j;rw[<-s7 j];exact⟨b,off,Z,n,o⟩
 rcases RV l.length with a|a
 ·exact a
 obtain⟨b,off,xs,f,_⟩:=d a;rw[e]at f;cases f
end
