import Derived.Test.YtfoejfohbkmmeaaGreatDoorU04
import Derived.Test.YtfoejfohbkmmeaaGreatDoorU00
import Derived.Maps.AppendAt
import Derived.Lib.AppendStr
namespace Go.Proofs.YtfoejfohbkmmeaaGreatDoor
open Go.RowKit
open Lib renaming hid→J
def Ct(f:FuncId)(args:List Tree)(r:Tree):Prop:=(∃fn,Tryz.prog.funcs[f]? =some fn/\(fn.name== "runtime.NumGoroutine")=false/\fn.body.isNone=false)/\∀(G:Nat->Prop) (w:World) (vs:List Value),Env w->(∀g,G g->g<w.heap.size/\NoDigB w g)->PT w G vs args->
 Calls Tryz.prog f vs.toArray w fun e w'=>∃v,e=.returned v/\PT w' G [v] [r]/\Below w.heap.size w w'
def dg:Value->Tree
 | .slice none 0 0=>.sl []
 |v=>.sc v
theorem nY(W:World)(G:Nat->Prop):∀a:List Value,PT W G a (a.map dg)
 |[]=>.nil
 |z::a=>by
  rw[MX];refine PT.cons ?_ (nY W G a);unfold dg;split
  ·exact dI W G
  exact .sc _ .nil
def tJ(P:Program)(t:TypeId):Option (List (Nat×Nat)×List Value):=
 match P.underlying t,P.info? t with
 |some (.struct fs),some i=>i.zero.bind fun z=>(fs.toList.mapM fun f=>(P.info? f.type).map fun i=>(f.offset,i.size)).map fun pl=>(pl,z.cells.toList)
 |_,_=>none
def gc(P:Program)(e:TypeId):Option (List Value):=(P.info? e).bind fun i=>i.zero.map fun z=>z.cells.toList
theorem nq{P:Program}{w:World}:∀{l:List Field} {a:List (Nat×Nat)},(l.mapM fun f=>(P.info? f.type).map fun i=>(f.offset,i.size))=some a->(l.mapM (m:=Sem) fun f=>do pure (f.offset,<-sizeOf f.type)).run P w=.ok a w
 |[],a,h=>by
  simp at h;subst h;rfl
 |f::l,a,h=>by
  simp only[Qa,Option.bind_eq_bind,Ot,Na,Option.pure_def,MN]at h;obtain⟨_,⟨i,c,rfl⟩,ps,b,rfl⟩:=h;simp[sizeOf,typeInfo,c];have:=nq (P:=P) (w:=w) b;simp[sizeOf,typeInfo]at this;simp[this]
section
variable {S:St} {o:Oper}
theorem nZ{E:En}{T:Nat->Value}{op:Op}(a:∀s,(dN op).contains s=true->FT E [T s] [S.get s]):∀(ps:List (Nat×Operand)),(∀p∈ps,p.2∈op.operands.toList)->FT E ((ps.map fun p=>(p.1,cA T p.2)).map (·.2)) ((ps.map fun p=>(p.1,S.ev p.2)).map (·.2))
 |[],_=>.nil
 |p::ps,h=>FT.cons (D3 a (h p (Mr ..))) (nZ a ps fun q b=>h q (MB _ b))
theorem fG{t:TypeId}{parts:Array (Nat×Operand)}{u:List (Nat×Nat)}{n:List Value}{qs:List (Nat×Tree)}{rs:List Tree}(s:o.op=.build t parts)(b:tJ Tryz.prog t=some (u,n))(y:parts.toList.map (fun p=>(p.1,S.ev p.2))=qs)(c:(qs.all fun q=>q.2.oneA)=true)(B:nW (u[·]?) (n.map dg) qs=some rs):OpOK o S (.agg rs):=by
 intro w0 G0 bx rv w T G D;have r:=nZ (S:=S) D parts.toList (fun p C=>by rw[s];simp only[Op.operands,Ny];exact⟨p,C,Z⟩);unfold tJ at b;split at b
 ·next fs i hu hi=>
  cases e:i.zero with
  |none=>simp[e]at b
  |some z=>
   simp only[e,Nc,Na,Pk]at b;obtain⟨a,j,rfl,rfl⟩:=b;have l:=nq (w:=w) j;rw[y]at r;obtain⟨us,A,F⟩:=qP (E:=en w G0 bx rv S.rs) (place:=(a[·]?)) (ps:=parts.toList.map fun p=>(p.1,cA T p.2)) (qs:=qs) (cells:=z.cells) (ts:=z.cells.toList.map dg) (by rw[<-y];simp) r c (.of (nY _ _ _)) B;refine aq (v:=.agg us) (W':=w) ?_ ⟨?_,Below.refl _ _⟩
   ·have k:(fs.mapM (m:=Sem) fun f=>do pure (f.offset,<-sizeOf f.type)).run Tryz.prog w=.ok a.toArray w:=by
     rw[Ol,Sem.run_map,l];rfl
    have h:Instr.fill (fun x=>a.toArray[x]?) z.cells (parts.map fun p=>(p.1,cA T p.2)).toList=some us:=by
     rw[<-A];simp
    have g:(zeroValue t).run Tryz.prog w=.ok z w:=by simp[zeroValue,typeInfo,hi,e]
    have d:(Instr.build t (parts.map fun p=>(p.1,cA T p.2))).run Tryz.prog w=.ok (.agg us) w:=by
     unfold Instr.build;rw[Sem.run_bind,g,Result.andThen_ok,Sem.run_bind,run_underlying hu,Result.andThen_ok];simp only;rw[Sem.run_bind,k,Result.andThen_ok];simp only[h];rfl
    simp[execOp,s,d]
   have:FT (en w G0 bx rv S.rs) [.agg us.toList.toArray] [.agg rs]:=.agg _ _ F .nil;simpa using this
 cases b
theorem D5{w0 w:World}{G0:Nat->Prop}{bs:List (TypeId×List Tree)}{rs:List (Option Row)}{bx:List Nat}{rv:List Value}(a:Mem w0 G0 bs rs bx rv w)(b:Nat)(c:w.heap.size<=b):¬GG G0 bx rv rs b:=fun h=>by
 have:=(a.ok b h).1;omega
theorem a6{t e:TypeId}{len m:Nat}{parts:Array (Nat×Operand)}{C:List Value}{qs:List (Nat×Tree)}{es:List Tree}(J:o.op=.buildSlice t len parts)(V:gE Tryz.prog t=some (e,m))(c:gc Tryz.prog e=some C)(D:C.length=m)(N:0<len*m)(R:len*m<=16777216)
  (K:parts.toList.map (fun p=>(p.1,S.ev p.2))=qs) (d:(qs.all fun q=>q.2.oneA)=true) (r:(flat es).all Tree.plain0=true) (P:nW (fun i=>some (i*m,m)) (((List.range (len*m)).map fun i=>C[i%m]!).map dg) qs=some (flat es)) (Q:es.length=len):OpOK o S (.sl es):=by
 intro w0 G0 bx rv w T hm Y;have H:=nZ (S:=S) Y parts.toList (fun p X=>by rw[J];simp only[Op.operands,Ny];exact⟨p,X,Z⟩);obtain⟨l,i,s,rfl⟩:=jI V;unfold gc at c;simp only[s,Nc,Na]at c;obtain⟨z,c,rfl⟩:=c;rw[K]at H;have F:z.cells.size=i.size:=by simpa using D
 have b:((Array.range (len*i.size)).map fun x=>z.cells[x%z.cells.size]!).toList=(List.range (len*i.size)).map fun x=>z.cells.toList[x%i.size]! :=by
  rw[F];simp only[PW,Array.toList_range];refine PC fun a _=>?_
  rw[P1,MV,List.getElem!_eq_getElem?_getD,Np]
 obtain⟨us,O,I⟩:=qP (E:=en w G0 bx rv S.rs) (place:=fun x=>some (x*i.size,i.size)) (ps:=parts.toList.map fun p=>(p.1,cA T p.2)) (qs:=qs) (cells:=(Array.range (len*i.size)).map fun x=>z.cells[x%z.cells.size]!) (ts:=((List.range (len*i.size)).map fun x=>z.cells.toList[x%i.size]!).map dg) (by rw[<-K];simp) H d (.of (by rw[b];exact nY _ _ _)) P;have f:(Instr.buildSlice t len (parts.map fun p=>(p.1,cA T p.2))).run Tryz.prog w=.ok (.slice (some ⟨w.heap.size,0,none⟩) len len) (w.alloc (.cells us e)):=by
  have k:(zeroValue e).run Tryz.prog w=.ok z w:=by simp[zeroValue,typeInfo,s,c]
  have A:(sizeOf e).run Tryz.prog w=.ok i.size w:=by simp[sizeOf,typeInfo,s]
  have n:Instr.fill (fun x=>some (x*i.size,i.size)) ((Array.range (len*i.size)).map fun x=>z.cells[x%z.cells.size]!) (parts.map fun p=>(p.1,cA T p.2)).toList=some us:=by
   rw[<-O];simp
  have W:¬2^24<len*i.size:=by omega
  have U:¬len*i.size=0:=by omega
  simp only[Instr.buildSlice,Sem.run_bind,run_underlying l,Result.andThen_ok,A,gt_iff_lt,if_neg W,if_neg U,k,Sem.run_pure,n,newRow,newObj];rfl
 have G:us.size=(flat es).length:=by have:=I.length;simpa using this
 have y:=dP w e us;have B:len<=9223372036854775807:=by
  have L:0<i.size:=NG fun h=>by rw[h]at N;omega
  have:=Nat.le_mul_of_pos_right len L;omega
 have g:Below w.heap.size w (w.alloc (.cells us e)):=(Below.refl _ _).alloc (L5 _) _;refine aq (v:=.slice (some ⟨w.heap.size,0,none⟩) len len) (W':=w.alloc (.cells us e)) (by simp[execOp,J,f]) ⟨.pure (.sl w.heap.size 0 len len us.toList es (by simp[en]) (D5 hm _ (L5 _)) (fun j u l=>?_) Q.symm (by omega) B ?_ .nil) .nil,g⟩
 ·rw[M0];show(w.alloc (.cells us e)).cell? _=_
  rw[y.cell];simpa using l
 have M:PT w (GG G0 bx rv S.rs) us.toList (flat es):=I.plain0s r;exact M.later g
theorem n3{E:En}{T:Nat->Value}{op:Op}(a:∀s,(dN op).contains s=true->FT E [T s] [S.get s]):∀(xs:List Operand),(∀x∈xs,x∈op.operands.toList)->FT E (xs.map (cA T)) (xs.map S.ev)
 |[],_=>.nil
 |x::xs,h=>FT.cons (D3 a (h x (Mr ..))) (n3 a xs fun q b=>h q (MB _ b))
theorem ar{f:FuncId}{xs:Array Operand}{b:Array TypeId}{ts:List Tree}{r:Tree}(h:o.op=.call {callee:=.value (.func f),args:=xs,argTypes:=b})(c:Ct f ts r)(n:xs.toList.map S.ev=ts)(q:ts.all Tree.plain=true):OpOK o S r:=by
 intro w0 G0 bx rv w T i s;have g:=n3 (S:=S) s xs.toList (fun x k=>by rw[h];simp only[Op.operands,Call.operands];simp;exact .inr (by simpa using k));rw[n]at g;obtain⟨⟨j,l,t,d⟩,c⟩:=c;have a:=c (GG G0 bx rv S.rs) w _ i.env i.ok (g.plains q);refine bJ (f:=f) (args:=(xs.toList.map (cA T)).toArray) ?_ (a.mono ?_)
 ·have p:¬j.name= "runtime.NumGoroutine" :=by simpa using t
  have m:¬j.body=none:=fun e=>by rw[e]at d;cases d
  have u:(xs.toList.map (cA T)).toArray=xs.map (cA T):=OW (by simp);rw[u];simp[execOp,h,resolve,cA,Deferred.ofValue,invoke,callFunc,l,p,m]
 rintro e w' ⟨v,rfl,y,z⟩;exact⟨v,Z,.pure y .nil,z⟩
def bg(l:List UInt8):List Tree:=l.map fun c=>.sc (.int .u8 c.toNat)
theorem kW:∀l,flat (bg l)=bg l
 |[]=>rfl
 |c::l=>by
  have:=kW l;simp only[bg,MX,ei,Tree.cells]at this⊢;rw[this];rfl
theorem lU(l:List UInt8):Sized 1 (bg l):=Sized.map _ l fun _=>rfl
theorem a7(l:List UInt8):(bg l).length=l.length:=by simp[bg]
end
def Tree.noDig:Tree->Bool
 | .sc v=>bL v
 | .sl _| .tl _| .ref _| .box _ _| .own _| .elp _ _=>true
 |_=>false
theorem FT.noDig{E:En}{v:Value}{t:Tree}(h:FT E [v] [t])(a:t.noDig=true):bL v=true:=by
 cases h with
 |pure h _=>
  cases h with
  |sc=>exact a
  |sl0=>rfl
  |sl=>rfl
  |tl=>rfl
  |agg=>simp[Tree.noDig]at a
  |tup=>simp[Tree.noDig]at a
  |ref=>rfl
 |any=>simp[Tree.noDig]at a
 |box=>rfl
 |own=>rfl
 |elp=>rfl
 |agg=>simp[Tree.noDig]at a
 |tup=>simp[Tree.noDig]at a
theorem FT.noDigs{E:En}:∀{us:List Value} {ts:List Tree},FT E us ts->ts.all Tree.noDig=true->us.all bL=true
 |[],[],_,_=>rfl
 |[],_::_,h,_=>by cases h
 |_::_,[],h,_=>by cases h
 |x::us,t::ts,h,hp=>by
  simp only[NP,Ma]at hp⊢;exact⟨h.head.noDig hp.1,FT.noDigs h.tail hp.2⟩
section
variable {w0 w w':World} {G0:Nat->Prop} {bs:List (TypeId×List Tree)} {rs:List (Option Row)} {bx:List Nat} {rv:List Value}
theorem lV(g:Nat):∀b,b∈cq (bx++[g]) rv rs↔b∈cq bx rv rs\/b=g:=fun b=>by
 simp only[cq,My,Ml];constructor
 ·rintro((h|h)|h)
  ·exact .inl (.inl h)
  ·exact .inr h
  exact .inl (.inr h)
 rintro((h|h)|h)
 ·exact .inl (.inl h)
 ·exact .inr h
 exact .inl (.inr h)
theorem Apart.addBox(g:Nat)(h:Apart bx rv rs)(f:g∉cq bx rv rs):Apart (bx++[g]) rv rs:=by
 refine⟨?_,fun k v R b j l d n=>?_,h.rr⟩
 ·rw[List.nodup_append];exact⟨h.bb,by simp,fun a m b i e=>by
   rw[Ml]at i;subst i e;exact f (aX.2 (.inl m))⟩
 rcases My.1 n with c|c
 ·exact h.br k v R b j l d c
 rw[Ml]at c;subst c;exact f (aX.2 (.inr ⟨k,v,R,j,l,d⟩))
theorem kg(d:Obj){us:List Value}{ts:List Tree}(k:FT (en w G0 bx rv rs) us ts):FT (en (w.alloc d) G0 (bx++[w.heap.size]) rv rs) us ts:=by
 refine k.mono (by simp[en]) (fun b f e=>⟨Below.heap_alloc w d b f,?_⟩) (fun i g a=>?_) (fun _ _ h=>h)
 ·rintro(c|c)
  ·exact e (.inl c)
  rcases(lV (rv:=rv) (rs:=rs) _ b).1 c with j|j
  ·exact e (.inr j)
  simp only[en]at f;omega
 show(bx++[w.heap.size])[i]? =some g
 have a:bx[i]? =some g:=a;rw[ME (L7.1 a).1];exact a
theorem Cv(c:Obj){us:List Value}{ts:List Tree}(g:PT w (GG G0 bx rv rs) us ts):PT (w.alloc c) (GG G0 (bx++[w.heap.size]) rv rs) us ts:=by
 refine g.mono (by simp) (fun b f d=>⟨Below.heap_alloc w c b f,?_⟩);rintro(a|a)
 ·exact d (.inl a)
 rcases(lV (rv:=rv) (rs:=rs) _ b).1 a with e|e
 ·exact d (.inr e)
 omega
theorem Mem.addBox(h:Mem w0 G0 bs rs bx rv w){us:List Value}{cs:List Tree}{ty:TypeId}(y:FT (en w G0 bx rv rs) us cs)(x:us.all bL=true):
  Mem w0 G0 (bs++[(ty,cs)]) rs (bx++[w.heap.size]) rv (w.alloc (.cells us.toArray ty)):=by
 have a:Below w.heap.size w (w.alloc (.cells us.toArray ty)):=(Below.refl _ _).alloc (L5 _) _;refine⟨ak h.below a h.below.size,h.env0,h.g0,by simp[h.nb],h.nr,fun i g d=>?_,fun k v R s u=>?_,h.nodup.addBox _ fun t=>?_,fun b r=>?_⟩
 ·by_cases f:i<bx.length
  ·rw[ME f]at d;obtain⟨p,l,n,c,j,m,o⟩:=h.box i g d;exact⟨p,l,n,by rw[ME (by rw[<-h.nb];exact f)];exact c,j.below a j.lt,kg _ m,o⟩
  have e:=(L7.1 d).1;simp only[Mc,NL]at e;obtain rfl:i=bx.length:=by omega
  rw[Mw (L5 _),M4]at d;simp only[MW,MN]at d;subst d;exact⟨ty,cs,us,by rw[h.nb,Mw (L5 _),M4];rfl,dP _ _ _,kg _ y,x⟩
 ·obtain⟨xs,c,j,m,o⟩:=h.row k v R s u;exact⟨xs,dz c a,Cv _ j,m,fun g q=>(o g q).of (a.block g (c.lt g q).2)⟩
 ·have:=(h.ok _ (.inr t)).1;omega
 rcases(lV (rv:=rv) (rs:=rs) _ b).1 r with c|c
 ·exact h.ge b c
 have:=h.below.size;omega
theorem rC{g:Nat}(d:g∈cq bx rv rs)(a:w.grownBy w' (some g)){us:List Value}{ts:List Tree}(i:FT (en w G0 bx rv rs) us ts):FT (en w' G0 bx rv rs) us ts:=
 i.mono a.size (fun b f c=>⟨a.block b f fun e=>c (by injection e with e;subst e;exact .inr d),c⟩) (fun _ _ h=>h) (fun _ _ h=>h)
theorem n4{g:Nat}(d:g∈cq bx rv rs)(a:w.grownBy w' (some g)){us:List Value}{ts:List Tree}(h:PT w (GG G0 bx rv rs) us ts):PT w' (GG G0 bx rv rs) us ts:=
 h.mono a.size (fun b f c=>⟨a.block b f fun e=>c (by injection e with e;subst e;exact .inr d),c⟩)
theorem Mem.setBox(h:Mem w0 G0 bs rs bx rv w){b g:Nat}{ty:TypeId}{us:List Value}{cs:List Tree}(o:bx[b]? =some g)(l:w.grownBy w' (some g))(t:IsBlk w' g ty us.toArray)(J:FT (en w' G0 bx rv rs) us cs)(I:us.all bL=true):Mem w0 G0 (bs.set b (ty,cs)) rs bx rv w':=by
 have d:g∈cq bx rv rs:=aX.2 (.inl (L9 o));have u:=(L7.1 o).1;refine⟨h.below.grown l h.below.size (fun k e=>by injection e with e;subst e;exact h.ge _ d),h.env0,h.g0,by simp[h.nb],h.nr,fun i c q=>?_,fun k v R G C=>?_,h.nodup,h.ge⟩
 ·by_cases f:i=b
  ·subst f;rw[o]at q;cases q;exact⟨ty,cs,us,by rw[NA (by rw[<-h.nb];exact u)],t,J,I⟩
  obtain⟨z,x,y,p,r,s,B⟩:=h.box i c q;have a:c≠g:=fun e=>by
   subst e;have A:=h.nodup.bb;obtain⟨E,F⟩:=L7.1 q;obtain⟨H,D⟩:=L7.1 o;have n:=PQ.1 A;rcases OE i b with m|m|m
   ·exact n i b E H m (F.trans D.symm)
   ·exact f m
   exact n b i H E m (D.trans F.symm)
  exact⟨z,x,y,by rw[Nm (fun e=>f e.symm)];exact p,(l.block c r.lt fun e=>a (by injection e)).trans r,rC d l s,B⟩
 obtain⟨xs,p,r,s,B⟩:=h.row k v R G C;have a:v.ownBlock≠some g:=fun e=>h.nodup.br k v R g G C e (L9 o)
 refine⟨xs,p.kept l (.inr a),n4 d l r,s,fun c j=>(B c j).of (l.block c (p.lt c j).2 fun e=>a (by rw[j];injection e with e;rw[e]))⟩
end
def n5(w0:World)(G0:Nat->Prop)(o:Oper)(S S':St):Prop:=∀a w,Sim w0 G0 S a w->OpRuns Tryz.prog o (fun s=>a.tmps.getD s undef) w fun v w'=>Sim w0 G0 S' (a.put o.dst v) w'
section
variable {w0:World} {G0:Nat->Prop} {ops:Array Oper} {rest:List Oper} {Q:Exit->St->Prop} {S S':St} {o:Oper}
theorem eD(d:o.guard=none)(h:n5 w0 G0 o S S')(k:AOps w0 G0 ops rest Q S'):AOps w0 G0 ops (o::rest) Q S:=by
 intro a w e;refine ec (by simp[Region.wanted,d]) fun K b=>?_
 refine Oper.wp_mono ?_ ((h a w e).wp (Q:=yW w0 G0 Q));rintro f w' ⟨v,rfl,c⟩;exact b _ _ (k _ _ c)
theorem D7{ty:TypeId}{x:Operand}{t:Tree}(g:o.op=.box ty x)(p:cT S.n o.dst=true)(l:S.ev x=t)(q:t.oneA=true)(k:t.cells.all Tree.noDig=true):n5 w0 G0 o S ({S with bs:=S.bs++[(ty,t.cells)]}.put o.dst (.box S.bs.length 0)):=by
 rintro a w ⟨bx,rv,j,d,e,b⟩;have m:=bI (op:=o.op) (T:=fun s=>a.tmps.getD s undef) (S:=S) (fun s _=>b s) l (by rw[g];simp[Op.operands]);have h:=nX m q;have f:=j.addBox (ty:=ty) h (h.noDigs k);refine aq (v:=.pointer (some ⟨w.heap.size,0,none⟩)) (W':=w.alloc (.cells (cA (fun s=>a.tmps.getD s undef) x).cells ty)) ?_ ⟨bx++[w.heap.size],rv,?_,by rw[dB,eo,d],by rw[cH,e],?_⟩
 ·simp[execOp,g,Instr.box,newVar,newRow,newObj,Sem.run]
 ·rw[dC,ch];simpa using f
 rw[ch];have c:∀i,FT (en (w.alloc (.cells (cA (fun s=>a.tmps.getD s undef) x).cells ty)) G0 (bx++[w.heap.size]) rv S.rs) [a.tmps.getD i undef] [S.get i]:=fun i=>kg _ (b i)
 intro i;rw[ga a o.dst _ S.n d p,dk];split
 ·exact .box _ _ _ (by show(bx++[w.heap.size])[S.bs.length]? =_;rw[<-j.nb];simp) .nil
 exact c i
end
section
variable {w0:World} {G0:Nat->Prop} {S:St} {o:Oper}
theorem rD{ty:TypeId}{h:List Value}(m:o.op=.alloc ty)(p:cT S.n o.dst=true)(b:gc Tryz.prog ty=some h)(l:h.all bL=true):n5 w0 G0 o S ({S with bs:=S.bs++[(ty,h.map dg)]}.put o.dst (.box S.bs.length 0)):=by
 rintro a w ⟨bx,rv,j,c,d,e⟩;unfold gc at b;simp only[Ot,Na]at b;obtain⟨i,k,z,b,rfl⟩:=b;have g:=j.addBox (ty:=ty) (us:=z.cells.toList) (cs:=z.cells.toList.map dg) (.of (nY _ _ _)) l;refine aq (v:=.pointer (some ⟨w.heap.size,0,none⟩)) (W':=w.alloc (.cells z.cells ty)) ?_ ⟨bx++[w.heap.size],rv,?_,by rw[dB,eo,c],by rw[cH,d],?_⟩
 ·have f:(zeroValue ty).run Tryz.prog w=.ok z w:=by simp[zeroValue,typeInfo,k,b]
  simp[execOp,m,Instr.alloc,newVar,newRow,newObj,Sem.run,f]
 ·rw[dC,ch];simpa using g
 rw[ch];intro i;rw[ga a o.dst _ S.n c p,dk];split
 ·exact .box _ _ _ (by show(bx++[w.heap.size])[S.bs.length]? =_;rw[<-j.nb];simp) .nil
 exact kg _ (e i)
theorem m7{P:Program}{w:World}{g off:Nat}{ty t:TypeId}{cur:List Value}{v:Value}(f:w.heap[g]? =some (.cells cur.toArray t (0,0)))(d:(P.info? ty).map (·.size)=some v.cells.size)(b:off+v.cells.size<=cur.length)(h:∀u∈v.cells.toList,u.oneCell'=true):
  (Instr.storeAt ty (.pointer (some ⟨g,off,none⟩)) v).run P w=.ok () (w.setRow g (cur.take off++v.cells.toList++cur.drop (off+v.cells.size)).toArray):=by
 have a:=run_storeCells_at P g off t v.cells.toList 0 cur.toArray w f (by simpa using b) h;simp only[No,M7]at a;cases c:P.info? ty with
 |none=>simp[c]at d
 |some i=>
  have e:v.cells.size=i.size:=by simp[c]at d;omega
  simp[Instr.storeAt,Instr.sureAddr,storeVar,sizeOf,typeInfo,c,e]at a⊢;rw[<-e]at a⊢;exact a
theorem n6(w:World)(g:Nat)(cs:Array Value):w.grownBy (w.setRow g cs) (some g):=⟨Z,Z,Z,by simp[World.setRow],fun k _ a=>setRow_other w g k cs (fun e=>a (by rw[e]))⟩
def D8(cs:List Tree)(off:Nat)(t:Tree):List Tree:=cs.take off++t.cells++cs.drop (off+t.cells.length)
theorem n7{us vs:List Value}{off n:Nat}(h:us.all bL=true)(b:vs.all bL=true):(us.take off++vs++us.drop n).all bL=true:=by
 simp only[NX,Ma];exact⟨⟨Mh.2 fun x a=>Mh.1 h x (MC a),b⟩,Mh.2 fun x a=>Mh.1 h x (M2 a)⟩
theorem kX{ty m:TypeId}{x y:Operand}{b off:Nat}{cs:List Tree}{t:Tree}{n:Nat}(B:o.op=.store ty x y)(j:o.dst=none)(H:S.ev x=.box b off)(N:S.bs[b]? =some (m,cs))(J:S.ev y=t)(I:t.oneA=true)(M:t.cells.all Tree.one=true)(G:t.cells.all Tree.noDig=true)(O:(Tryz.prog.info? ty).map (·.size)=some n)(C:t.cells.length=n)(r:off+n<=cs.length):n5 w0 G0 o S {S with bs:=S.bs.set b (m,D8 cs off t)}:=by
 rintro a w ⟨bx,rv,F,z,u,d⟩;have E:=bI (op:=o.op) (T:=fun s=>a.tmps.getD s undef) (S:=S) (fun s _=>d s) J (by rw[B];simp[Op.operands]);have D:=bI (op:=o.op) (T:=fun s=>a.tmps.getD s undef) (S:=S) (fun s _=>d s) H (by rw[B];simp[Op.operands]);generalize (fun s=>a.tmps.getD s undef)=T at E D⊢;obtain⟨g,us,l,L,f,A,K⟩:=rB F N D;have p:=nX E I;have c:=p.length;rw[M7]at c;have q:=A.length;have k:=m7 (P:=Tryz.prog) (w:=w) (g:=g) (off:=off) (ty:=ty) (t:=m) (cur:=us) (v:=cA T y) f (by rw[O,c,C]) (by rw[c,C,q];exact r) (p.ones M);have h:g∈cq bx rv S.rs:=aX.2 (.inl (L9 l));have e:=n6 w g (us.take off++(cA T y).cells.toList++us.drop (off+(cA T y).cells.size)).toArray;refine eY (W':=w.setRow g (us.take off++(cA T y).cells.toList++us.drop (off+(cA T y).cells.size)).toArray) (by simp only[execOp,B,L,Sem.run_bind,k,Result.andThen_ok];rfl) ⟨bx,rv,?_,by rw[dB];exact z,by rw[cH,u],?_⟩
 ·refine F.setBox (ty:=m) l e (setRow_heap w g us.toArray _ m (0,0) f) ?_ (n7 K (p.noDigs G));unfold D8;rw[<-c];exact rC h e (((A.take off).append p).append (A.drop _))
 intro i;rw[j];exact rC h e (d i)
def gZ(k:Nat):Tree->Tree
 | .own j=>if j=k then .any else .own j
 | .elp j off=>if j=k then .any else .elp j off
 | .agg _=>.any
 | .tup _=>.any
 |t=>t
def lI(k:Nat):Tree->Tree
 | .agg cs=>.agg (cs.map (gZ k))
 |t=>gZ k t
theorem FT.kill0{E E':En}{k:Nat}{v:Value}{t:Tree}(h:FT E [v] [t])(d:E.W.heap.size<=E'.W.heap.size)(e:∀b,b<E.W.heap.size->¬E.G b->E'.W.heap[b]? =E.W.heap[b]? /\¬E'.G b)(f:∀b g,E.bx b=some g->E'.bx b=some g)(a:∀j v,j≠k->E.rv j=some v->E'.rv j=some v):FT E' [v] [gZ k t]:=by
 cases h with
 |pure h _=>
  cases t<;>first
   |exact .pure (h.mono d e) .nil
   |(simp only[gZ];exact .any _ .nil)
   |(cases h)
 |any=>exact .any _ .nil
 |box b off g h _=>exact .box b off g (f b g h) .nil
 |own j n c A hv _=>
  simp only[gZ];split
  ·exact .any _ .nil
  exact .own j n c A (a j _ (by assumption) hv) .nil
 |elp j off g n c hv _=>
  simp only[gZ];split
  ·exact .any _ .nil
  exact .elp j off g n c (a j _ (by assumption) hv) .nil
 |agg=>exact .any _ .nil
 |tup=>exact .any _ .nil
theorem pq{E E':En}{k:Nat}(a:E.W.heap.size<=E'.W.heap.size)(c:∀b,b<E.W.heap.size->¬E.G b->E'.W.heap[b]? =E.W.heap[b]? /\¬E'.G b)(e:∀b g,E.bx b=some g->E'.bx b=some g)(d:∀j v,j≠k->E.rv j=some v->E'.rv j=some v):∀{us:List Value} {ts:List Tree},FT E us ts->FT E' us (ts.map (gZ k))
 |[],[],_=>.nil
 |[],_::_,h=>by cases h
 |_::_,[],h=>by cases h
 |u::us,t::ts,h=>FT.cons (h.head.kill0 a c e d) (pq a c e d h.tail)
theorem FT.kill{E E':En}{k:Nat}{v:Value}{t:Tree}(h:FT E [v] [t])(d:E.W.heap.size<=E'.W.heap.size)(a:∀b,b<E.W.heap.size->¬E.G b->E'.W.heap[b]? =E.W.heap[b]? /\¬E'.G b)(c:∀b g,E.bx b=some g->E'.bx b=some g)(e:∀j v,j≠k->E.rv j=some v->E'.rv j=some v):FT E' [v] [lI k t]:=by
 cases t with
 |agg cs=>
  obtain⟨xs,rfl,f⟩:=h.isAgg;exact .agg xs _ (pq d a c e f) .nil
 |_=>exact h.kill0 d a c e
def St.kill(S:St)(k:Nat):St:={S with sl:=S.sl.map fun p=>(p.1,lI k p.2),bs:=S.bs.map fun p=>(p.1,p.2.map (gZ k))}
theorem jp(f:Tree->Tree)(a:f .any=.any):∀(l:List (Nat×Tree)) (i:Nat),look (l.map fun p=>(p.1,f p.2)) i=f (look l i)
 |[],i=>a.symm
 |(j,t)::l,i=>by
  simp only[MX,cV];split
  ·rfl
  exact jp f a l i
theorem p8(S:St)(k i:Nat):(S.kill k).get i=lI k (S.get i):=jp (lI k) Z S.sl i
section
variable {w w':World} {bs:List (TypeId×List Tree)} {rs:List (Option Row)} {bx:List Nat} {rv:List Value} {k:Nat} {v v':Value} {R R':Row}
theorem kY(f:k<rv.length)(j:Nat)(u:Value)(X:Row):(rv.set k v')[j]? =some u->(rs.set k (some R'))[j]? =some (some X)->(j=k/\u=v'/\X=R')\/(j≠k/\rv[j]? =some u/\rs[j]? =some (some X)):=fun b a=>by
 by_cases c:j=k
 ·subst c;left;have d:=(L7.1 a).1;rw[MU]at d;rw[NA f]at b;rw[NA d]at a;cases b;cases a;exact⟨Z,Z,Z⟩
 right;rw[Nm (fun e=>c e.symm)]at b a;exact⟨c,b,a⟩
theorem IH(f:rv[k]? =some v)(l:rs[k]? =some (some R))(a:∀g,v'.ownBlock=some g->v.ownBlock=some g\/w.heap.size<=g){b:Nat}(o:b<w.heap.size)(h:GG G0 bx (rv.set k v') (rs.set k (some R')) b):GG G0 bx rv rs b:=by
 rcases h with h|h
 ·exact .inl h
 refine .inr (aX.2 ?_);rcases aX.1 h with c|⟨j,u,X,c,n,e⟩
 ·exact .inl c
 rcases kY (L7.1 f).1 j u X c n with⟨rfl,rfl,rfl⟩|⟨_,m,i⟩
 ·rcases a b e with d|d
  ·exact .inr ⟨j,v,R,f,l,d⟩
  omega
 exact .inr ⟨j,u,X,m,i,e⟩
theorem n8(c:rv[k]? =some v)(f:rs[k]? =some (some R))(j:w.grownBy w' v.ownBlock)(a:∀g,v'.ownBlock=some g->v.ownBlock=some g\/w.heap.size<=g):∀b,b<w.heap.size->¬GG G0 bx rv rs b->w'.heap[b]? =w.heap[b]? /\¬GG G0 bx (rv.set k v') (rs.set k (some R')) b:=fun b i d=>
 ⟨j.block b i fun e=>d (.inr (aX.2 (.inr ⟨k,v,R,c,f,e.symm⟩))),fun h=>d (IH c f a i h)⟩
theorem D9(j:Nat)(u:Value)(a:j≠k)(h:fh rv rs j=some u):fh (rv.set k v') (rs.set k (some R')) j=some u:=by
 unfold fh at h⊢;rw[Nm (fun e=>a e.symm),Nm (fun e=>a e.symm)];exact h
theorem Mem.setRowV(h:Mem w0 G0 bs rs bx rv w){xs:List Value}(s:rv[k]? =some v)(x:rs[k]? =some (some R))(z:w.grownBy w' v.ownBlock)(m:∀g,v'.ownBlock=some g->v.ownBlock=some g\/w.heap.size<=g)(ho:w'.ownsRow w0.heap.size R'.e R'.sz v' R'.es.length xs)(O:PT w' (GG G0 bx (rv.set k v') (rs.set k (some R'))) xs (flat R'.es))(K:Sized R'.sz R'.es/\(R'.tt=true->np v'))(T:∀g,v'.ownBlock=some g->NoDigB w' g):
  Mem w0 G0 (bs.map fun p=>(p.1,p.2.map (gZ k))) (rs.set k (some R')) bx (rv.set k v') w':=by
 have d:=(L7.1 s).1;have o:=n8 (R':=R') (G0:=G0) (bx:=bx) s x z m;have N:∀b,v.ownBlock=some b->w0.heap.size<=b:=fun b C=>h.ge b (aX.2 (.inr ⟨k,v,R,s,x,C⟩))
 have y:∀b,b∈cq bx (rv.set k v') (rs.set k (some R'))->b∈cq bx rv rs\/(v'.ownBlock=some b/\w.heap.size<=b):=fun b C=>by
  rcases aX.1 C with c|⟨j,u,X,c,q,l⟩
  ·exact .inl (aX.2 (.inl c))
  rcases kY d j u X c q with⟨rfl,rfl,rfl⟩|⟨_,n,f⟩
  ·rcases m b l with a|a
   ·exact .inl (aX.2 (.inr ⟨j,v,R,s,x,a⟩))
   exact .inr ⟨l,a⟩
  exact .inl (aX.2 (.inr ⟨j,u,X,n,f,l⟩))
 refine⟨h.below.grown z h.below.size (fun b e=>N b e),h.env0,h.g0,by simp[h.nb],by simp[h.nr],fun i g H=>?_,fun j u X c q=>?_,?_,fun b C=>?_⟩
 ·obtain⟨ty,cs,us,c,q,l,n⟩:=h.box i g H;refine⟨ty,cs.map (gZ k),us,by rw[MQ,c];rfl,(z.block g q.lt fun e=>?_).trans q,pq (E:=en w G0 bx rv rs) (E':=en w' G0 bx (rv.set k v') (rs.set k (some R'))) z.size o (fun _ _ h=>h) (fun j u B V=>D9 j u B V) l,n⟩;exact h.nodup.br k v R g s x e.symm (L9 H)
 ·rcases kY d j u X c q with⟨rfl,rfl,rfl⟩|⟨B,n,f⟩
  ·exact⟨xs,ho,O,K,T⟩
  obtain⟨U,a,A,Q,h9⟩:=h.row j u X n f;have D:∀b,u.ownBlock=some b->v.ownBlock≠some b:=fun b W S=>h.nodup.rr j k u v X R b B n f s x W S
  refine⟨U,a.kept z ?_,A.mono z.size o,Q,fun g I=>(h9 g I).of (z.block g (a.lt g I).2 fun e=>D g I e.symm)⟩;cases P:u.ownBlock with
  |none=>exact .inl Z
  |some b=>exact .inr fun e=>D b P e.symm
 ·refine⟨h.nodup.bb,fun j u X b c q l L=>?_,fun i j u t X Y b r c q l n f a=>?_⟩
  ·rcases kY d j u X c q with⟨rfl,rfl,rfl⟩|⟨_,n,f⟩
   ·rcases m b l with a|a
    ·exact h.nodup.br j v R b s x a L
    have:=(h.ok b (.inr (aX.2 (.inl L)))).1;omega
   exact h.nodup.br j u X b n f l L
  rcases kY d i u X c q with⟨rfl,rfl,rfl⟩|⟨H,J,M⟩
  ·rcases kY d j t Y l n with⟨rfl,_,_⟩|⟨B,G,F⟩
   ·exact r Z
   rcases m b f with A|A
   ·exact h.nodup.rr i j v t R Y b r s x G F A a
   have:=(h.ok b (.inr (aX.2 (.inr ⟨j,t,Y,G,F,a⟩)))).1;omega
  rcases kY d j t Y l n with⟨rfl,rfl,rfl⟩|⟨B,G,F⟩
  ·rcases m b a with A|A
   ·exact h.nodup.rr i j u v X R b r J M s x f A
   have:=(h.ok b (.inr (aX.2 (.inr ⟨i,u,X,J,M,f⟩)))).1;omega
  exact h.nodup.rr i j u t X Y b r J M G F f a
 rcases y b C with c|⟨_,c⟩
 ·exact h.ge b c
 have:=h.below.size;omega
end
end
end Go.Proofs.YtfoejfohbkmmeaaGreatDoor
