import Derived.Test.YtfoejfohbkmmeaaGreatDoorQ04
import Derived.Test.YtfoejfohbkmmeaaGreatDoorQ00
import Derived.Maps.AppendAt
import Derived.Lib.AppendStr
namespace Go.Proofs.YtfoejfohbkmmeaaGreatDoor
open Go.RowKit
open Lib renaming hid→J
def Ct(f:FuncId)(args:List Tree)(r:Tree):Prop:=(∃fn,Tryz.prog.funcs[f]? =some fn/\(fn.name== "runtime.NumGoroutine")=false/\fn.body.isNone=false)/\∀(G:Nat->Prop) (w:World) (vs:List Value),Env w->(∀g,G g->g<w.heap.size/\NoDigB w g)->PT w G vs args->
 Calls Tryz.prog f vs.toArray w fun e w'=>∃v,e=.returned v/\PT w' G [v] [r]/\Below w.heap.size w w'
def dg:Value->Tree
 | .slice none 0 0=>.sl []
 |v=>.sc v
theorem nY(W:World)(G:Nat->Prop):∀a:List Value,PT W G a (a.map dg)
 |[]=>.nil
 |z::a=>by
  rw[MX];refine PT.cons ?_ (nY W G a);unfold dg;split
  ·exact dI W G
  exact .sc _ .nil
def tJ(P:Program)(t:TypeId):Option (List (Nat×Nat)×List Value):=
 match P.underlying t,P.info? t with
 |some (.struct fs),some i=>i.zero.bind fun z=>(fs.toList.mapM fun f=>(P.info? f.type).map fun i=>(f.offset,i.size)).map fun pl=>(pl,z.cells.toList)
 |_,_=>none
def gc(P:Program)(e:TypeId):Option (List Value):=(P.info? e).bind fun i=>i.zero.map fun z=>z.cells.toList
theorem nq{P:Program}{w:World}:∀{l:List Field} {a:List (Nat×Nat)},(l.mapM fun f=>(P.info? f.type).map fun i=>(f.offset,i.size))=some a->(l.mapM (m:=Sem) fun f=>do pure (f.offset,<-sizeOf f.type)).run P w=.ok a w
 |[],a,h=>by
  simp at h;subst h;rfl
 |f::l,a,h=>by
  simp only[Qa,Option.bind_eq_bind,Ot,Na,Option.pure_def,MN]at h;obtain⟨_,⟨i,b,rfl⟩,ps,c,rfl⟩:=h;simp[sizeOf,typeInfo,b];have:=nq (P:=P) (w:=w) c;simp[sizeOf,typeInfo]at this;simp[this]
section
variable {S:St} {o:Oper}
theorem nZ{E:En}{T:Nat->Value}{op:Op}(a:∀s,(dN op).contains s=true->FT E [T s] [S.get s]):∀(ps:List (Nat×Operand)),(∀p∈ps,p.2∈op.operands.toList)->FT E ((ps.map fun p=>(p.1,cA T p.2)).map (·.2)) ((ps.map fun p=>(p.1,S.ev p.2)).map (·.2))
 |[],_=>.nil
 |p::ps,h=>FT.cons (D3 a (h p (Mr ..))) (nZ a ps fun q b=>h q (MB _ b))
theorem fG{t:TypeId}{parts:Array (Nat×Operand)}{r:List (Nat×Nat)}{y:List Value}{qs:List (Nat×Tree)}{rs:List Tree}(u:o.op=.build t parts)(b:tJ Tryz.prog t=some (r,y))(s:parts.toList.map (fun p=>(p.1,S.ev p.2))=qs)(d:(qs.all fun q=>q.2.oneA)=true)(B:nW (r[·]?) (y.map dg) qs=some rs):OpOK o S (.agg rs):=by
 intro w0 G0 bx rv w T G A;have n:=nZ (S:=S) A parts.toList (fun p C=>by rw[u];simp only[Op.operands,Ny];exact⟨p,C,Z⟩);unfold tJ at b;split at b
 ·next fs i hu hi=>
  cases h:i.zero with
  |none=>simp[h]at b
  |some z=>
   simp only[h,Nc,Na,Pk]at b;obtain⟨a,k,rfl,rfl⟩:=b;have l:=nq (w:=w) k;rw[s]at n;obtain⟨us,F,D⟩:=qP (E:=en w G0 bx rv S.rs) (place:=(a[·]?)) (ps:=parts.toList.map fun p=>(p.1,cA T p.2)) (qs:=qs) (cells:=z.cells) (ts:=z.cells.toList.map dg) (by rw[<-s];simp) n d (.of (nY _ _ _)) B;refine aq (v:=.agg us) (W':=w) ?_ ⟨?_,Below.refl _ _⟩
   ·have j:(fs.mapM (m:=Sem) fun f=>do pure (f.offset,<-sizeOf f.type)).run Tryz.prog w=.ok a.toArray w:=by
     rw[Ol,Sem.run_map,l];rfl
    have g:Instr.fill (fun x=>a.toArray[x]?) z.cells (parts.map fun p=>(p.1,cA T p.2)).toList=some us:=by
     rw[<-F];simp
    have e:(zeroValue t).run Tryz.prog w=.ok z w:=by simp[zeroValue,typeInfo,hi,h]
    have c:(Instr.build t (parts.map fun p=>(p.1,cA T p.2))).run Tryz.prog w=.ok (.agg us) w:=by
     unfold Instr.build;rw[Sem.run_bind,e,Result.andThen_ok,Sem.run_bind,run_underlying hu,Result.andThen_ok];simp only;rw[Sem.run_bind,j,Result.andThen_ok];simp only[g];rfl
    simp[execOp,u,c]
   have:FT (en w G0 bx rv S.rs) [.agg us.toList.toArray] [.agg rs]:=.agg _ _ D .nil;simpa using this
 cases b
theorem D5{w0 w:World}{G0:Nat->Prop}{bs:List (TypeId×List Tree)}{rs:List (Option Row)}{bx:List Nat}{rv:List Value}(a:Mem w0 G0 bs rs bx rv w)(b:Nat)(c:w.heap.size<=b):¬GG G0 bx rv rs b:=fun h=>by
 have:=(a.ok b h).1;omega
theorem a6{t e:TypeId}{len m:Nat}{parts:Array (Nat×Operand)}{D:List Value}{qs:List (Nat×Tree)}{es:List Tree}(K:o.op=.buildSlice t len parts)(L:gE Tryz.prog t=some (e,m))(g:gc Tryz.prog e=some D)(y:D.length=m)(N:0<len*m)(M:len*m<=16777216)
  (I:parts.toList.map (fun p=>(p.1,S.ev p.2))=qs) (d:(qs.all fun q=>q.2.oneA)=true) (C:(flat es).all Tree.plain0=true) (P:nW (fun i=>some (i*m,m)) (((List.range (len*m)).map fun i=>D[i%m]!).map dg) qs=some (flat es)) (Y:es.length=len):OpOK o S (.sl es):=by
 intro w0 G0 bx rv w T W O;have H:=nZ (S:=S) O parts.toList (fun p Q=>by rw[K];simp only[Op.operands,Ny];exact⟨p,Q,Z⟩);obtain⟨k,i,F,rfl⟩:=jI L;unfold gc at g;simp only[F,Nc,Na]at g;obtain⟨z,g,rfl⟩:=g;rw[I]at H;have l:z.cells.size=i.size:=by simpa using y
 have b:((Array.range (len*i.size)).map fun x=>z.cells[x%z.cells.size]!).toList=(List.range (len*i.size)).map fun x=>z.cells.toList[x%i.size]! :=by
  rw[l];simp only[PW,Array.toList_range];refine PC fun a _=>?_
  rw[P1,MV,List.getElem!_eq_getElem?_getD,Np]
 obtain⟨us,h1,J⟩:=qP (E:=en w G0 bx rv S.rs) (place:=fun x=>some (x*i.size,i.size)) (ps:=parts.toList.map fun p=>(p.1,cA T p.2)) (qs:=qs) (cells:=(Array.range (len*i.size)).map fun x=>z.cells[x%z.cells.size]!) (ts:=((List.range (len*i.size)).map fun x=>z.cells.toList[x%i.size]!).map dg) (by rw[<-I];simp) H d (.of (by rw[b];exact nY _ _ _)) P;have c:(Instr.buildSlice t len (parts.map fun p=>(p.1,cA T p.2))).run Tryz.prog w=.ok (.slice (some ⟨w.heap.size,0,none⟩) len len) (w.alloc (.cells us e)):=by
  have r:(zeroValue e).run Tryz.prog w=.ok z w:=by simp[zeroValue,typeInfo,F,g]
  have s:(sizeOf e).run Tryz.prog w=.ok i.size w:=by simp[sizeOf,typeInfo,F]
  have A:Instr.fill (fun x=>some (x*i.size,i.size)) ((Array.range (len*i.size)).map fun x=>z.cells[x%z.cells.size]!) (parts.map fun p=>(p.1,cA T p.2)).toList=some us:=by
   rw[<-h1];simp
  have R:¬2^24<len*i.size:=by omega
  have U:¬len*i.size=0:=by omega
  simp only[Instr.buildSlice,Sem.run_bind,run_underlying k,Result.andThen_ok,s,gt_iff_lt,if_neg R,if_neg U,r,Sem.run_pure,A,newRow,newObj];rfl
 have G:us.size=(flat es).length:=by have:=J.length;simpa using this
 have n:=dP w e us;have B:len<=9223372036854775807:=by
  have X:0<i.size:=NG fun h=>by rw[h]at N;omega
  have:=Nat.le_mul_of_pos_right len X;omega
 have f:Below w.heap.size w (w.alloc (.cells us e)):=(Below.refl _ _).alloc (L5 _) _;refine aq (v:=.slice (some ⟨w.heap.size,0,none⟩) len len) (W':=w.alloc (.cells us e)) (by simp[execOp,K,c]) ⟨.pure (.sl w.heap.size 0 len len us.toList es (by simp[en]) (D5 W _ (L5 _)) (fun j u k=>?_) Y.symm (by omega) B ?_ .nil) .nil,f⟩
 ·rw[M0];show(w.alloc (.cells us e)).cell? _=_
  rw[n.cell];simpa using k
 have V:PT w (GG G0 bx rv S.rs) us.toList (flat es):=J.plain0s C;exact V.later f
theorem n3{E:En}{T:Nat->Value}{op:Op}(a:∀s,(dN op).contains s=true->FT E [T s] [S.get s]):∀(xs:List Operand),(∀x∈xs,x∈op.operands.toList)->FT E (xs.map (cA T)) (xs.map S.ev)
 |[],_=>.nil
 |x::xs,h=>FT.cons (D3 a (h x (Mr ..))) (n3 a xs fun q b=>h q (MB _ b))
theorem ar{f:FuncId}{xs:Array Operand}{a:Array TypeId}{ts:List Tree}{r:Tree}(j:o.op=.call {callee:=.value (.func f),args:=xs,argTypes:=a})(b:Ct f ts r)(m:xs.toList.map S.ev=ts)(p:ts.all Tree.plain=true):OpOK o S r:=by
 intro w0 G0 bx rv w T h n;have d:=n3 (S:=S) n xs.toList (fun x k=>by rw[j];simp only[Op.operands,Call.operands];simp;exact .inr (by simpa using k));rw[m]at d;obtain⟨⟨i,y,u,g⟩,b⟩:=b;have c:=b (GG G0 bx rv S.rs) w _ h.env h.ok (d.plains p);refine bJ (f:=f) (args:=(xs.toList.map (cA T)).toArray) ?_ (c.mono ?_)
 ·have q:¬i.name= "runtime.NumGoroutine" :=by simpa using u
  have s:¬i.body=none:=fun e=>by rw[e]at g;cases g
  have z:(xs.toList.map (cA T)).toArray=xs.map (cA T):=OW (by simp);rw[z];simp[execOp,j,resolve,cA,Deferred.ofValue,invoke,callFunc,y,q,s]
 rintro e w' ⟨v,rfl,t,l⟩;exact⟨v,Z,.pure t .nil,l⟩
def bg(l:List UInt8):List Tree:=l.map fun c=>.sc (.int .u8 c.toNat)
theorem kW:∀l,flat (bg l)=bg l
 |[]=>rfl
 |c::l=>by
  have:=kW l;simp only[bg,MX,ei,Tree.cells]at this⊢;rw[this];rfl
theorem lU(l:List UInt8):Sized 1 (bg l):=Sized.map _ l fun _=>rfl
theorem a7(l:List UInt8):(bg l).length=l.length:=by simp[bg]
end
def Tree.noDig:Tree->Bool
 | .sc v=>bL v
 | .sl _| .tl _| .ref _| .box _ _| .own _| .elp _ _=>true
 |_=>false
theorem FT.noDig{E:En}{v:Value}{t:Tree}(h:FT E [v] [t])(a:t.noDig=true):bL v=true:=by
 cases h with
 |pure h _=>
  cases h with
  |sc=>exact a
  |sl0=>rfl
  |sl=>rfl
  |tl=>rfl
  |agg=>simp[Tree.noDig]at a
  |tup=>simp[Tree.noDig]at a
  |ref=>rfl
 |any=>simp[Tree.noDig]at a
 |box=>rfl
 |own=>rfl
 |elp=>rfl
 |agg=>simp[Tree.noDig]at a
 |tup=>simp[Tree.noDig]at a
theorem FT.noDigs{E:En}:∀{us:List Value} {ts:List Tree},FT E us ts->ts.all Tree.noDig=true->us.all bL=true
 |[],[],_,_=>rfl
 |[],_::_,h,_=>by cases h
 |_::_,[],h,_=>by cases h
 |x::us,t::ts,h,hp=>by
  simp only[NP,Ma]at hp⊢;exact⟨h.head.noDig hp.1,FT.noDigs h.tail hp.2⟩
section
variable {w0 w w':World} {G0:Nat->Prop} {bs:List (TypeId×List Tree)} {rs:List (Option Row)} {bx:List Nat} {rv:List Value}
theorem lV(g:Nat):∀b,b∈cq (bx++[g]) rv rs↔b∈cq bx rv rs\/b=g:=fun b=>by
 simp only[cq,My,Ml];constructor
 ·rintro((h|h)|h)
  ·exact .inl (.inl h)
  ·exact .inr h
  exact .inl (.inr h)
 rintro((h|h)|h)
 ·exact .inl (.inl h)
 ·exact .inr h
 exact .inl (.inr h)
theorem Apart.addBox(g:Nat)(h:Apart bx rv rs)(j:g∉cq bx rv rs):Apart (bx++[g]) rv rs:=by
 refine⟨?_,fun k v R b d i l m=>?_,h.rr⟩
 ·rw[List.nodup_append];exact⟨h.bb,by simp,fun a n b f e=>by
   rw[Ml]at f;subst f e;exact j (aX.2 (.inl n))⟩
 rcases My.1 m with c|c
 ·exact h.br k v R b d i l c
 rw[Ml]at c;subst c;exact j (aX.2 (.inr ⟨k,v,R,d,i,l⟩))
theorem kg(e:Obj){us:List Value}{ts:List Tree}(k:FT (en w G0 bx rv rs) us ts):FT (en (w.alloc e) G0 (bx++[w.heap.size]) rv rs) us ts:=by
 refine k.mono (by simp[en]) (fun b d j=>⟨Below.heap_alloc w e b d,?_⟩) (fun i g a=>?_) (fun _ _ h=>h)
 ·rintro(c|c)
  ·exact j (.inl c)
  rcases(lV (rv:=rv) (rs:=rs) _ b).1 c with f|f
  ·exact j (.inr f)
  simp only[en]at d;omega
 show(bx++[w.heap.size])[i]? =some g
 have a:bx[i]? =some g:=a;rw[ME (L7.1 a).1];exact a
theorem Cv(c:Obj){us:List Value}{ts:List Tree}(g:PT w (GG G0 bx rv rs) us ts):PT (w.alloc c) (GG G0 (bx++[w.heap.size]) rv rs) us ts:=by
 refine g.mono (by simp) (fun b f e=>⟨Below.heap_alloc w c b f,?_⟩);rintro(a|a)
 ·exact e (.inl a)
 rcases(lV (rv:=rv) (rs:=rs) _ b).1 a with d|d
 ·exact e (.inr d)
 omega
theorem Mem.addBox(h:Mem w0 G0 bs rs bx rv w){us:List Value}{cs:List Tree}{ty:TypeId}(x:FT (en w G0 bx rv rs) us cs)(y:us.all bL=true):
  Mem w0 G0 (bs++[(ty,cs)]) rs (bx++[w.heap.size]) rv (w.alloc (.cells us.toArray ty)):=by
 have a:Below w.heap.size w (w.alloc (.cells us.toArray ty)):=(Below.refl _ _).alloc (L5 _) _;refine⟨ak h.below a h.below.size,h.env0,h.g0,by simp[h.nb],h.nr,fun i g d=>?_,fun k v R t u=>?_,h.nodup.addBox _ fun s=>?_,fun b r=>?_⟩
 ·by_cases f:i<bx.length
  ·rw[ME f]at d;obtain⟨l,m,n,c,j,o,p⟩:=h.box i g d;exact⟨l,m,n,by rw[ME (by rw[<-h.nb];exact f)];exact c,j.below a j.lt,kg _ o,p⟩
  have e:=(L7.1 d).1;simp only[Mc,NL]at e;obtain rfl:i=bx.length:=by omega
  rw[Mw (L5 _),M4]at d;simp only[MW,MN]at d;subst d;exact⟨ty,cs,us,by rw[h.nb,Mw (L5 _),M4];rfl,dP _ _ _,kg _ x,y⟩
 ·obtain⟨xs,c,j,o,p⟩:=h.row k v R t u;exact⟨xs,dz c a,Cv _ j,o,fun g q=>(p g q).of (a.block g (c.lt g q).2)⟩
 ·have:=(h.ok _ (.inr s)).1;omega
 rcases(lV (rv:=rv) (rs:=rs) _ b).1 r with c|c
 ·exact h.ge b c
 have:=h.below.size;omega
theorem rC{g:Nat}(f:g∈cq bx rv rs)(a:w.grownBy w' (some g)){us:List Value}{ts:List Tree}(i:FT (en w G0 bx rv rs) us ts):FT (en w' G0 bx rv rs) us ts:=
 i.mono a.size (fun b d c=>⟨a.block b d fun e=>c (by injection e with e;subst e;exact .inr f),c⟩) (fun _ _ h=>h) (fun _ _ h=>h)
theorem n4{g:Nat}(f:g∈cq bx rv rs)(a:w.grownBy w' (some g)){us:List Value}{ts:List Tree}(h:PT w (GG G0 bx rv rs) us ts):PT w' (GG G0 bx rv rs) us ts:=
 h.mono a.size (fun b d c=>⟨a.block b d fun e=>c (by injection e with e;subst e;exact .inr f),c⟩)
theorem Mem.setBox(h:Mem w0 G0 bs rs bx rv w){b g:Nat}{ty:TypeId}{us:List Value}{cs:List Tree}(m:bx[b]? =some g)(l:w.grownBy w' (some g))(t:IsBlk w' g ty us.toArray)(I:FT (en w' G0 bx rv rs) us cs)(J:us.all bL=true):Mem w0 G0 (bs.set b (ty,cs)) rs bx rv w':=by
 have d:g∈cq bx rv rs:=aX.2 (.inl (L9 m));have A:=(L7.1 m).1;refine⟨h.below.grown l h.below.size (fun k e=>by injection e with e;subst e;exact h.ge _ d),h.env0,h.g0,by simp[h.nb],h.nr,fun i j r=>?_,fun k v R F H=>?_,h.nodup,h.ge⟩
 ·by_cases f:i=b
  ·subst f;rw[m]at r;cases r;exact⟨ty,cs,us,by rw[NA (by rw[<-h.nb];exact A)],t,I,J⟩
  obtain⟨s,x,y,q,p,u,z⟩:=h.box i j r;have a:j≠g:=fun e=>by
   subst e;have B:=h.nodup.bb;obtain⟨G,D⟩:=L7.1 r;obtain⟨C,E⟩:=L7.1 m;have o:=PQ.1 B;rcases OE i b with n|n|n
   ·exact o i b G C n (D.trans E.symm)
   ·exact f n
   exact o b i C G n (E.trans D.symm)
  exact⟨s,x,y,by rw[Nm (fun e=>f e.symm)];exact q,(l.block j p.lt fun e=>a (by injection e)).trans p,rC d l u,z⟩
 obtain⟨xs,q,p,u,z⟩:=h.row k v R F H;have a:v.ownBlock≠some g:=fun e=>h.nodup.br k v R g F H e (L9 m)
 refine⟨xs,q.kept l (.inr a),n4 d l p,u,fun j c=>(z j c).of (l.block j (q.lt j c).2 fun e=>a (by rw[c];injection e with e;rw[e]))⟩
end
def n5(w0:World)(G0:Nat->Prop)(o:Oper)(S S':St):Prop:=∀a w,Sim w0 G0 S a w->OpRuns Tryz.prog o (fun s=>a.tmps.getD s undef) w fun v w'=>Sim w0 G0 S' (a.put o.dst v) w'
section
variable {w0:World} {G0:Nat->Prop} {ops:Array Oper} {rest:List Oper} {Q:Exit->St->Prop} {S S':St} {o:Oper}
theorem eD(e:o.guard=none)(h:n5 w0 G0 o S S')(k:AOps w0 G0 ops rest Q S'):AOps w0 G0 ops (o::rest) Q S:=by
 intro a w d;refine ec (by simp[Region.wanted,e]) fun K c=>?_
 refine Oper.wp_mono ?_ ((h a w d).wp (Q:=yW w0 G0 Q));rintro f w' ⟨v,rfl,b⟩;exact c _ _ (k _ _ b)
theorem D7{ty:TypeId}{x:Operand}{t:Tree}(j:o.op=.box ty x)(q:cT S.n o.dst=true)(l:S.ev x=t)(k:t.oneA=true)(p:t.cells.all Tree.noDig=true):n5 w0 G0 o S ({S with bs:=S.bs++[(ty,t.cells)]}.put o.dst (.box S.bs.length 0)):=by
 rintro a w ⟨bx,rv,h,c,e,b⟩;have m:=bI (op:=o.op) (T:=fun s=>a.tmps.getD s undef) (S:=S) (fun s _=>b s) l (by rw[j];simp[Op.operands]);have g:=nX m k;have f:=h.addBox (ty:=ty) g (g.noDigs p);refine aq (v:=.pointer (some ⟨w.heap.size,0,none⟩)) (W':=w.alloc (.cells (cA (fun s=>a.tmps.getD s undef) x).cells ty)) ?_ ⟨bx++[w.heap.size],rv,?_,by rw[dB,eo,c],by rw[cH,e],?_⟩
 ·simp[execOp,j,Instr.box,newVar,newRow,newObj,Sem.run]
 ·rw[dC,ch];simpa using f
 rw[ch];have d:∀i,FT (en (w.alloc (.cells (cA (fun s=>a.tmps.getD s undef) x).cells ty)) G0 (bx++[w.heap.size]) rv S.rs) [a.tmps.getD i undef] [S.get i]:=fun i=>kg _ (b i)
 intro i;rw[ga a o.dst _ S.n c q,dk];split
 ·exact .box _ _ _ (by show(bx++[w.heap.size])[S.bs.length]? =_;rw[<-h.nb];simp) .nil
 exact d i
end
section
variable {w0:World} {G0:Nat->Prop} {S:St} {o:Oper}
theorem rD{ty:TypeId}{h:List Value}(k:o.op=.alloc ty)(p:cT S.n o.dst=true)(c:gc Tryz.prog ty=some h)(m:h.all bL=true):n5 w0 G0 o S ({S with bs:=S.bs++[(ty,h.map dg)]}.put o.dst (.box S.bs.length 0)):=by
 rintro a w ⟨bx,rv,j,b,d,e⟩;unfold gc at c;simp only[Ot,Na]at c;obtain⟨i,l,z,c,rfl⟩:=c;have f:=j.addBox (ty:=ty) (us:=z.cells.toList) (cs:=z.cells.toList.map dg) (.of (nY _ _ _)) m;refine aq (v:=.pointer (some ⟨w.heap.size,0,none⟩)) (W':=w.alloc (.cells z.cells ty)) ?_ ⟨bx++[w.heap.size],rv,?_,by rw[dB,eo,b],by rw[cH,d],?_⟩
 ·have g:(zeroValue ty).run Tryz.prog w=.ok z w:=by simp[zeroValue,typeInfo,l,c]
  simp[execOp,k,Instr.alloc,newVar,newRow,newObj,Sem.run,g]
 ·rw[dC,ch];simpa using f
 rw[ch];intro i;rw[ga a o.dst _ S.n b p,dk];split
 ·exact .box _ _ _ (by show(bx++[w.heap.size])[S.bs.length]? =_;rw[<-j.nb];simp) .nil
 exact kg _ (e i)
theorem m7{P:Program}{w:World}{g off:Nat}{ty t:TypeId}{cur:List Value}{v:Value}(h:w.heap[g]? =some (.cells cur.toArray t (0,0)))(e:(P.info? ty).map (·.size)=some v.cells.size)(c:off+v.cells.size<=cur.length)(f:∀u∈v.cells.toList,u.oneCell'=true):
  (Instr.storeAt ty (.pointer (some ⟨g,off,none⟩)) v).run P w=.ok () (w.setRow g (cur.take off++v.cells.toList++cur.drop (off+v.cells.size)).toArray):=by
 have a:=run_storeCells_at P g off t v.cells.toList 0 cur.toArray w h (by simpa using c) f;simp only[No,M7]at a;cases b:P.info? ty with
 |none=>simp[b]at e
 |some i=>
  have d:v.cells.size=i.size:=by simp[b]at e;omega
  simp[Instr.storeAt,Instr.sureAddr,storeVar,sizeOf,typeInfo,b,d]at a⊢;rw[<-d]at a⊢;exact a
theorem n6(w:World)(g:Nat)(cs:Array Value):w.grownBy (w.setRow g cs) (some g):=⟨Z,Z,Z,by simp[World.setRow],fun k _ a=>setRow_other w g k cs (fun e=>a (by rw[e]))⟩
def D8(cs:List Tree)(off:Nat)(t:Tree):List Tree:=cs.take off++t.cells++cs.drop (off+t.cells.length)
theorem n7{us vs:List Value}{off n:Nat}(h:us.all bL=true)(b:vs.all bL=true):(us.take off++vs++us.drop n).all bL=true:=by
 simp only[NX,Ma];exact⟨⟨Mh.2 fun x a=>Mh.1 h x (MC a),b⟩,Mh.2 fun x a=>Mh.1 h x (M2 a)⟩
theorem kX{ty f:TypeId}{x y:Operand}{b off:Nat}{cs:List Tree}{t:Tree}{n:Nat}(B:o.op=.store ty x y)(l:o.dst=none)(G:S.ev x=.box b off)(H:S.bs[b]? =some (f,cs))(I:S.ev y=t)(N:t.oneA=true)(K:t.cells.all Tree.one=true)(M:t.cells.all Tree.noDig=true)(L:(Tryz.prog.info? ty).map (·.size)=some n)(F:t.cells.length=n)(q:off+n<=cs.length):n5 w0 G0 o S {S with bs:=S.bs.set b (f,D8 cs off t)}:=by
 rintro a w ⟨bx,rv,D,r,A,d⟩;have E:=bI (op:=o.op) (T:=fun s=>a.tmps.getD s undef) (S:=S) (fun s _=>d s) I (by rw[B];simp[Op.operands]);have C:=bI (op:=o.op) (T:=fun s=>a.tmps.getD s undef) (S:=S) (fun s _=>d s) G (by rw[B];simp[Op.operands]);generalize (fun s=>a.tmps.getD s undef)=T at E C⊢;obtain⟨g,us,m,J,j,u,O⟩:=rB D H C;have p:=nX E N;have c:=p.length;rw[M7]at c;have z:=u.length;have h:=m7 (P:=Tryz.prog) (w:=w) (g:=g) (off:=off) (ty:=ty) (t:=f) (cur:=us) (v:=cA T y) j (by rw[L,c,F]) (by rw[c,F,z];exact q) (p.ones K);have k:g∈cq bx rv S.rs:=aX.2 (.inl (L9 m));have e:=n6 w g (us.take off++(cA T y).cells.toList++us.drop (off+(cA T y).cells.size)).toArray;refine eY (W':=w.setRow g (us.take off++(cA T y).cells.toList++us.drop (off+(cA T y).cells.size)).toArray) (by simp only[execOp,B,J,Sem.run_bind,h,Result.andThen_ok];rfl) ⟨bx,rv,?_,by rw[dB];exact r,by rw[cH,A],?_⟩
 ·refine D.setBox (ty:=f) m e (setRow_heap w g us.toArray _ f (0,0) j) ?_ (n7 O (p.noDigs M));unfold D8;rw[<-c];exact rC k e (((u.take off).append p).append (u.drop _))
 intro i;rw[l];exact rC k e (d i)
def gZ(k:Nat):Tree->Tree
 | .own j=>if j=k then .any else .own j
 | .elp j off=>if j=k then .any else .elp j off
 | .agg _=>.any
 | .tup _=>.any
 |t=>t
def lI(k:Nat):Tree->Tree
 | .agg cs=>.agg (cs.map (gZ k))
 |t=>gZ k t
theorem FT.kill0{E E':En}{k:Nat}{v:Value}{t:Tree}(h:FT E [v] [t])(e:E.W.heap.size<=E'.W.heap.size)(f:∀b,b<E.W.heap.size->¬E.G b->E'.W.heap[b]? =E.W.heap[b]? /\¬E'.G b)(d:∀b g,E.bx b=some g->E'.bx b=some g)(a:∀j v,j≠k->E.rv j=some v->E'.rv j=some v):FT E' [v] [gZ k t]:=by
 cases h with
 |pure h _=>
  cases t<;>first
   |exact .pure (h.mono e f) .nil
   |(simp only[gZ];exact .any _ .nil)
   |(cases h)
 |any=>exact .any _ .nil
 |box b off g h _=>exact .box b off g (d b g h) .nil
 |own j n c A hv _=>
  simp only[gZ];split
  ·exact .any _ .nil
  exact .own j n c A (a j _ (by assumption) hv) .nil
 |elp j off g n c hv _=>
  simp only[gZ];split
  ·exact .any _ .nil
  exact .elp j off g n c (a j _ (by assumption) hv) .nil
 |agg=>exact .any _ .nil
 |tup=>exact .any _ .nil
theorem pq{E E':En}{k:Nat}(d:E.W.heap.size<=E'.W.heap.size)(e:∀b,b<E.W.heap.size->¬E.G b->E'.W.heap[b]? =E.W.heap[b]? /\¬E'.G b)(a:∀b g,E.bx b=some g->E'.bx b=some g)(c:∀j v,j≠k->E.rv j=some v->E'.rv j=some v):∀{us:List Value} {ts:List Tree},FT E us ts->FT E' us (ts.map (gZ k))
 |[],[],_=>.nil
 |[],_::_,h=>by cases h
 |_::_,[],h=>by cases h
 |u::us,t::ts,h=>FT.cons (h.head.kill0 d e a c) (pq d e a c h.tail)
theorem FT.kill{E E':En}{k:Nat}{v:Value}{t:Tree}(h:FT E [v] [t])(d:E.W.heap.size<=E'.W.heap.size)(e:∀b,b<E.W.heap.size->¬E.G b->E'.W.heap[b]? =E.W.heap[b]? /\¬E'.G b)(c:∀b g,E.bx b=some g->E'.bx b=some g)(a:∀j v,j≠k->E.rv j=some v->E'.rv j=some v):FT E' [v] [lI k t]:=by
 cases t with
 |agg cs=>
  obtain⟨xs,rfl,f⟩:=h.isAgg;exact .agg xs _ (pq d e c a f) .nil
 |_=>exact h.kill0 d e c a
def St.kill(S:St)(k:Nat):St:={S with sl:=S.sl.map fun p=>(p.1,lI k p.2),bs:=S.bs.map fun p=>(p.1,p.2.map (gZ k))}
theorem jp(f:Tree->Tree)(a:f .any=.any):∀(l:List (Nat×Tree)) (i:Nat),look (l.map fun p=>(p.1,f p.2)) i=f (look l i)
 |[],i=>a.symm
 |(j,t)::l,i=>by
  simp only[MX,cV];split
  ·rfl
  exact jp f a l i
theorem p8(S:St)(k i:Nat):(S.kill k).get i=lI k (S.get i):=jp (lI k) Z S.sl i
section
variable {w w':World} {bs:List (TypeId×List Tree)} {rs:List (Option Row)} {bx:List Nat} {rv:List Value} {k:Nat} {v v':Value} {R R':Row}
theorem kY(f:k<rv.length)(j:Nat)(u:Value)(X:Row):(rv.set k v')[j]? =some u->(rs.set k (some R'))[j]? =some (some X)->(j=k/\u=v'/\X=R')\/(j≠k/\rv[j]? =some u/\rs[j]? =some (some X)):=fun b a=>by
 by_cases c:j=k
 ·subst c;left;have d:=(L7.1 a).1;rw[MU]at d;rw[NA f]at b;rw[NA d]at a;cases b;cases a;exact⟨Z,Z,Z⟩
 right;rw[Nm (fun e=>c e.symm)]at b a;exact⟨c,b,a⟩
theorem IH(d:rv[k]? =some v)(l:rs[k]? =some (some R))(c:∀g,v'.ownBlock=some g->v.ownBlock=some g\/w.heap.size<=g){b:Nat}(o:b<w.heap.size)(h:GG G0 bx (rv.set k v') (rs.set k (some R')) b):GG G0 bx rv rs b:=by
 rcases h with h|h
 ·exact .inl h
 refine .inr (aX.2 ?_);rcases aX.1 h with a|⟨j,u,X,a,i,f⟩
 ·exact .inl a
 rcases kY (L7.1 d).1 j u X a i with⟨rfl,rfl,rfl⟩|⟨_,n,m⟩
 ·rcases c b f with e|e
  ·exact .inr ⟨j,v,R,d,l,e⟩
  omega
 exact .inr ⟨j,u,X,n,m,f⟩
theorem n8(d:rv[k]? =some v)(f:rs[k]? =some (some R))(j:w.grownBy w' v.ownBlock)(a:∀g,v'.ownBlock=some g->v.ownBlock=some g\/w.heap.size<=g):∀b,b<w.heap.size->¬GG G0 bx rv rs b->w'.heap[b]? =w.heap[b]? /\¬GG G0 bx (rv.set k v') (rs.set k (some R')) b:=fun b c i=>
 ⟨j.block b c fun e=>i (.inr (aX.2 (.inr ⟨k,v,R,d,f,e.symm⟩))),fun h=>i (IH d f a c h)⟩
theorem D9(j:Nat)(u:Value)(a:j≠k)(h:fh rv rs j=some u):fh (rv.set k v') (rs.set k (some R')) j=some u:=by
 unfold fh at h⊢;rw[Nm (fun e=>a e.symm),Nm (fun e=>a e.symm)];exact h
theorem Mem.setRowV(h:Mem w0 G0 bs rs bx rv w){xs:List Value}(s:rv[k]? =some v)(x:rs[k]? =some (some R))(A:w.grownBy w' v.ownBlock)(f:∀g,v'.ownBlock=some g->v.ownBlock=some g\/w.heap.size<=g)(ho:w'.ownsRow w0.heap.size R'.e R'.sz v' R'.es.length xs)(O:PT w' (GG G0 bx (rv.set k v') (rs.set k (some R'))) xs (flat R'.es))(I:Sized R'.sz R'.es/\(R'.tt=true->np v'))(hd:∀g,v'.ownBlock=some g->NoDigB w' g):
  Mem w0 G0 (bs.map fun p=>(p.1,p.2.map (gZ k))) (rs.set k (some R')) bx (rv.set k v') w':=by
 have d:=(L7.1 s).1;have o:=n8 (R':=R') (G0:=G0) (bx:=bx) s x A f;have M:∀b,v.ownBlock=some b->w0.heap.size<=b:=fun b B=>h.ge b (aX.2 (.inr ⟨k,v,R,s,x,B⟩))
 have z:∀b,b∈cq bx (rv.set k v') (rs.set k (some R'))->b∈cq bx rv rs\/(v'.ownBlock=some b/\w.heap.size<=b):=fun b B=>by
  rcases aX.1 B with a|⟨j,u,X,a,q,l⟩
  ·exact .inl (aX.2 (.inl a))
  rcases kY d j u X a q with⟨rfl,rfl,rfl⟩|⟨_,n,m⟩
  ·rcases f b l with c|c
   ·exact .inl (aX.2 (.inr ⟨j,v,R,s,x,c⟩))
   exact .inr ⟨l,c⟩
  exact .inl (aX.2 (.inr ⟨j,u,X,n,m,l⟩))
 refine⟨h.below.grown A h.below.size (fun b e=>M b e),h.env0,h.g0,by simp[h.nb],by simp[h.nr],fun i g N=>?_,fun j u X a q=>?_,?_,fun b B=>?_⟩
 ·obtain⟨ty,cs,us,a,q,l,n⟩:=h.box i g N;refine⟨ty,cs.map (gZ k),us,by rw[MQ,a];rfl,(A.block g q.lt fun e=>?_).trans q,pq (E:=en w G0 bx rv rs) (E':=en w' G0 bx (rv.set k v') (rs.set k (some R'))) A.size o (fun _ _ h=>h) (fun j u D W=>D9 j u D W) l,n⟩;exact h.nodup.br k v R g s x e.symm (L9 N)
 ·rcases kY d j u X a q with⟨rfl,rfl,rfl⟩|⟨D,n,m⟩
  ·exact⟨xs,ho,O,I,hd⟩
  obtain⟨U,c,y,V,Q⟩:=h.row j u X n m;have C:∀b,u.ownBlock=some b->v.ownBlock≠some b:=fun b S T=>h.nodup.rr j k u v X R b D n m s x S T
  refine⟨U,c.kept A ?_,y.mono A.size o,V,fun g K=>(Q g K).of (A.block g (c.lt g K).2 fun e=>C g K e.symm)⟩;cases P:u.ownBlock with
  |none=>exact .inl Z
  |some b=>exact .inr fun e=>C b P e.symm
 ·refine⟨h.nodup.bb,fun j u X b a q l J=>?_,fun i j u t X Y b r a q l n m c=>?_⟩
  ·rcases kY d j u X a q with⟨rfl,rfl,rfl⟩|⟨_,n,m⟩
   ·rcases f b l with c|c
    ·exact h.nodup.br j v R b s x c J
    have:=(h.ok b (.inr (aX.2 (.inl J)))).1;omega
   exact h.nodup.br j u X b n m l J
  rcases kY d i u X a q with⟨rfl,rfl,rfl⟩|⟨N,H,L⟩
  ·rcases kY d j t Y l n with⟨rfl,_,_⟩|⟨D,F,G⟩
   ·exact r Z
   rcases f b m with y|y
   ·exact h.nodup.rr i j v t R Y b r s x F G y c
   have:=(h.ok b (.inr (aX.2 (.inr ⟨j,t,Y,F,G,c⟩)))).1;omega
  rcases kY d j t Y l n with⟨rfl,rfl,rfl⟩|⟨D,F,G⟩
  ·rcases f b c with y|y
   ·exact h.nodup.rr i j u v X R b r H L s x m y
   have:=(h.ok b (.inr (aX.2 (.inr ⟨i,u,X,H,L,m⟩)))).1;omega
  exact h.nodup.rr i j u t X Y b r H L F G m c
 rcases z b B with a|⟨_,a⟩
 ·exact h.ge b a
 have:=h.below.size;omega
end
end
theorem cI{w:World}{g:Nat}{c:Array Value}{e:TypeId}{fr:Nat×Nat}(h:w.heap[g]? =some (.cells c e fr))(b:c.toList.all bL=true):NoDigB w g:=fun i u a=>by
 simp only[World.cell?,h,Qq,N9,if_false]at a;exact Mh.1 b u (L9 (by simpa using a))
theorem my{w:World}{g:Nat}{c:Array Value}{e:TypeId}(h:w.heap[g]? =some (.cells c e (0,0)))(d:NoDigB w g):c.toList.all bL=true:=Mh.2 fun u b=>by
 obtain⟨i,a,rfl⟩:=Nb b;refine d i _ ?_;simp only[World.cell?,h,Qq,N9,if_false];rw[<-Np];exact L4 a
theorem g5{z:Value}(c:z.cells.toList.all bL=true)(n:Nat):(Builtin.zeroCells z.cells n).toList.all bL=true:=Mh.2 fun u a=>by
 simp only[Builtin.zeroCells,PW,Ny]at a;obtain⟨i,d,rfl⟩:=a;rw[P1,MV];cases b:z.cells[i%z.cells.size]? with
 |none=>rfl
 |some x=>exact Mh.1 c x (by have:=Qb b;simpa using this)
theorem kZ{l:List Value}(h:l.all bL=true)(n:Nat):(l.take n).all bL=true:=Mh.2 fun x a=>Mh.1 h x (MC a)
theorem mz{P:Program}(w:World)(base:Nat)(t ty e:TypeId)(i:TypeInfo)(z:Value)(size k:Nat)(D:P.underlying t=some (.slice e))(N:P.info? e=some i)(T:i.zero=some z)
  (o:i.size=size) (L:i.bytes=k) (R:z.cells.size=size) (S:0<size) (v:Value) (n:Nat) (xs:List Value) (b:w.ownsRow base e size v n xs) (A:Option Addr) (m c:Nat) (news:List Value) (C:news.length=m*size) (M:A=none->m=0/\c=0) (d:∀a,A=some a->∀j u,news[j]? =some u->w.cell? (a.add j)=some u) (V:∀u∈news,u.oneCell'=true)
  (I:n+m<=maxLen) (f:(n+m)*k<=140737488355328) (s:base<=w.heap.size) (F:z.cells.toList.all bL=true) (B:news.all bL=true) (W:∀g,v.ownBlock=some g->NoDigB w g):
  ∃v' w',(Builtin.append_ #[t,t] ty #[v,.slice A m c]).run P w=.ok v' w'/\w'.ownsRow base e size v' (n+m) (xs++news)/\w.grownBy w' v.ownBlock/\(v'.ownBlock=v.ownBlock\/v'.ownBlock=some w.heap.size)/\∀g,v'.ownBlock=some g->NoDigB w' g:=by
 cases A with
 |none=>
  obtain⟨rfl,rfl⟩:=M rfl;have hn:news=[]:=Mk (by simpa using C);subst hn;have G:=run_append_owned_none (P:=P) (w:=w) base t ty e i size D N v n xs b;exact⟨v,w,G,by simpa using b,⟨Z,Z,Z,L5 _,fun _ _ _=>rfl⟩,.inl Z,W⟩
 |some a=>
  obtain⟨v',w',Q,h2,h3,h4,h5⟩:=run_append_own_at (P:=P) w base t ty e i z size k D N T o L R S v n xs b a m c news C (d a rfl) V I f s;refine⟨v',w',Q,h2,h3,h5,?_⟩;subst o;subst L;have O:n+m<=9223372036854775807:=by simp only[maxLen]at I;omega
  rcases b.2 with⟨rfl,rfl⟩|⟨g,y,cur,rfl,a1,x,Y,a0,U,r⟩
  ·by_cases hm:m=0
   ·rw[h4.2 ⟨Z,hm⟩];intro g x;cases x
   have h:=run_append_nil (P:=P) w t ty e i z D N T a m c news C (d a Z) (by omega) (by omega) (by have X:=f;simp only[M0]at X;omega);rw[Q]at h;injection h with J K
   subst J K;intro g x;cases x;exact cI (heap_alloc_new w.drew _) (by simp only[Nv,NX,Ma];exact⟨B,g5 F _⟩)
  have H:=my x (W g Z);by_cases l:n+m<=y
  ·have E:n*i.size+news.length<=cur.size:=by rw[C,U,<-M3];exact MJ _ l
   have h:=run_append_room (P:=P) w t ty e i D N g n y cur x a m c news C (d a Z) V l E;rw[Q]at h;injection h with J K
   subst J K;intro g' p;cases p;exact cI (setRow_heap w g cur _ e _ x) (n7 H B)
  have q:∀j u,xs[j]? =some u->w.cell? ((⟨g,0,none⟩:Addr).add j)=some u:=b.cells (g:=g) Z;have h:=run_append_grow (P:=P) w t ty e i z D N T ⟨g,0,none⟩ n y xs b.1 q a m c news C (d a Z) (by omega) (by omega) (growslice_fits (by omega) f);rw[Q]at h;injection h with J K
  subst J K;intro g' p;cases p;refine cI (heap_alloc_new w.drew _) ?_;simp only[Nv,NX,Ma];exact⟨⟨by rw[<-r];exact kZ H _,B⟩,g5 F _⟩
theorem Ea{P:Program}(w:World)(base:Nat)(t u ty e:TypeId)(i:TypeInfo)(E:P.underlying t=some (.slice e))(F:P.underlying u=some .string)(I:P.info? e=some i)(K:i.zero=some (.int .u8 0))(b:i.size=1)(r:i.bytes=1)
  (v:Value) (n:Nat) (xs:List Value) (d:w.ownsRow base e 1 v n xs) (s:ByteArray) (Q:n+s.size<=140737488355328) (q:base<=w.heap.size) (T:∀g,v.ownBlock=some g->NoDigB w g):
  ∃v' w',(Builtin.append_ #[t,u] ty #[v,.string s]).run P w=.ok v' w'/\w'.ownsRow base e 1 v' (n+s.size) (xs++bH s.data.toList)/\w.grownBy w' v.ownBlock/\(v'.ownBlock=v.ownBlock\/v'.ownBlock=some w.heap.size)/\∀g,v'.ownBlock=some g->NoDigB w' g:=by
 have A:(Value.int .u8 0).cells.toList.all bL=true:=rfl;have f:Lib.strCells s=bH s.data.toList:=by simp[Lib.strCells,bH]
 have h:(Lib.strCells s).all bL=true:=Mh.2 fun x J=>by
  rw[f]at J;simp only[bH,Ny]at J;obtain⟨c,_,rfl⟩:=J;rfl
 obtain⟨v',w',l,H,G,N⟩:=Lib.run_append_own_string (P:=P) w base t u ty e i E F I K b r v n xs d s (by simp only[maxLen];omega) (by omega) q;rcases d.2 with⟨rfl,rfl⟩|⟨g,z,cur,rfl,S,y,O,R,L,p⟩
 ·by_cases M:s.size=0
  ·refine⟨v',w',l,by rw[<-f];exact H,G,?_,?_⟩
   ·rw[N.2 ⟨Z,M⟩];exact .inl Z
   rw[N.2 ⟨Z,M⟩];intro g y;cases y
  have a:=run_append_nil_string (P:=P) w t u ty e i (.int .u8 0) E F I K s (by omega) (by omega) (by rw[r];omega);refine⟨v',w',l,by rw[<-f];exact H,G,?_⟩;rw[l]at a;injection a with C D
  subst C D;refine⟨.inr Z,fun g y=>?_⟩;cases y;refine cI (heap_alloc_new w.drew _) ?_;simp only[Nv,NX,Ma,PW];exact⟨by rw[f]at h;exact h,g5 A _⟩
 have B:=my y (T g Z);by_cases k:n+s.size<=z
 ·have a:=Lib.run_append_room_string (P:=P) w t u ty e i E F I b g n z cur y s k (by rw[L];omega);refine⟨v',w',l,by rw[<-f];exact H,G,?_⟩;rw[l]at a;injection a with C D
  subst C D;refine⟨.inl Z,fun g m=>?_⟩;cases m;exact cI (setRow_heap w _ cur _ e _ y) (n7 B h)
 have o:∀j u,xs[j]? =some u->w.cell? ((⟨g,0,none⟩:Addr).add j)=some u:=World.ownsRow.cells d (g:=g) Z;have a:=Lib.run_append_grow_string (P:=P) w t u ty e i (.int .u8 0) E F I K ⟨g,0,none⟩ n z xs (by rw[b];exact d.1) o s (by omega) (by omega) (by rw[r];exact growslice_fits (by omega) (by omega));refine⟨v',w',l,by rw[<-f];exact H,G,?_⟩;rw[l]at a;injection a with C D
 subst C D;refine⟨.inr Z,fun g m=>?_⟩;cases m;refine cI (heap_alloc_new w.drew _) ?_;simp only[Nv,NX,Ma];exact⟨⟨by rw[<-p];exact kZ B _,h⟩,g5 A _⟩
structure AppT (P:Program) (t e:TypeId) (sz by_:Nat):Prop where
 u:P.underlying t=some (.slice e)
 i:∃i z,P.info? e=some i/\i.zero=some z/\i.size=sz/\i.bytes=by_/\z.cells.size=sz/\z.cells.toList.all bL=true
 pos:0<sz
def lM(P:Program)(t:TypeId):Option (TypeId×Nat×Nat):=
 match P.underlying t with
 |some (.slice e)=>(P.info? e).bind fun i=>i.zero.bind fun z=>if z.cells.size=i.size/\z.cells.toList.all bL=true/\0<i.size then some (e,i.size,i.bytes)else none
 |_=>none
theorem qQ{P:Program}{t e:TypeId}{sz a:Nat}(h:lM P t=some (e,sz,a)):AppT P t e sz a:=by
 unfold lM at h;split at h
 ·next e' hu=>
  simp only[Ot]at h;obtain⟨i,b,z,c,h⟩:=h;split at h
  ·next hc=>
   simp only[MN,Pk]at h;obtain⟨rfl,rfl,rfl⟩:=h;exact⟨hu,⟨i,z,b,c,Z,Z,hc.1,hc.2.1⟩,hc.2.2⟩
  cases h
 cases h
def AllC(p:Tree->Bool)(es:List Tree):Prop:=∀c∈flat es,p c=true
theorem AllC.all{p:Tree->Bool}{es:List Tree}(h:AllC p es):(flat es).all p=true:=Mh.2 h
theorem AllC.lit{p:Tree->Bool}{es:List Tree}(h:(flat es).all p=true):AllC p es:=Mh.1 h
theorem AllC.map{p:Tree->Bool}{α:Type}(f:α->Tree)(l:List α)(h:∀a,(f a).cells.all p=true):AllC p (l.map f):=fun c b=>by
 simp only[flat,PV,Ny]at b;obtain⟨_,⟨a,_,rfl⟩,b⟩:=b;exact Mh.1 (h a) c b
section
variable {w0:World} {G0:Nat->Prop} {S:St} {o:Oper}
theorem wJ{a:Act}{w w':World}{bx:List Nat}{rv:List Value}{k:Nat}{v v':Value}{R R':Row}{xs:List Value}(E:Mem w0 G0 S.bs S.rs bx rv w)(d:a.tmps.size=S.n)(r:a.defers=[])(l:∀i,FT (en w G0 bx rv S.rs) [a.tmps.getD i undef] [S.get i])(H:cT S.n o.dst=true)
  (q:rv[k]? =some v) (x:S.rs[k]? =some (some R)) (t:w.grownBy w' v.ownBlock) (p:v'.ownBlock=v.ownBlock\/v'.ownBlock=some w.heap.size) (B:w'.ownsRow w0.heap.size R'.e R'.sz v' R'.es.length xs) (C:PT w' (GG G0 bx (rv.set k v') (S.rs.set k (some R'))) xs (flat R'.es)) (G:Sized R'.sz R'.es/\(R'.tt=true->np v')) (y:∀g,v'.ownBlock=some g->NoDigB w' g):
  Sim w0 G0 ({S.kill k with rs:=S.rs.set k (some R')}.put o.dst (.own k)) (a.put o.dst v') w':=by
 have b:∀g,v'.ownBlock=some g->v.ownBlock=some g\/w.heap.size<=g:=fun g f=>by
  rcases p with h|h
  ·exact .inl (h▸f)
  rw[h]at f;injection f with f;exact .inr (by omega)
 have m:=(L7.1 q).1;have s:=(L7.1 x).1;refine⟨bx,rv.set k v',?_,by rw[dB,eo];exact d,by rw[cH,r],?_⟩
 ·rw[dC,ch];exact E.setRowV q x t b B C G y
 rw[ch];intro i;rw[ga a o.dst _ S.n d H,dk];split
 ·obtain⟨A,c,rfl⟩:=cc B;refine .own k _ c A ?_ .nil;show fh (rv.set k _) (S.rs.set k (some R')) k=_
  unfold fh;rw[NA s,NA m];rfl
 have z:=(l i).kill (E':=en w' G0 bx (rv.set k v') (S.rs.set k (some R'))) (k:=k) t.size (n8 q x t b) (fun _ _ h=>h) (fun j u D F=>D9 j u D F);rw[<-p8]at z;exact z
theorem tU{x y:Operand}{t:TypeId}{k p:Nat}{R:Row}{d:List Tree}(ho:o.op=.call {callee:=.builtin .append,args:=#[x,y],argTypes:=#[t,t]})(hd:cT S.n o.dst=true)(ht:lM Tryz.prog t=some (R.e,R.sz,p))(H:S.ev x=.own k)(hR:S.rs[k]? =some (some R))(hy:S.ev y=.sl d)(hs:Sized R.sz d)(h1:AllC Tree.one d)(h2:AllC Tree.noDig d)(h3:R.es.length+d.length<=1073741824)(h4:p<=100000):
  n5 w0 G0 o S ({S.kill k with rs:=S.rs.set k (some ⟨R.e,R.sz,R.es++d,false⟩)}.put o.dst (.own k)):=by
 rintro a w ⟨bx,rv,X,V,Z,m⟩;have hp:=bI (op:=o.op) (T:=fun s=>a.tmps.getD s undef) (S:=S) (fun s _=>m s) H (by rw[ho];simp[Op.operands,Call.operands]);have hq:=(bI (op:=o.op) (T:=fun s=>a.tmps.getD s undef) (S:=S) (fun s _=>m s) hy (by rw[ho];simp[Op.operands,Call.operands])).isSl;generalize (fun s=>a.tmps.getD s undef)=T at hp hq⊢;obtain⟨hv,xs,E,J,K,a0⟩:=jn X hR hp;obtain⟨A,c,e1,a1,_,hA,q⟩:=hq.slice;obtain⟨D,⟨i,z,hi,hz,M,Y,O,L⟩,B⟩:=qQ ht;obtain⟨news,Q,G,U⟩:∃news,news.length=d.length*R.sz/\PT w (GG G0 bx rv S.rs) news (flat d)/\∀a,A=some a->∀j u,news[j]? =some u->w.cell? (a.add j)=some u:=by
  rcases M1 d.length with N|N
  ·obtain rfl:d=[]:=Mk N;exact⟨[],by simp,.nil,fun a _ j u D=>by simp at D⟩
  obtain⟨b,off,news,rfl,_,_,hc,H⟩:=q N;refine⟨news,by rw[H.length,hs.flat],H,fun ad ha j u D=>?_⟩;rw[<-Nt ha,Addr.add_mid];exact hc j u D
 have r:FT (en w G0 bx rv S.rs) news (flat d):=.of G;obtain⟨v',w',hr,W,l,F,C⟩:=mz (P:=Tryz.prog) w w0.heap.size t o.type R.e i z R.sz p D hi hz M Y O B (cA T x) R.es.length xs E A d.length c news Q (fun e=>⟨by have:=hA e;omega,hA e⟩) U (r.ones h1.all) (by simp only[maxLen];omega) (L6 (NU h3 h4) (by decide)) X.below.size L (r.noDigs h2.all) a0;refine aq (v:=v') (W':=w') ?_ (wJ (R':=⟨R.e,R.sz,R.es++d,false⟩) (xs:=xs++news) X V Z m hd hv hR l F (by simpa using W) ?_ ⟨K.1.append hs,fun h=>by cases h⟩ C)
 ·simp only[execOp,ho,resolve,invoke,builtin,Sem.run_bind,Sem.run_pure,Result.andThen_ok,Nf,MX,ND,e1,hr]
 have f:=n8 (G0:=G0) (bx:=bx) (w:=w) (w':=w') (v':=v') (R':=⟨R.e,R.sz,R.es++d,false⟩) hv hR l (fun g I=>by
  rcases F with h|h
  ·exact .inl (h▸I)
  rw[h]at I;injection I with I;exact .inr (by omega))
 rw[iF];exact(J.mono l.size f).append (G.mono l.size f)
end
end Go.Proofs.YtfoejfohbkmmeaaGreatDoor
