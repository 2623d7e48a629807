import Derived.Test.YtfoejfohbkmmeaaGreatDoorB08
import Derived.Test.YtfoejfohbkmmeaaGreatDoorB00
import Derived.Deep.QuietTactic
import Derived.BigQuiet
import Derived.StillTailTactics
import Derived.Lib.ReplaceLaws
import Derived.Lib.ItoaNum
import Derived.Lib.ParseIntB
set_option maxRecDepth 100000
set_option maxHeartbeats 400000
namespace Go.Proofs.YtfoejfohbkmmeaaGreatDoor
open Go.RowKit
open Lib renaming hid→J
def EnvB(g:Nat)(w:World):Prop:=∃wE,Env wE/\Below wE.heap.size wE w/\wE.heap.size<=g
def CtM(f:FuncId)(ty:TypeId)(cs args cs':List Tree)(r:Tree):Prop:=(∃fn,Tryz.prog.funcs[f]? =some fn/\(fn.name== "runtime.NumGoroutine")=false/\fn.body.isNone=false)/\∀(G:Nat->Prop) (w:World) (g:Nat) (us vs:List Value),EnvB g w->(∀x,G x->x<w.heap.size/\NoDigB w x)->G g->IsBlk w g ty us.toArray->PT w G us cs->us.all bG=true->PT w G vs args->
 Calls Tryz.prog f (Value.pointer (some ⟨g,0,none⟩)::vs).toArray w fun e w'=>∃v us',e=.returned v/\w.grownBy w' (some g)/\IsBlk w' g ty us'.toArray/\PT w' G us' cs'/\us'.all bG=true/\PT w' G [v] [r]
section
variable {w0:World} {G0:Bse} {o:Oper} {S:St}
theorem yE{f:FuncId}{x:Operand}{k:List Operand}{P:Array TypeId}{b:Nat}{ty:TypeId}{cs m ts:List Tree}{r:Tree}(D:o.op=.call {callee:=.value (.func f),args:=(x::k).toArray,argTypes:=P})(hd:cC S.n o.dst=true)(W:S.ev x=.box b 0)(hb:S.bs[b]? =some (ty,cs))(O:CtM f ty cs ts m r)(X:k.map S.ev=ts)(G:cs.all Tree.plain=true)(hp:ts.all Tree.plain=true):lL w0 G0 o S ({S with bs:=S.bs.set b (ty,m)}.put o.dst r):=by
 rintro a w ⟨bx,rv,l,q,I,d⟩;have h0:=bH (op:=o.op) (T:=fun s=>a.tmps.getD s undef) (S:=S) (fun s _=>d s) W (by rw[D];simp[Op.operands,Call.operands]);have R:=kg (E:=en w G0 bx rv S.rs) (T:=fun s=>a.tmps.getD s undef) (op:=o.op) (S:=S) (fun s _=>d s) k (fun y Y=>by rw[D];simp only[Op.operands,Call.operands];simp;exact .inr (.inr Y));rw[X]at R;obtain⟨g,us,t,hv,p,M,L⟩:=mV l hb h0;obtain⟨⟨V,h1,h2,U⟩,O⟩:=O;have j:g∈cl bx rv S.rs:=aY.2 (.inl (Om t));have F:EnvB g w:=by
  obtain⟨wE,B,H,J,e4⟩:=l.env0.at l.below;exact⟨wE,B,H,(l.ge _ j).elim (Oq J) (e4 g)⟩
 have N:=O (GG G0 bx rv S.rs) w g us _ F l.ok (.inr j) p (M.plains G) L (R.plains hp);refine cP (f:=f) (args:=(Value.pointer (some ⟨g,0,none⟩)::k.map (dm fun s=>a.tmps.getD s undef)).toArray) ?_ (N.mono ?_)
 ·have B:¬V.name= "runtime.NumGoroutine" :=by simpa using h2
  have H:¬V.body=none:=fun e=>by rw[e]at U;cases U
  have J:(Value.pointer (some ⟨g,0,none⟩)::k.map (dm fun s=>a.tmps.getD s undef)).toArray=(x::k).toArray.map (dm fun s=>a.tmps.getD s undef):=by
   rw[<-hv];simp
  rw[J];simp[execOp,D,resolve,dm,Deferred.ofValue,invoke,callFunc,h1,B,H]
 rintro y w' ⟨v,a0,rfl,Q,c,A,u,K⟩;have C:=l.setBox t Q c (FT.of (E:=en w' G0 bx rv S.rs) A) u;have z:=iK (o:=o) (S:=S) (rs:=S.rs) q hd (fun us ts h=>oZ j Q h) d (FT.of (E:=en w' G0 bx rv S.rs) K);refine⟨v,Z,bx,rv,by rw[dE,bZ];exact C,by rw[dW,ee];exact q,by rw[cU,I],fun i=>?_⟩;rw[bZ];have:=z i;rw[cV]at this⊢;exact this
end
theorem cW{w0:World}{G0:Bse}{o:Oper}{ops:Array Oper}{a:List Oper}{Q:Exit->St->Prop}{n d:Nat}{sl:List (Nat×Tree)}{bs bs':List (TypeId×List Tree)}{rs:List (Option Row)}{f:FuncId}{x:Operand}{i:List Operand}{h:Array TypeId}{b:Nat}{ty:TypeId}{cs c ts:List Tree}{r:Tree}(k:o.op=.call {callee:=.value (.func f),args:=(x::i).toArray,argTypes:=h})(l:o.guard=none)(j:o.dst=some d)(u:Nat.blt d n=true)(q:St.ev ⟨n,sl,bs,rs⟩ x=.box b 0)(m:bs[b]? =some (ty,cs))(t:CtM f ty cs ts c r)(s:i.map (St.ev ⟨n,sl,bs,rs⟩)=ts)(g:cs.all Tree.plain=true)(p:ts.all Tree.plain=true)(e:bs.set b (ty,c)=bs')(K:AOps w0 G0 ops a Q ⟨n,(d,r)::sl,bs',rs⟩):AOps w0 G0 ops (o::a) Q ⟨n,sl,bs,rs⟩:=by
 subst e;refine dF l (yE (S:=⟨n,sl,bs,rs⟩) k (by rw[j];simpa[cC,Pn]using u) q m t s g p) ?_;rw[j];exact K
theorem yF{u:Nat}{o:Oper}{n d:Nat}{sl:List (Nat×Tree)}{bs bs':List (TypeId×List Tree)}{rs:List (Option Row)}{f:FuncId}{x:Operand}{vs:List Value}{j:Array TypeId}{b:Nat}{ty:TypeId}{cs a:List Tree}{r:Tree}(k:o.op=.call {callee:=.value (.func f),args:=(x::vs.map Operand.const).toArray,argTypes:=j})(v:o.dst=some d)(w:Nat.blt d n=true)(q:St.ev ⟨n,sl,bs,rs⟩ x=.box b 0)(p:bs[b]? =some (ty,cs))(t:CtM f ty cs (vs.map Tree.sc) a r)(g:cs.all Tree.plain=true)(c:bs.set b (ty,a)=bs'):uY u o ⟨n,sl,bs,rs⟩ id r bs' rs:=by
 subst c;intro w0 G0 S y m h l i;dsimp only at m h l;have e:=mM i (by rw[k];simp[Op.operands,Call.operands]) q (by simp);refine⟨_,yE (S:=S) k (by rw[v,m];simpa[cC,Pn]using w) e (by rw[h];exact p) t (by rw[List.map_map];rfl) g (by simp[Tree.plain]),by rw[ee],by rw[dE];dsimp only;rw[h],by rw[bZ];exact l,fun s=>?_⟩;rw[cV];rfl
def MO(G:Nat->Prop)(g:Nat):Bse:=⟨fun b=>G b/\b≠g,fun b=>b=g,1,fun _=>g⟩
theorem JM{w:World}{G:Nat->Prop}{g:Nat}{ty:TypeId}{us:List Value}{cs:List Tree}(t:EnvB g w)(o:∀x,G x->x<w.heap.size/\NoDigB w x)(p:G g)(l:IsBlk w g ty us.toArray)(m:PT w G us cs)(n:us.all bG=true):Mem w (MO G g) [(ty,cs)] [] [g] [] w:=by
 obtain⟨s,y,r,q⟩:=t;have d:∀b,b∈cl [g] [] []->b=g:=fun b a=>by simpa[cl]using a
 refine⟨Kept.refl _ _,⟨s,y,r,fun b e=>e▸q⟩,fun b h=>⟨(o b h.1).1,(o b h.1).2,h.2⟩,Z,Z,fun i x c=>?_,fun k v R f=>by simp at f,⟨by simp,fun k v R b f=>by simp at f,fun j k u v X R b _ f=>by simp at f⟩,fun b a=>.inr (d b a),fun i c=>?_⟩
 ·cases i with
  |zero=>
   simp only[Pa,OI]at c;subst c;exact⟨ty,cs,us,Z,l,.of (m.mono (Oh _) fun b _ a=>⟨Z,fun h=>by
    rcases h with h|h
    ·exact a h.1
    rw[d b h]at a;exact a p⟩),n⟩
  |succ i=>simp at c
 have:i<1:=c;obtain rfl:i=0:=by omega
 rfl
def MP(rvs:List ResultVar)(ty:TypeId)(cs':List Tree)(r:Tree)(e:Exit)(S:St):Prop:=LB rvs r e S/\S.bs[0]? =some (ty,cs')/\cs'.all Tree.plain0=true
theorem sW{E:En}{vs:List Value}{args:List Tree}{m:Nat}(h:FT E vs args)(i:Nat):FT E [(vs.toArray++Array.replicate m undef).getD i undef] [look (g8 0 args) i]:=by
 rw[jD,if_pos (OA _),Q0];cases d:args[i]? with
 |none=>exact .any _ .nil
 |some t=>
  obtain⟨u,b,a⟩:=h.get i t d;have c:=(Ok.1 b).1;have e:(vs.toArray++Array.replicate m undef).getD i undef=u:=by
   rw[O7,Qh (by simpa using c),PY,b];rfl
  rw[e];exact a
theorem CtM.of{f:FuncId}{p:Func}{c:Code}{ty:TypeId}{cs args m:List Tree}{r:Tree}{n:Nat}{q:List ResultVar}(V:Tryz.prog.funcs[f]? =some p)(d:p.body=some c)(F:(p.name== "runtime.NumGoroutine")=false)(hn:p.ntmps=n)(T:Nat.ble (args.length+1) n=true)(hr:p.results.toList=q)
  (h:∀w0 G g,AWP w0 (MO G g) c (MP q ty m r) ⟨n,g8 0 (.box 0 0::args),[(ty,cs)],[]⟩):CtM f ty cs args m r:=by
 refine⟨⟨p,V,F,by rw[d];rfl⟩,fun G w g us vs hE hG U y O Q X=>?_⟩;have W:=X.length;have T:args.length+1<=n:=by simpa using T
 have I:=JM hE hG U y O Q;have s:∀b,¬G b->¬GG (MO G g) [g] [] [] b:=fun b d h=>by
  rcases h with h|h
  ·exact d h.1
  have:b=g:=by simpa[cl]using h
  rw[this]at d;exact d U
 refine calls_of_wp V d (wp_mono (h w G g _ w ⟨[g],[],I,?_,Z,fun i=>sW (.box 0 0 g Z (.of (X.mono (Oh _) fun b _ d=>⟨Z,s b d⟩))) i⟩) ?_)
 ·simp;omega
 rintro e a w' ⟨S',⟨⟨he,ts,K,rfl,E⟩,H,M⟩,bx,rv,o,_,L,J⟩;obtain⟨j,A,N⟩:=gk o J (hr▸K);have B:bx[0]? =some g:=o.pin 0 Nat.zero_lt_one;obtain⟨a0,Y,l,D,h2,h3,h4⟩:=o.box 0 g B;rw[H]at D;cases D;have z:∀b,¬GG (MO G g) bx rv S'.rs b->¬G b:=fun b d R=>by
  by_cases e:b=g
  ·subst e;exact d (.inr (aY.2 (.inl (Om B))))
  exact d (.inl ⟨R,e⟩)
 have S:w.grownBy w' (some g):=⟨o.below.os,o.below.tape,o.below.output,o.below.size,fun k hk P=>o.below.block k hk fun e=>P (by rw[show k=g from e])⟩;have C:PT w' G l m:=(h3.plain0s M).mono (Oh _) fun b _ d=>⟨Z,z b d⟩
 have key:a.defers=[]/\∃v,(results p a.tmps).run Tryz.prog w'=.ok v w'/\(fun e w'=>∃v l,e=Ending.returned v/\w.grownBy w' (some g)/\IsBlk w' g ty l.toArray/\PT w' G l m/\l.all bG=true/\PT w' G [v] [ki ts]) (.returned v) w':=by
  refine⟨L,if h:j.toArray.size=1 then j.toArray[0]else .tuple j.toArray,?_,_,l,Z,S,h2,C,h4,?_⟩
  ·unfold results;rw[Sem.run_bind,P2,Sem.run_map];exact congrArg (fun x:Result (List Value)=>(x.andThen fun a w'=>Result.ok a.toArray w').andThen fun a w'=>Sem.run Tryz.prog (pure (if h:a.size=1 then a[0]else Value.tuple a)) w') A
  have D:FT (en w' (MO G g) bx rv S'.rs) [if h:j.toArray.size=1 then j.toArray[0]else .tuple j.toArray] [ki ts]:=by
   match j,ts,N with
   |[],[],_=>exact .tup [] [] .nil .nil
   |[u],[t],h=>exact h
   |u::u'::us,t::t'::ts,h=>
    rw[dif_neg (by simp)];exact .tup _ _ h .nil
  exact(D.plain E).mono (Oh _) fun b _ d=>⟨Z,z b d⟩
 rcases he with rfl|rfl
 ·exact key
 exact key
def CtN(f:FuncId)(args:List Tree)(ty:TypeId)(cs:List Tree):Prop:=(∃fn,Tryz.prog.funcs[f]? =some fn/\(fn.name== "runtime.NumGoroutine")=false/\fn.body.isNone=false)/\∀(G:Nat->Prop) (w:World) (vs:List Value),Env w->(∀x,G x->x<w.heap.size/\NoDigB w x)->PT w G vs args->
 Calls Tryz.prog f vs.toArray w fun e w'=>∃g us,e=.returned (.pointer (some ⟨g,0,none⟩))/\w.heap.size<=g/\IsBlk w' g ty us.toArray/\PT w' (fun b=>G b\/b=g) us cs/\us.all bG=true/\Below w.heap.size w w'
theorem Mem.addBoxN{w0 w w':World}{G0:Bse}{bs:List (TypeId×List Tree)}{rs:List (Option Row)}{bx:List Nat}{rv:List Value}(h:Mem w0 G0 bs rs bx rv w){g:Nat}{us:List Value}{cs:List Tree}{ty:TypeId}(c:Below w.heap.size w w')(q:w.heap.size<=g)(l:IsBlk w' g ty us.toArray)(s:PT w' (fun b=>GG G0 bx rv rs b\/b=g) us cs)(C:us.all bG=true):
  Mem w0 G0 (bs++[(ty,cs)]) rs (bx++[g]) rv w'/\∀us ts,FT (en w G0 bx rv rs) us ts->FT (en w' G0 (bx++[g]) rv rs) us ts:=by
 have e:∀b,b<w.heap.size->¬GG G0 bx rv rs b->w'.heap[b]? =w.heap[b]? /\¬GG G0 (bx++[g]) rv rs b:=fun b j z=>⟨c.block b j,by
  rintro(a|a)
  ·exact z (.inl a)
  rcases(ig (rv:=rv) (rs:=rs) _ b).1 a with f|f
  ·exact z (.inr f)
  omega⟩
 have m:∀us ts,FT (en w G0 bx rv rs) us ts->FT (en w' G0 (bx++[g]) rv rs) us ts:=fun us ts s=>s.mono (E':=en w' G0 (bx++[g]) rv rs) c.size e (fun i x d=>by
  show(bx++[g])[i]? =some x
  have d:bx[i]? =some x:=d;rw[OJ (Ok.1 d).1];exact d) (fun _ _ h=>h)
 refine⟨⟨h.below.then c,h.env0,h.g0,by simp[h.nb],h.nr,fun i x d=>?_,fun k v R B A=>?_,h.nodup.addBox _ fun D=>?_,fun b j=>?_,fun i d=>by have:=h.pin i d;rw[OJ (Ok.1 this).1];exact this⟩,m⟩
 ·by_cases o:i<bx.length
  ·rw[OJ o]at d;obtain⟨t,p,y,a,f,u,r⟩:=h.box i x d;exact⟨t,p,y,by rw[OJ (by rw[<-h.nb];exact o)];exact a,f.below c f.lt,m _ _ u,r⟩
  have n:=(Ok.1 d).1;simp only[Oj,PO]at n;obtain rfl:i=bx.length:=by omega
  rw[ON (Oh _),Pb]at d;simp only[Pa,OI]at d;subst d;refine⟨ty,cs,us,by rw[h.nb,ON (Oh _),Pb];rfl,l,.of (s.mono (Oh _) fun b _ j=>⟨Z,?_⟩),C⟩;rintro(a|a)
  ·exact j (.inl (.inl a))
  rcases(ig (rv:=rv) (rs:=rs) _ b).1 a with f|f
  ·exact j (.inl (.inr f))
  exact j (.inr f)
 ·obtain⟨xs,a,f,u,r⟩:=h.row k v R B A;exact⟨xs,d6 a c,f.mono c.size e,u,fun g q=>(r g q).of (c.block g (a.lt g q).2)⟩
 ·have:=(h.ok _ (.inr D)).1;omega
 rcases(ig (rv:=rv) (rs:=rs) _ b).1 j with a|a
 ·exact h.ge b a
 have:=h.below.size;exact .inl (by omega)
section
variable {w0:World} {G0:Bse} {o:Oper} {S:St}
theorem GC{f:FuncId}{xs:Array Operand}{l:Array TypeId}{ts cs:List Tree}{ty:TypeId}(m:o.op=.call {callee:=.value (.func f),args:=xs,argTypes:=l})(D:cC S.n o.dst=true)(k:CtN f ts ty cs)(v:xs.toList.map S.ev=ts)(K:ts.all Tree.plain=true):lL w0 G0 o S ({S with bs:=S.bs++[(ty,cs)]}.put o.dst (.box S.bs.length 0)):=by
 rintro a w ⟨bx,rv,d,b,h,c⟩;have p:=kg (E:=en w G0 bx rv S.rs) (T:=fun s=>a.tmps.getD s undef) (op:=o.op) (S:=S) (fun s _=>c s) xs.toList (fun x u=>by rw[m];simp only[Op.operands,Call.operands];simp;exact .inr (by simpa using u));rw[v]at p;obtain⟨⟨r,L,F,q⟩,k⟩:=k;have j:=k (GG G0 bx rv S.rs) w _ d.env d.ok (p.plains K);refine cP (f:=f) (args:=(xs.toList.map (dm fun s=>a.tmps.getD s undef)).toArray) ?_ (j.mono ?_)
 ·have y:¬r.name= "runtime.NumGoroutine" :=by simpa using F
  have B:¬r.body=none:=fun e=>by rw[e]at q;cases q
  have G:(xs.toList.map (dm fun s=>a.tmps.getD s undef)).toArray=xs.map (dm fun s=>a.tmps.getD s undef):=Q6 (by simp);rw[G];simp[execOp,m,resolve,dm,Deferred.ofValue,invoke,callFunc,L,y,B]
 rintro x w' ⟨g,us,rfl,H,t,z,J,C⟩;obtain⟨A,I⟩:=d.addBoxN C H t z J;refine⟨_,Z,bx++[g],rv,by rw[dE,bZ];exact A,by rw[dW,ee];exact b,by rw[cU,h],fun i=>?_⟩;rw[bZ,gf a o.dst _ S.n b D,cV];split
 ·exact .box _ _ _ (by show(bx++[g])[S.bs.length]? =_;rw[<-d.nb];simp) .nil
 exact I [_] [_] (c i)
end
theorem Bq{w0:World}{G0:Bse}{o:Oper}{ops:Array Oper}{a:List Oper}{Q:Exit->St->Prop}{n d k:Nat}{sl:List (Nat×Tree)}{bs bs':List (TypeId×List Tree)}{rs:List (Option Row)}{f:FuncId}{xs:Array Operand}{c:Array TypeId}{ts cs:List Tree}{ty:TypeId}(g:o.op=.call {callee:=.value (.func f),args:=xs,argTypes:=c})(h:o.guard=none)(e:o.dst=some d)(p:Nat.blt d n=true)(m:CtN f ts ty cs)(l:xs.toList.map (St.ev ⟨n,sl,bs,rs⟩)=ts)(i:ts.all Tree.plain=true)(j:bs.length=k)(b:bs++[(ty,cs)]=bs')(K:AOps w0 G0 ops a Q ⟨n,(d,.box k 0)::sl,bs',rs⟩):AOps w0 G0 ops (o::a) Q ⟨n,sl,bs,rs⟩:=by
 subst j b;refine dF h (GC (S:=⟨n,sl,bs,rs⟩) g (by rw[e];simpa[cC,Pn]using p) m l i) ?_;rw[e];exact K
section
variable {w0:World} {G0:Bse} {o:Oper} {S:St}
theorem dz{x:Operand}{b off:Nat}(a:o.op=.nilCheck x)(d:S.ev x=.box b off):OpOK o S (.box b off):=by
 intro w0 G0 bx rv w T i h;have e:=bH h d (by rw[a];simp[Op.operands]);obtain⟨g,c,f⟩:=e.isBox;refine aB (v:=.pointer (some ⟨g,off,none⟩)) (W':=w) ?_ ⟨.box b off g c .nil,Below.refl _ _⟩;simp[execOp,a,f]
def NU(f:FuncId)(ty:TypeId)(cs args:List Tree)(r:Tree):Prop:=(∃fn,Tryz.prog.funcs[f]? =some fn/\(fn.name== "runtime.NumGoroutine")=false/\fn.body.isNone=false)/\∀(G:Nat->Prop) (w:World) (g:Nat) (us vs:List Value),EnvB g w->(∀x,G x->x<w.heap.size/\NoDigB w x)->G g->IsBlk w g ty us.toArray->PT w G us cs->us.all bG=true->PT w G vs args->
 Calls Tryz.prog f (Value.pointer (some ⟨g,0,none⟩)::vs).toArray w fun e w'=>∃v,e=.returned v/\PT w' G [v] [r]/\Below w.heap.size w w'
theorem yG{f:FuncId}{x:Operand}{a:List Operand}{B:Array TypeId}{b:Nat}{ty:TypeId}{cs ts:List Tree}{r:Tree}(j:o.op=.call {callee:=.value (.func f),args:=(x::a).toArray,argTypes:=B})(G:S.ev x=.box b 0)(k:S.bs[b]? =some (ty,cs))(z:NU f ty cs ts r)(H:a.map S.ev=ts)(m:cs.all Tree.plain=true)(M:ts.all Tree.plain=true):OpOK o S r:=by
 intro w0 G0 bx rv w T h D;have O:=bH D G (by rw[j];simp[Op.operands,Call.operands]);have C:=kg (S:=S) D a (fun y I=>by rw[j];simp only[Op.operands,Call.operands];simp;exact .inr (.inr I));rw[H]at C;obtain⟨g,us,A,J,c,t,s⟩:=mV h k O;obtain⟨⟨F,N,L,E⟩,z⟩:=z;have d:g∈cl bx rv S.rs:=aY.2 (.inl (Om A));have l:EnvB g w:=by
  obtain⟨K,i,n,p,P⟩:=h.env0.at h.below;exact⟨K,i,n,(h.ge _ d).elim (Oq p) (P g)⟩
 have u:=z (GG G0 bx rv S.rs) w g us _ l h.ok (.inr d) c (t.plains m) s (C.plains M);refine cP (f:=f) (args:=(Value.pointer (some ⟨g,0,none⟩)::a.map (dm T)).toArray) ?_ (u.mono ?_)
 ·have i:¬F.name= "runtime.NumGoroutine" :=by simpa using L
  have n:¬F.body=none:=fun e=>by rw[e]at E;cases E
  have p:(Value.pointer (some ⟨g,0,none⟩)::a.map (dm T)).toArray=(x::a).toArray.map (dm T):=by
   rw[<-J];simp
  rw[p];simp[execOp,j,resolve,dm,Deferred.ofValue,invoke,callFunc,N,i,n]
 rintro y w' ⟨v,rfl,q,k⟩;exact⟨v,Z,.of q,k⟩
theorem Br{y:Operand}{t:TypeId}{e sz l:Nat}{d:List Tree}(Y:o.op=.call {callee:=.builtin .append,args:=#[.const (.slice none 0 0),y],argTypes:=#[t,t]})(hd:cC S.n o.dst=true)(ht:jP Tryz.prog t=some (e,sz,l))(hy:S.ev y=.sl d)(hs:Sized sz d)(h1:AllC Tree.one d)(h2:AllC Tree.noDig d)(h3:d.length<=1073741824)(h4:l<=100000):
  lL w0 G0 o S ({S with rs:=S.rs++[some (⟨e,sz,d,false⟩:Row)]}.put o.dst (.own S.rs.length)):=by
 rintro a w ⟨bx,rv,hm,I,K,p⟩;have hq:=(bH (op:=o.op) (T:=fun s=>a.tmps.getD s undef) (S:=S) (fun s _=>p s) hy (by rw[Y];simp[Op.operands,Call.operands])).isSl;generalize (fun s=>a.tmps.getD s undef)=T at hq⊢;obtain⟨A,c,e1,a0,_,hA,r⟩:=hq.slice;obtain⟨B,⟨i,z,hi,hz,Q,M,V,O⟩,x⟩:=o7 ht;obtain⟨news,H,F,J⟩:∃news,news.length=d.length*sz/\PT w (GG G0 bx rv S.rs) news (flat d)/\∀a,A=some a->∀j u,news[j]? =some u->w.cell? (a.add j)=some u:=by
  rcases Pg d.length with U|U
  ·obtain rfl:d=[]:=OB U;exact⟨[],by simp,.nil,fun a _ j u B=>by simp at B⟩
  obtain⟨b,off,news,rfl,_,_,hc,X⟩:=r U;refine⟨news,by rw[X.length,hs.flat],X,fun ad ha j u B=>?_⟩;rw[<-PF ha,Addr.add_mid];exact hc j u B
 have D:FT (en w G0 bx rv S.rs) news (flat d):=.of F;have L:0+d.length<=1073741824:=by omega
 obtain⟨v',w',hr,q,f,W,E⟩:=lP (P:=Tryz.prog) w w.heap.size t o.type e i z sz l B hi hz Q M V x (.slice none 0 0) 0 [] (World.ownsRow_nil _ _ _ _) A d.length c news H (fun e=>⟨by have:=hA e;omega,hA e⟩) J (D.ones h1.all) (by simp only[maxLen];omega) (Oq (Qr L h4) (by decide)) (Oh _) O (D.noDigs h2.all) (fun g hg=>by cases hg);have m:Below w.heap.size w w':=⟨f.os,f.tape,f.output,f.size,fun k hk=>f.block k hk (by simp[Value.ownBlock])⟩;have C:∀b,v'.ownBlock=some b->b=w.heap.size:=fun b G=>by
  rcases W with h|h
  ·exact absurd (h.symm.trans G) (by simp[Value.ownBlock])
  exact PF (G.symm.trans h)
 have N:PT w' (fun b=>GG G0 bx rv S.rs b\/v'.ownBlock=some b) news (flat d):=F.mono m.size fun b G hG=>⟨m.block b G,fun h=>h.elim hG fun h=>by have:=C b h;omega⟩
 obtain⟨m1,m2⟩:=hm.addRow (R:=⟨e,sz,d,false⟩) (xs:=news) m (by simpa using q) N ⟨hs,fun h=>by cases h⟩ E;obtain⟨A',c',hv⟩:=bX q;refine aB (v:=v') (W':=w') ?_ (lR I K hd hm.nr m1 ⟨A',_,c',hv⟩ (fun i=>m2 [_] [_] (p i)) Z);have e0:dm T (.const (.slice none 0 0))=.slice none 0 0:=rfl;simp only[execOp,Y,resolve,invoke,builtin,Sem.run_bind,Sem.run_pure,Result.andThen_ok,Qn,Pt,QM,e1,e0,hr]
end
theorem n8{w0:World}{G0:Bse}{o:Oper}{ops:Array Oper}{a:List Oper}{Q:Exit->St->Prop}{n d k:Nat}{sl:List (Nat×Tree)}{bs:List (TypeId×List Tree)}{rs rs':List (Option Row)}{y:Operand}{t:TypeId}{e sz c:Nat}{b:List Tree}(h:o.op=.call {callee:=.builtin .append,args:=#[.const (.slice none 0 0),y],argTypes:=#[t,t]})(i:o.guard=none)(g:o.dst=some d)(s:Nat.blt d n=true)(q:jP Tryz.prog t=some (e,sz,c))(u:St.ev ⟨n,sl,bs,rs⟩ y=.sl b)(r:Sized sz b)(l:AllC Tree.one b)(v:AllC Tree.noDig b)(m:b.length<=1073741824)(p:Nat.ble c 100000=true)(j:rs.length=k)(f:rs++[some ⟨e,sz,b,false⟩]=rs')(K:AOps w0 G0 ops a Q ⟨n,(d,.own k)::sl,bs,rs'⟩):AOps w0 G0 ops (o::a) Q ⟨n,sl,bs,rs⟩:=by
 subst j f;refine dF i (Br (S:=⟨n,sl,bs,rs⟩) h (by rw[g];simpa[cC,Pn]using s) q u r l v m (by simpa using p)) ?_;rw[g];exact K
theorem FT.setNil{E:En}:∀{us:List Value} {cs:List Tree} {off:Nat},FT E us cs->cs[off]? =some (.sc (.slice none 0 0))->FT E us (cs.set off (.sl []))
 |[],[],_,_,h=>by simp at h
 |[],_::_,_,h,_=>by cases h
 |_::_,[],_,h,_=>by cases h
 |u::us,c::cs,0,h,e=>by
  simp only[Pa,OI]at e;subst e;have a:=h.head.isSc;subst a;exact FT.cons (.pure (bQ _ _) .nil) h.tail
 |u::us,c::cs,off+1,h,e=>FT.cons h.head (FT.setNil h.tail (by simpa using e))
theorem ph{w0:World}{G0:Bse}{ops:Array Oper}{d:List Oper}{Q:Exit->St->Prop}{n:Nat}{sl:List (Nat×Tree)}{bs bs':List (TypeId×List Tree)}{rs:List (Option Row)}(b off:Nat){ty:TypeId}{cs:List Tree}(r:bs[b]? =some (ty,cs))(y:cs[off]? =some (.sc (.slice none 0 0)))(j:bs.set b (ty,cs.set off (.sl []))=bs')(k:AOps w0 G0 ops d Q ⟨n,sl,bs',rs⟩):AOps w0 G0 ops d Q ⟨n,sl,bs,rs⟩:=by
 subst j;rintro a w ⟨bx,rv,c,q,m,l⟩;refine k a w ⟨bx,rv,⟨c.below,c.env0,c.g0,by simp[c.nb],c.nr,fun i g x=>?_,c.row,c.nodup,c.ge,c.pin⟩,q,m,l⟩;obtain⟨o,h,us,p,u,s,t⟩:=c.box i g x;by_cases f:i=b
 ·subst f;rw[r]at p;cases p;have v:=(Ok.1 r).1;exact⟨ty,_,us,PA v,u,s.setNil y,t⟩
 exact⟨o,h,us,by rw[Pp (fun e=>f e.symm)];exact p,u,s,t⟩
def MQ(s:Nat)(ty:TypeId)(cs:List Tree)(x:Exit)(S:St):Prop:=(x=.normal\/x=.ret)/\cs.all Tree.plain0=true/\∃k,S.get s=.box k 0/\S.bs[k]? =some (ty,cs)
theorem CtN.of{f:FuncId}{d:Func}{c:Code}{args cs:List Tree}{ty n s:Nat}(p:Tryz.prog.funcs[f]? =some d)(e:d.body=some c)(r:(d.name== "runtime.NumGoroutine")=false)(N:d.ntmps=n)(D:Nat.ble args.length n=true)(J:d.results.toList=[.tmp s])
  (h:∀w0 G0,AWP w0 (pln G0) c (MQ s ty cs) ⟨n,g8 0 args,[],[]⟩):CtN f args ty cs:=by
 refine⟨⟨d,p,r,by rw[e];rfl⟩,fun G w vs I L F=>?_⟩;have E:=F.length;have D:args.length<=n:=by simpa using D
 refine calls_of_wp p e (wp_mono (h w G _ w ⟨[],[],ny I L,?_,Z,fun i=>sW (.of (F.mono (Oh _) fun b _ e=>⟨Z,fun h=>by
  rcases h with h|h
  ·exact e h
  simp[cl]at h⟩)) i⟩) ?_)
 ·simp;omega
 rintro x a w' ⟨S',⟨K,A,k,M,H⟩,bx,rv,q,_,z,t⟩;obtain⟨us,o,m⟩:=gk q t (J▸(.cons M .nil:ResL S' [.tmp s] [.box k 0]));obtain⟨u,rfl⟩:∃u,us=[u]:=by
  match us,m with
  |[u],_=>exact⟨u,Z⟩
  |[],h=>cases h
  |u::u'::us,h=>have:=h.length;simp at this
 obtain⟨g,us,C,rfl,j,p,B⟩:=mV q H m;have l:g∈cl bx rv S'.rs:=aY.2 (.inl (Om C));have y:w.heap.size<=g:=(q.ge g l).elim id fun h=>h.elim
 have key:a.defers=[]/\∃v,(results d a.tmps).run Tryz.prog w'=.ok v w'/\(fun x w'=>∃g us,x=Ending.returned (.pointer (some ⟨g,0,none⟩))/\w.heap.size<=g/\IsBlk w' g ty us.toArray/\PT w' (fun b=>G b\/b=g) us cs/\us.all bG=true/\Below w.heap.size w w') (.returned v) w':=by
  refine⟨z,_,?_,g,us,Z,y,j,(p.plain0s A).mono (Oh _) fun b _ e=>⟨Z,fun h=>e ?_⟩,B,q.below.below⟩
  ·unfold results;rw[Sem.run_bind,P2,Sem.run_map];exact congrArg (fun x:Result (List Value)=>(x.andThen fun a w'=>Result.ok a.toArray w').andThen fun a w'=>Sem.run Tryz.prog (pure (if h:a.size=1 then a[0]else Value.tuple a)) w') o
  rcases h with h|h
  ·exact .inl h
  subst h;exact .inr l
 rcases K with rfl|rfl
 ·exact key
 exact key
def fz(a b:Int):Int:=if a<b then-1 else if b<a then 1 else 0
theorem gZ{a b:Int}(h:a<b):fz a b= -1:=by simp[fz,h]
theorem nC{a b:Int}(h:b<a):fz a b=1:=by simp[fz,h,show¬a<b by omega]
theorem kq{a b:Int}(d:¬a<b)(c:¬b<a):fz a b=0:=by simp[fz,d,c]
def A7(a b c:Int):Int:=if a≠0 then a else if b≠0 then b else c
theorem LN(g:Nat)(i:Nat)(a b c:Int)(w:World)(q:w.cell? ⟨g,0,none⟩=some (.int .i64 a))(p:w.cell? ⟨g,1,none⟩=some (.int .i64 b))(r:w.cell? ⟨g,2,none⟩=some (.int .i64 c)):
  Calls Tryz.prog 185 #[.slice (some ⟨g,0,none⟩) 3 i] w fun e w'=>e=.returned (.int .i64 (A7 a b c))/\w=w':=by
 by_cases d:a=0
 ·subst d;by_cases f:b=0
  ·subst f;by_cases h:c=0
   ·subst h
    go_enter Tryz.func185,Tryz.ntmps185
    go_wp2
    refine wp_loop_rounds 4 ?_;rw[rounds_succ]
    go_wp2
    rw[rounds_succ]
    go_wp2
    rw[rounds_succ]
    go_wp2
    rw[rounds_succ]
    go_wp2
    go_ret
    exact⟨Z,Z⟩
   have l:(c !=0)=true:=by simpa using h
   have m:(c==0)=false:=by simpa using h
   go_enter Tryz.func185,Tryz.ntmps185
   go_wp2
   refine wp_loop_rounds 4 ?_;rw[rounds_succ]
   go_wp2
   rw[rounds_succ]
   go_wp2
   rw[rounds_succ]
   go_wp2
   go_ret
   exact⟨Z,Z⟩
  have k:(b !=0)=true:=by simpa using f
  have j:(b==0)=false:=by simpa using f
  go_enter Tryz.func185,Tryz.ntmps185
  go_wp2
  refine wp_loop_rounds 4 ?_;rw[rounds_succ]
  go_wp2
  rw[rounds_succ]
  go_wp2
  go_ret
  exact⟨by simp[A7,f],Z⟩
 have n:(a !=0)=true:=by simpa using d
 have o:(a==0)=false:=by simpa using d
 go_enter Tryz.func185,Tryz.ntmps185
 go_wp2
 refine wp_loop_rounds 4 ?_;rw[rounds_succ]
 go_wp2
 go_ret
 exact⟨by simp[A7,d],Z⟩
theorem Bs(a b:Int)(w:World):
  Calls Tryz.prog 186 #[.int .i64 a,.int .i64 b] w fun e w'=>e=.returned (.int .i64 (fz a b))/\w=w':=by
 by_cases d:a<b
 ·have E:=J (gZ d)
  go_enter Tryz.func186,Tryz.ntmps186
  go_wp2
  go_ret
  exact⟨by rw[E.out];rfl,Z⟩
 by_cases c:b<a
 ·have E:=J (nC c)
  go_enter Tryz.func186,Tryz.ntmps186
  go_wp2
  go_ret
  exact⟨by rw[E.out];rfl,Z⟩
 have E:=J (kq d c)
 go_enter Tryz.func186,Tryz.ntmps186
 go_wp2
 go_ret
 exact⟨by rw[E.out];rfl,Z⟩
theorem xz(a b:Int)(w:World):
  Calls Tryz.prog 187 #[.int .i64 a,.int .i64 b] w fun e w'=>e=.returned (.int .i64 (fz a b))/\w=w':=by
 by_cases d:a<b
 ·have E:=J (gZ d)
  go_enter Tryz.func187,Tryz.ntmps187
  go_wp2
  go_ret
  exact⟨by rw[E.out];rfl,Z⟩
 by_cases c:b<a
 ·have E:=J (nC c)
  go_enter Tryz.func187,Tryz.ntmps187
  go_wp2
  go_ret
  exact⟨by rw[E.out];rfl,Z⟩
 have E:=J (kq d c)
 go_enter Tryz.func187,Tryz.ntmps187
 go_wp2
 go_ret
 exact⟨by rw[E.out];rfl,Z⟩
theorem oA(n:Int)(w:World):
  Calls Tryz.prog 143 #[.int .i64 n] w fun e w'=>e=.returned (.agg #[.int .i64 1,.int .i64 n,.string ⟨#[]⟩])/\Below w.heap.size w w':=by
 go_enter Tryz.func143,Tryz.ntmps143
 go_wp2
 exact bodyPost_ret (v:=.agg #[.int .i64 1,.int .i64 n,.string ⟨#[]⟩]) (by simp[results,Tryz.results143,go_sem]) Z ⟨Z,(Below.refl _ _).alloc (Oh _) _⟩
theorem i6(s:ByteArray)(w:World):
  Calls Tryz.prog 141 #[.string s] w fun e w'=>e=.returned (.agg #[.int .i64 2,.int .i64 0,.string s])/\Below w.heap.size w w':=by
 go_enter Tryz.func141,Tryz.ntmps141
 go_wp2
 exact bodyPost_ret (v:=.agg #[.int .i64 2,.int .i64 0,.string s]) (by simp[results,Tryz.results141,go_sem]) Z ⟨Z,(Below.refl _ _).alloc (Oh _) _⟩
def iN(ta na:Int)(sa:ByteArray)(tb nb:Int)(sb:ByteArray):Int:=A7 (fz ta tb) (fz na nb) (Lib.compareBytes sa.data.toList sb.data.toList)
theorem yH(f d:Int)(b:ByteArray)(a nb:Int)(c:ByteArray)(w:World):
  Calls Tryz.prog 124 #[.agg #[.int .i64 f,.int .i64 d,.string b],.agg #[.int .i64 a,.int .i64 nb,.string c]] w fun e w'=>e=.returned (.int .i64 (iN f d b a nb c))/\Below w.heap.size w w':=by
 obtain⟨W,i,h,g,m,o,q,n,l,k⟩:=NP w 77 (.int .i64 f) (.int .i64 d) (.string b) (.int .i64 a) (.int .i64 nb) (.string c);have j:=J i;clear i;have p:=J g;clear g
 go_enter Tryz.func124,Tryz.ntmps124
 go_wp2
 rw[j.out];refine wp_region_still_tail 15 (by kernel_rfl) (by kernel_rfl) ?_;simp only[Qw,Ri,Qx,PQ];change wpStill _ _ W.drew _ _ _;iterate 4 still_step
 still_call (La (Bs _ _ _))
 iterate 4 still_step
 still_call (La (xz _ _ _))
 iterate 4 still_step
 still_call (Tryz.strings_Compare _ _ _)
 refine wpStill_nil ?_
 go_wp2_with (go_at_call 185;refine(LN _ _ (fz f a) (fz d nb) (Lib.compareBytes b.data.toList c.data.toList) _ (by simp[go_sem]) (by simp[go_sem]) (by simp[go_sem])).mono ?_;rintro e w' ⟨rfl,rfl⟩)
 go_ret
 exact⟨Z,(h.alloc h.size _).drew⟩
end Go.Proofs.YtfoejfohbkmmeaaGreatDoor
namespace Go.Proofs.YtfoejfohbkmmeaaGreatDoor
theorem GD(a b:List UInt8):(⟨a.toArray⟩++⟨b.toArray⟩:ByteArray)=⟨(a++b).toArray⟩:=by apply RX;simp[RF]
theorem lT(s:ByteArray):(⟨s.data.toList.toArray⟩:ByteArray)=s:=by apply RX;simp
def sX(old new s:List UInt8):List UInt8:=Lib.replaceK old new (Lib.count s old) s
theorem it{old new:List UInt8}(s:List UInt8)(h:(old==new)=false):Lib.replaceAll s old new=sX old new s:=by
 simp[Lib.replaceAll,Lib.replace,h,sX,Lib.replaceNum]
theorem Dr{old new:List UInt8}(h:old≠ []):sX old new []=[]:=by
 have b:Lib.index [] old= -1:=by cases old with|nil=>exact absurd rfl h|cons a t=>rfl
 rw[sX,Lib.count_miss b];rfl
theorem Ds{old new s:List UInt8}(h:old≠ [])(c:old.isPrefixOf s=true):sX old new s=new++sX old new (s.drop old.length):=by
 have a:Lib.index s old=(0:Nat):=Lib.index_first (i:=0) (OA _) (by simpa[Lib.occAt]using c) (fun _ h=>absurd h (Q9 _));have b:=Lib.count_hit h a;rw[sX,b,P0,Lib.replaceK_hit old new _ s 0 a];simp[sX]
theorem yI{old new:List UInt8}{c:UInt8}{l:List UInt8}(h:old≠ [])(g:old.isPrefixOf (c::l)=false):sX old new (c::l)=c::sX old new l:=by
 have d:Lib.index (c::l) old=if Lib.index l old== -1 then-1 else Lib.index l old+1:=by rw[Lib.index,g];rfl
 rcases Lib.index_spec l old with⟨b,_⟩|⟨i,b,_⟩
 ·rw[b]at d;have a:Lib.index (c::l) old= -1:=d;rw[sX,sX,Lib.count_miss a,Lib.count_miss b];rfl
 have a:Lib.index (c::l) old=((i+1:Nat):Int):=by
  rw[d,b,if_neg (by simp)];omega
 have e:(c::l).drop (i+1+old.length)=l.drop (i+old.length):=by
  rw[show i+1+old.length=(i+old.length)+1 by omega];rfl
 have f:=Lib.count_hit h a;have j:=Lib.count_hit h b;rw[e]at f;rw[sX,sX,f,j,P0,Lib.replaceK_hit old new _ _ (i+1) a,Lib.replaceK_hit old new _ _ i b,e];simp
def lU:List UInt8->List UInt8
 |[]=>[]
 |c::l=>if c=39 then 39::39::lU l else c::lU l
theorem xA:∀s:List UInt8,sX [39] [39,39] s=lU s
 |[]=>Dr (by simp)
 |c::l=>by
  by_cases a:c=39
  ·subst a;rw[Ds (by simp) (by simp)];simp[lU,xA l]
  rw[yI (old:=[39]) (c:=c) (l:=l) (by simp) (by rw[List.isPrefixOf];simp[Ne.symm a])];simp[lU,a,xA l]
theorem kZ:∀s:List UInt8,sX [39,39] [39] (lU s)=s
 |[]=>Dr (by simp)
 |c::l=>by
  by_cases a:c=39
  ·subst a;rw[show lU (39::l)=39::39::lU l by simp[lU]];rw[Ds (by simp) (by simp)];simp[kZ l]
  rw[show lU (c::l)=c::lU l by simp[lU,a]];rw[yI (old:=[39,39]) (c:=c) (l:=lU l) (by simp) (by rw[List.isPrefixOf];simp[Ne.symm a])];simp[kZ l]
theorem kK:∀s:List UInt8,(lU s).length<=2*s.length
 |[]=>by simp[lU]
 |c::l=>by
  have:=kK l;by_cases a:c=39<;>simp[lU,a]<;>omega
theorem JN{a b:List UInt8}(h:lU a=lU b):a=b:=by
 rw[<-kZ a,<-kZ b,h]
theorem n9(M:Nat):∀(l r:List UInt8) (b a:Nat),Lib.parseUintM M b l=.ok a->Lib.parseUintM M b (l++r)=Lib.parseUintM M a r
 |[],r,b,a,h=>by simp[Lib.parseUintM]at h;subst h;rfl
 |c::l,r,b,a,h=>by
  simp only[Lib.parseUintM,PD]at h⊢;split at h
  ·rename_i h1;rw[if_pos h1];split at h
   ·cases h
   rename_i h2;rw[if_neg h2];split at h
   ·cases h
   rename_i h3;rw[if_neg h3];exact n9 M l r _ a h
  cases h
theorem gn(d:Nat)(h:d<10):(UInt8.ofNat (48+d)).toNat=48+d:=by
 simp[Qo];omega
theorem sY(M:Nat)(c:M<=18446744073709551615):∀(k u:Nat),u<=k->u<=M->Lib.parseUintM M 0 (Lib.decDigits u)=.ok u
 |k,u,hk,hu=>by
  by_cases h:u<10
  ·rw[Lib.decDigits,dif_pos h];simp only[Lib.parseUintM,gn u h];rw[if_pos (by omega),if_neg (by omega),if_neg (by omega)];congr 1;omega
  rw[Lib.decDigits,dif_neg h]
  match k,hk with
  |0,hk=>omega
  |k+1,hk=>
   have a:=sY M c k (u/10) (by omega) (by omega);rw[n9 M _ _ _ _ a];have b:u%10<10:=by omega
   simp only[Lib.parseUintM,gn _ b];rw[if_pos (by omega),if_neg (by omega),if_neg (by omega)];congr 1;omega
theorem pi:∀(k u:Nat),u<=k->∃c r,Lib.decDigits u=c::r/\48<=c.toNat/\c.toNat<=57
 |k,u,hk=>by
  by_cases h:u<10
  ·rw[Lib.decDigits,dif_pos h];exact⟨_,_,Z,by rw[gn u h];omega,by rw[gn u h];omega⟩
  rw[Lib.decDigits,dif_neg h]
  match k,hk with
  |0,hk=>omega
  |k+1,hk=>
   obtain⟨c,r,e,b,a⟩:=pi k (u/10) (by omega);exact⟨c,r++[_],by rw[e];rfl,b,a⟩
theorem sZ(u:Nat)(h:u<=18446744073709551615):Lib.parseUintB 64 (Lib.decDigits u)=.ok u:=by
 obtain⟨c,r,e,_,_⟩:=pi u u (Oh _);have a:(2^64-1:Nat)=18446744073709551615:=by decide
 rw[Lib.parseUintB,if_neg (by rw[e];simp),a];exact sY _ (Oh _) u u (Oh _) h
theorem oB(n:Int)(i: -9223372036854775808<=n)(f:n<=9223372036854775807):Lib.parseIntB 64 (Lib.itoa n)=.ok n:=by
 have a:(2^(64-1):Nat)=9223372036854775808:=by decide
 by_cases h:n<0
 ·rw[Lib.itoa,if_pos h];simp only[Lib.parseIntB];rw[if_pos (Or.inr (by decide)),sZ _ (by omega)];have d:(45:UInt8).toNat=45:=by decide
  simp only[a,d];rw[if_neg (by simp),if_neg (by simp;omega),if_pos trivial];congr 1;omega
 rw[Lib.itoa,if_neg h];obtain⟨c,r,e,j,g⟩:=pi n.toNat n.toNat (Oh _);have b:=sZ n.toNat (by omega);rw[e]at b⊢;simp only[Lib.parseIntB];rw[if_neg (by omega),b];simp only[a];rw[if_neg (by omega),if_neg (by omega),if_neg (by omega)];congr 1;omega
theorem GE{a b:Int}(d: -9223372036854775808<=a)(e:a<=9223372036854775807)(f: -9223372036854775808<=b)(g:b<=9223372036854775807)(h:Lib.itoa a=Lib.itoa b):a=b:=by
 have c:=oB a d e;have i:=oB b f g;rw[h,i]at c;injection c with c
 exact c.symm
theorem k6(n:Int):∃c r,Lib.itoa n=c::r/\c≠39:=by
 by_cases h:n<0
 ·exact⟨45,_,by rw[Lib.itoa,if_pos h],by decide⟩
 obtain⟨c,r,e,a,_⟩:=pi n.toNat n.toNat (Oh _);exact⟨c,r,by rw[Lib.itoa,if_neg h,e],fun e=>by subst e;simp at a⟩
theorem k7:∀a b:List UInt8,Lib.compareBytes b a= -Lib.compareBytes a b
 |[],[]=>rfl
 |[],_::_=>rfl
 |_::_,[]=>rfl
 |x::a,y::b=>by
  have e:=k7 a b;simp only[Lib.compareBytes,Rj];by_cases c:x.toNat<y.toNat
  ·rw[if_neg (by omega),if_pos c,if_pos c];rfl
  by_cases d:y.toNat<x.toNat
  ·rw[if_pos d,if_neg c,if_pos d]
  rw[if_neg d,if_neg c,if_neg c,if_neg d];exact e
theorem jn:∀a b:List UInt8,Lib.compareBytes a b=0↔a=b
 |[],[]=>by simp[Lib.compareBytes]
 |[],_::_=>by simp[Lib.compareBytes]
 |_::_,[]=>by simp[Lib.compareBytes]
 |x::a,y::b=>by
  have e:=jn a b;simp only[Lib.compareBytes,Rj];by_cases c:x.toNat<y.toNat
  ·rw[if_pos c];constructor
   ·intro h;omega
   intro h;injection h with h _;subst h;omega
  by_cases d:y.toNat<x.toNat
  ·rw[if_neg c,if_pos d];constructor
   ·intro h;omega
   intro h;injection h with h _;subst h;omega
  rw[if_neg c,if_neg d,e];have:x=y:=Qu.1 (by omega);simp[this]
theorem jT:∀a b c:List UInt8,Lib.compareBytes a b<=0->Lib.compareBytes b c<=0->Lib.compareBytes a c<=0
 |[],[],c,_,h=>h
 |[],_::_,[],_,h=>by simp[Lib.compareBytes]at h
 |[],_::_,_::_,_,_=>by simp[Lib.compareBytes]
 |_::_,[],_,h,_=>by simp[Lib.compareBytes]at h
 |_::_,_::_,[],_,h=>by simp[Lib.compareBytes]at h
 |x::a,y::b,z::c,h,k=>by
  have i:=jT a b c;simp only[Lib.compareBytes,Rj]at h k⊢;by_cases f:x.toNat<y.toNat
  ·by_cases e:y.toNat<z.toNat
   ·rw[if_pos (by omega)];omega
   by_cases d:z.toNat<y.toNat
   ·rw[if_neg e,if_pos d]at k;omega
   rw[if_pos (by omega)];omega
  by_cases g:y.toNat<x.toNat
  ·rw[if_neg f,if_pos g]at h;omega
  rw[if_neg f,if_neg g]at h;by_cases e:y.toNat<z.toNat
  ·rw[if_pos (by omega)];omega
  by_cases d:z.toNat<y.toNat
  ·rw[if_neg e,if_pos d]at k;omega
  rw[if_neg e,if_neg d]at k;rw[if_neg (by omega),if_neg (by omega)];exact i h k
theorem g9:∀a b:List UInt8,Lib.compareBytes a b= -1\/Lib.compareBytes a b=0\/Lib.compareBytes a b=1
 |[],[]=>by simp[Lib.compareBytes]
 |[],_::_=>by simp[Lib.compareBytes]
 |_::_,[]=>by simp[Lib.compareBytes]
 |x::a,y::b=>by
  have c:=g9 a b;simp only[Lib.compareBytes];split
  ·simp
  split
  ·simp
  exact c
end Go.Proofs.YtfoejfohbkmmeaaGreatDoor
namespace Go.Proofs.YtfoejfohbkmmeaaGreatDoor
open Go.RowKit
theorem yJ(a b:Int):fz b a= -fz a b:=by
 by_cases h:a<b
 ·rw[gZ h,nC h];rfl
 by_cases c:b<a
 ·rw[gZ c,nC c]
 rw[kq h c,kq c h];rfl
theorem dX(a b:Int):fz a b= -1/\a<b\/fz a b=0/\a=b\/fz a b=1/\b<a:=by
 by_cases h:a<b
 ·exact .inl ⟨gZ h,h⟩
 by_cases c:b<a
 ·exact .inr (.inr ⟨nC c,c⟩)
 exact .inr (.inl ⟨kq h c,by omega⟩)
theorem fZ{a b c:Int}(h:a≠0):A7 a b c=a:=by simp[A7,h]
theorem fA{b c:Int}(h:b≠0):A7 0 b c=b:=by simp[A7,h]
theorem k8(c:Int):A7 0 0 c=c:=by simp[A7]
theorem GF(c b:Int)(d:ByteArray)(a nb:Int)(f:ByteArray):iN a nb f c b d= -iN c b d a nb f:=by
 have g:=yJ c a;have i:=yJ b nb;have h:=k7 d.data.toList f.data.toList;unfold iN;rw[g,i,h];rcases dX c a with⟨e,_⟩|⟨e,_⟩|⟨e,_⟩<;>rw[e]
 ·simp[A7]
 ·rcases dX b nb with⟨e,_⟩|⟨e,_⟩|⟨e,_⟩<;>rw[e]<;>simp[A7]
 simp[A7]
theorem Bt(f d:Int)(b:ByteArray)(a nb:Int)(c:ByteArray): -1<=iN f d b a nb c/\iN f d b a nb c<=1:=by
 have g:=g9 b.data.toList c.data.toList;unfold iN;rcases dX f a with⟨e,_⟩|⟨e,_⟩|⟨e,_⟩<;>rw[e]
 ·simp[A7]
 ·rcases dX d nb with⟨e,_⟩|⟨e,_⟩|⟨e,_⟩<;>rw[e]<;>simp[A7]
  omega
 simp[A7]
theorem JO(g f:Int)(b:ByteArray)(d nb:Int)(c:ByteArray):iN g f b d nb c=0↔g=d/\f=nb/\b=c:=by
 have i:=jn b.data.toList c.data.toList;have j:b.data.toList=c.data.toList↔b=c:=⟨fun h=>by rw[<-lT b,<-lT c,h],fun h=>by rw[h]⟩;unfold iN;rcases dX g d with⟨e,h⟩|⟨e,h⟩|⟨e,h⟩<;>rw[e]
 ·rw[fZ (by decide)];constructor
  ·intro a;omega
  rintro⟨a,_⟩;omega
 ·rcases dX f nb with⟨e,a⟩|⟨e,a⟩|⟨e,a⟩<;>rw[e]
  ·rw[fA (by decide)];constructor
   ·intro a;omega
   rintro⟨_,a,_⟩;omega
  ·rw[k8,i,j];exact⟨fun x=>⟨h,a,x⟩,fun x=>x.2.2⟩
  rw[fA (by decide)];constructor
  ·intro a;omega
  rintro⟨_,a,_⟩;omega
 rw[fZ (by decide)];constructor
 ·intro a;omega
 rintro⟨a,_⟩;omega
theorem Bu(e d:Int)(o:ByteArray)(i nb:Int)(p:ByteArray)(c nc:Int)(sc:ByteArray)(j:iN e d o i nb p<=0)(f:iN i nb p c nc sc<=0):iN e d o c nc sc<=0:=by
 have q:=jT o.data.toList p.data.toList sc.data.toList;unfold iN at*;rcases dX e i with⟨n,h⟩|⟨n,h⟩|⟨n,h⟩
 ·rcases dX i c with⟨b,l⟩|⟨b,l⟩|⟨b,l⟩
  ·rw[gZ (show e<c by omega),fZ (by decide)];omega
  ·rw[gZ (show e<c by omega),fZ (by decide)];omega
  rw[b,fZ (by decide)]at f;omega
 ·rcases dX i c with⟨b,l⟩|⟨b,l⟩|⟨b,l⟩
  ·rw[gZ (show e<c by omega),fZ (by decide)];omega
  ·rw[show fz e c=0 from kq (by omega) (by omega)];rw[n]at j;rw[b]at f;rcases dX d nb with⟨m,g⟩|⟨m,g⟩|⟨m,g⟩
   ·rcases dX nb nc with⟨a,k⟩|⟨a,k⟩|⟨a,k⟩
    ·rw[gZ (show d<nc by omega),fA (by decide)];omega
    ·rw[gZ (show d<nc by omega),fA (by decide)];omega
    rw[a,fA (by decide)]at f;omega
   ·rcases dX nb nc with⟨a,k⟩|⟨a,k⟩|⟨a,k⟩
    ·rw[gZ (show d<nc by omega),fA (by decide)];omega
    ·rw[show fz d nc=0 from kq (by omega) (by omega),k8];rw[m,k8]at j;rw[a,k8]at f;exact q j f
    rw[a,fA (by decide)]at f;omega
   rw[m,fA (by decide)]at j;omega
  rw[b,fZ (by decide)]at f;omega
 rw[n,fZ (by decide)]at j;omega
end Go.Proofs.YtfoejfohbkmmeaaGreatDoor
