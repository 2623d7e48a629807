import Derived.Test.YtfoejfohbkmmeaaGreatDoorK28
import Derived.Deep.RegionWith
import Derived.Deep.DrawnRows
set_option linter.defProp false
open Go.Proofs.Tryz
namespace Go.Proofs.YtfoejfohbkmmeaaGreatDoor
open Go.RowKit
open Lib renaming hid→J
def PY(G:Nat->Prop)(g:Nat):Bse:=⟨λb=>G b/\b≠g,λb=>b=g,1,λ_=>g⟩
def M9{w:World}{G:Nat->Prop}{g:Nat}{ty:TypeId}{us:List Value}{cs:List Tree}(s:EnvB g w)(o:∀x,G x->x<w.heap.size/\NoDigB w x)(t:G g)(d:IsBlk w g ty us.toArray)(n:PT w G us cs)(m:us.all bR=true):Mem w (PY G g) [(ty,cs)] [] [g] [] w:=by
 obtain⟨y,p,q,r⟩:=s;have c:∀b,b∈cJ [g] [] []->b=g:=λb a=>by simpa[cJ]using a
 refine⟨Kept.refl _ _,⟨y,p,q,λb e=>e▸r⟩,λb h=>⟨(o b h.1).1,(o b h.1).2,h.2⟩,Z,Z,λi x f=>?_,λk v R l=>by simp at l,⟨F,λk v R b l=>by simp at l,λj k u v X R b _ l=>by simp at l⟩,λb a=>.inr (c b a),λi f=>?_⟩
 ·cases i with
  |zero=>
   simp only[RY,Ro]at f;subst f;exact⟨ty,cs,us,Z,d,.of (n.mono (Q3 _) λb _ a=>⟨Z,λh=>by
    rcases h with h|h
    ·exact a h.1
    rw[c b h]at a;exact a t⟩),m⟩
  |succ i=>simp at f
 have:i<1:=f;obtain rfl:i=0:=O
 rfl
def PZ(rvs:List ResultVar)(ty:TypeId)(cs':List Tree)(r:Tree)(e:Exit)(S:St):Prop:=Md rvs r e S/\S.bs[0]? =some (ty,cs')/\cs'.all Tree.plain0=true
def wl{E:En}{vs:List Value}{args:List Tree}{m:Nat}(h:FT E vs args)(i:Nat):FT E [(vs.toArray++Array.replicate m undef).getD i undef] [look (iI 0 args) i]:=by
 rw[kt,if_pos (Rg _),TW];cases e:args[i]? with
 |none=>exact .any _ .nil
 |some t=>
  obtain⟨u,b,a⟩:=h.get i t e;have d:=(Q6.1 b).1;have c:(vs.toArray++Array.replicate m undef).getD i undef=u:=by
   rw[RU,Tc (by simpa using d),SO,b];rfl
  rw[c];exact a
def CtM.of{f:FuncId}{p:Func}{c:Code}{ty:TypeId}{cs args m:List Tree}{r:Tree}{n:Nat}{C:List ResultVar}(U:prog.funcs[f]? =some p)(d:p.body=some c)(O:(p.name== "runtime.NumGoroutine")=false)(hn:p.ntmps=n)(W:Nat.ble (args.length+1) n=true)(hr:p.results.toList=C)
  (h:∀w0 G g,AWP w0 (PY G g) c (PZ C ty m r) ⟨n,iI 0 (.box 0 0::args),[(ty,cs)],[]⟩):CtM f ty cs args m r:=by
 refine⟨⟨p,U,O,by rw[d];rfl⟩,λG w g us vs hE hG V q R M Y=>?_⟩;have X:=Y.length;have W:args.length+1<=n:=by simpa using W
 have L:=M9 hE hG V q R M;have B:∀b,¬G b->¬GG (PY G g) [g] [] [] b:=λb d h=>by
  rcases h with h|h
  ·exact d h.1
  have:b=g:=by simpa[cJ]using h
  rw[this]at d;exact d V
 refine calls_of_wp U d (wp_mono (h w G g _ w ⟨[g],[],L,?_,Z,λi=>wl (.box 0 0 g Z (.of (Y.mono (Q3 _) λb _ d=>⟨Z,B b d⟩))) i⟩) ?_)
 ·simp;omega
 rintro e a w' ⟨S',⟨⟨he,ts,S,rfl,Q⟩,H,P⟩,bx,rv,o,_,I,T⟩;obtain⟨j,A,J⟩:=gV o T (hr▸S);have s:bx[0]? =some g:=o.pin 0 Nat.zero_lt_one;obtain⟨a1,a0,l,D,h2,h3,h4⟩:=o.box 0 g s;rw[H]at D;cases D;have y:∀b,¬GG (PY G g) bx rv S'.rs b->¬G b:=λb d E=>by
  by_cases e:b=g
  ·subst e;exact d (.inr (be.2 (.inl (Q8 s))))
  exact d (.inl ⟨E,e⟩)
 have K:w.grownBy w' (some g):=⟨o.below.os,o.below.tape,o.below.output,o.below.size,λk hk N=>o.below.block k hk λe=>N (by rw[show k=g from e])⟩;have z:PT w' G l m:=(h3.plain0s P).mono (Q3 _) λb _ d=>⟨Z,y b d⟩
 have key:a.defers=[]/\∃v,(results p a.tmps).run prog w'=.ok v w'/\(λe w'=>∃v l,e=Ending.returned v/\w.grownBy w' (some g)/\IsBlk w' g ty l.toArray/\PT w' G l m/\l.all bR=true/\PT w' G [v] [ll ts]) (.returned v) w':=by
  refine⟨I,if h:j.toArray.size=1 then j.toArray[0]else .tuple j.toArray,?_,_,l,Z,K,h2,z,h4,?_⟩
  ·unfold results;rw[Sem.run_bind,SR,Sem.run_map];exact congrArg (λx:Result (List Value)=>(x.andThen λa w'=>Result.ok a.toArray w').andThen λa w'=>Sem.run prog (pure (if h:a.size=1 then a[0]else Value.tuple a)) w') A
  have D:FT (en w' (PY G g) bx rv S'.rs) [if h:j.toArray.size=1 then j.toArray[0]else .tuple j.toArray] [ll ts]:=by
   match j,ts,J with
   |[],[],_=>exact .tup [] [] .nil .nil
   |[u],[t],h=>exact h
   |u::u'::us,t::t'::ts,h=>
    rw[dif_neg F];exact .tup _ _ h .nil
  exact(D.plain Q).mono (Q3 _) λb _ d=>⟨Z,y b d⟩
 rcases he with rfl|rfl
 ·exact key
 exact key
def CtN(f:FuncId)(args:List Tree)(ty:TypeId)(cs:List Tree):Prop:=(∃fn,prog.funcs[f]? =some fn/\(fn.name== "runtime.NumGoroutine")=false/\fn.body.isNone=false)/\∀(G:Nat->Prop) (w:World) (vs:List Value),Env w->(∀x,G x->x<w.heap.size/\NoDigB w x)->PT w G vs args->
 Calls prog f vs.toArray w λe w'=>∃g us,e=.returned (.pointer (some ⟨g,0,none⟩))/\w.heap.size<=g/\IsBlk w' g ty us.toArray/\PT w' (λb=>G b\/b=g) us cs/\us.all bR=true/\Below w.heap.size w w'
def Mem.addBoxN{w0 w w':World}{G0:Bse}{bs:List (TypeId×List Tree)}{rs:List (Option Row)}{bx:List Nat}{rv:List Value}(h:Mem w0 G0 bs rs bx rv w){g:Nat}{us:List Value}{cs:List Tree}{ty:TypeId}(c:Below w.heap.size w w')(t:w.heap.size<=g)(l:IsBlk w' g ty us.toArray)(s:PT w' (λb=>GG G0 bx rv rs b\/b=g) us cs)(B:us.all bR=true):
  Mem w0 G0 (bs++[(ty,cs)]) rs (bx++[g]) rv w'/\∀us ts,FT (en w G0 bx rv rs) us ts->FT (en w' G0 (bx++[g]) rv rs) us ts:=by
 have f:∀b,b<w.heap.size->¬GG G0 bx rv rs b->w'.heap[b]? =w.heap[b]? /\¬GG G0 (bx++[g]) rv rs b:=λb j z=>⟨c.block b j,by
  rintro(a|a)
  ·exact z (.inl a)
  rcases(iR (rv:=rv) (rs:=rs) _ b).1 a with e|e
  ·exact z (.inr e)
  omega⟩
 have m:∀us ts,FT (en w G0 bx rv rs) us ts->FT (en w' G0 (bx++[g]) rv rs) us ts:=λus ts s=>s.mono (E':=en w' G0 (bx++[g]) rv rs) c.size f (λi x d=>by
  show(bx++[g])[i]? =some x
  have d:bx[i]? =some x:=d;rw[Rv (Q6.1 d).1];exact d) (λ_ _ h=>h)
 refine⟨⟨h.below.then c,h.env0,h.g0,by simp[h.nb],h.nr,λi x d=>?_,λk v R D A=>?_,h.nodup.addBox _ λC=>?_,λb j=>?_,λi d=>by have:=h.pin i d;rw[Rv (Q6.1 this).1];exact this⟩,m⟩
 ·by_cases o:i<bx.length
  ·rw[Rv o]at d;obtain⟨u,p,y,a,e,q,r⟩:=h.box i x d;exact⟨u,p,y,by rw[Rv (by rw[<-h.nb];exact o)];exact a,e.below c e.lt,m _ _ q,r⟩
  have n:=(Q6.1 d).1;simp only[Q4,Ss]at n;obtain rfl:i=bx.length:=O
  rw[Ru (Q3 _),RW]at d;simp only[RY,Ro]at d;subst d;refine⟨ty,cs,us,by rw[h.nb,Ru (Q3 _),RW];rfl,l,.of (s.mono (Q3 _) λb _ j=>⟨Z,?_⟩),B⟩;rintro(a|a)
  ·exact j (.inl (.inl a))
  rcases(iR (rv:=rv) (rs:=rs) _ b).1 a with e|e
  ·exact j (.inl (.inr e))
  exact j (.inr e)
 ·obtain⟨xs,a,e,q,r⟩:=h.row k v R D A;exact⟨xs,eF a c,e.mono c.size f,q,λg t=>(r g t).of (c.block g (a.lt g t).2)⟩
 ·have:=(h.ok _ (.inr C)).1;omega
 rcases(iR (rv:=rv) (rs:=rs) _ b).1 j with a|a
 ·exact h.ge b a
 have:=h.below.size;exact .inl O
section
variable {w0:World} {G0:Bse} {o:Oper} {S:St}
def KU{f:FuncId}{xs:Array Operand}{h:Array TypeId}{ts cs:List Tree}{ty:TypeId}(r:o.op=.call {callee:=.value (.func f),args:=xs,argTypes:=h})(A:cF S.n o.dst=true)(j:CtN f ts ty cs)(C:xs.toList.map S.ev=ts)(B:ts.all Tree.plain=true):lM w0 G0 o S ({S with bs:=S.bs++[(ty,cs)]}.put o.dst (.box S.bs.length 0)):=by
 rintro a w ⟨bx,rv,d,c,l,b⟩;have q:=ka (E:=en w G0 bx rv S.rs) (T:=λs=>a.tmps.getD s undef) (op:=o.op) (S:=S) (λs _=>b s) xs.toList (λx D=>by rw[r];simp only[Op.operands,Call.operands];simp;exact .inr (by simpa using D));rw[C]at q;obtain⟨⟨m,y,z,p⟩,j⟩:=j;have k:=j (GG G0 bx rv S.rs) w _ d.env d.ok (q.plains B);refine cW (f:=f) (args:=(xs.toList.map (dG λs=>a.tmps.getD s undef)).toArray) ?_ (k.mono ?_)
 ·have t:¬m.name= "runtime.NumGoroutine" :=by simpa using z
  have u:¬m.body=none:=λe=>by rw[e]at p;cases p
  have v:(xs.toList.map (dG λs=>a.tmps.getD s undef)).toArray=xs.map (dG λs=>a.tmps.getD s undef):=TR F;rw[v];simp[execOp,r,resolve,dG,Deferred.ofValue,invoke,callFunc,y,t,u]
 rintro x w' ⟨g,us,rfl,G,H,I,J,K⟩;obtain⟨L,M⟩:=d.addBoxN K G H I J;refine⟨_,Z,bx++[g],rv,by rw[dJ,cj];exact L,by rw[ee,eu];exact c,by rw[df,l],λi=>?_⟩;rw[cj,gA a o.dst _ S.n c A,dh];split
 ·exact .box _ _ _ (by show(bx++[g])[S.bs.length]? =_;rw[<-d.nb];simp) .nil
 exact M [_] [_] (b i)
end
def Ex{w0:World}{G0:Bse}{o:Oper}{ops:Array Oper}{a:List Oper}{Q:Exit->St->Prop}{n d k:Nat}{sl:List (Nat×Tree)}{bs bs':List (TypeId×List Tree)}{rs:List (Option Row)}{f:FuncId}{xs:Array Operand}{b:Array TypeId}{ts cs:List Tree}{ty:TypeId}(l:o.op=.call {callee:=.value (.func f),args:=xs,argTypes:=b})(h:o.guard=none)(e:o.dst=some d)(j:Nat.blt d n=true)(g:CtN f ts ty cs)(p:xs.toList.map (St.ev ⟨n,sl,bs,rs⟩)=ts)(m:ts.all Tree.plain=true)(i:bs.length=k)(c:bs++[(ty,cs)]=bs')(K:AOps w0 G0 ops a Q ⟨n,(d,.box k 0)::sl,bs',rs⟩):AOps w0 G0 ops (o::a) Q ⟨n,sl,bs,rs⟩:=by
 subst i c;refine dA h (KU (S:=⟨n,sl,bs,rs⟩) l (by rw[e];simpa[cF,R5]using j) g p m) ?_;rw[e];exact K
section
variable {w0:World} {G0:Bse} {o:Oper} {S:St}
def bD{x:Operand}{b off:Nat}(a:o.op=.nilCheck x)(h:S.ev x=.box b off):OpOK o S (.box b off):=by
 intro w0 G0 bx rv w T i d;have c:=bP d h (by rw[a];simp[Op.operands]);obtain⟨g,e,f⟩:=c.isBox;refine aE (v:=.pointer (some ⟨g,off,none⟩)) (W':=w) ?_ ⟨.box b off g e .nil,Below.refl _ _⟩;simp[execOp,a,f]
def QO(f:FuncId)(ty:TypeId)(cs args:List Tree)(r:Tree):Prop:=(∃fn,prog.funcs[f]? =some fn/\(fn.name== "runtime.NumGoroutine")=false/\fn.body.isNone=false)/\∀(G:Nat->Prop) (w:World) (g:Nat) (us vs:List Value),EnvB g w->(∀x,G x->x<w.heap.size/\NoDigB w x)->G g->IsBlk w g ty us.toArray->PT w G us cs->us.all bR=true->PT w G vs args->
 Calls prog f (Value.pointer (some ⟨g,0,none⟩)::vs).toArray w λe w'=>∃v,e=.returned v/\PT w' G [v] [r]/\Below w.heap.size w w'
def Cj{f:FuncId}{x:Operand}{a:List Operand}{i:Array TypeId}{b:Nat}{ty:TypeId}{cs ts:List Tree}{r:Tree}(z:o.op=.call {callee:=.value (.func f),args:=(x::a).toArray,argTypes:=i})(N:S.ev x=.box b 0)(n:S.bs[b]? =some (ty,cs))(q:QO f ty cs ts r)(L:a.map S.ev=ts)(A:cs.all Tree.plain=true)(K:ts.all Tree.plain=true):OpOK o S r:=by
 intro w0 G0 bx rv w T h E;have H:=bP E N (by rw[z];simp[Op.operands,Call.operands]);have F:=ka (S:=S) E a (λy O=>by rw[z];simp only[Op.operands,Call.operands];simp;exact .inr (.inr O));rw[L]at F;obtain⟨g,us,p,M,c,t,u⟩:=n5 h n H;obtain⟨⟨C,I,J,D⟩,q⟩:=q;have d:g∈cJ bx rv S.rs:=be.2 (.inl (Q8 p));have m:EnvB g w:=by
  obtain⟨P,j,k,l,G⟩:=h.env0.at h.below;exact⟨P,j,k,(h.ge _ d).elim (Q7 l) (G g)⟩
 have s:=q (GG G0 bx rv S.rs) w g us _ m h.ok (.inr d) c (t.plains A) u (F.plains K);refine cW (f:=f) (args:=(Value.pointer (some ⟨g,0,none⟩)::a.map (dG T)).toArray) ?_ (s.mono ?_)
 ·have j:¬C.name= "runtime.NumGoroutine" :=by simpa using J
  have k:¬C.body=none:=λe=>by rw[e]at D;cases D
  have l:(Value.pointer (some ⟨g,0,none⟩)::a.map (dG T)).toArray=(x::a).toArray.map (dG T):=by
   rw[<-M];simp
  rw[l];simp[execOp,z,resolve,dG,Deferred.ofValue,invoke,callFunc,I,j,k]
 rintro y w' ⟨v,rfl,B,n⟩;exact⟨v,Z,.of B,n⟩
def Ey{y:Operand}{t:TypeId}{e sz l:Nat}{d:List Tree}(ho:o.op=.call {callee:=.builtin .append,args:=#[.const (.slice none 0 0),y],argTypes:=#[t,t]})(hd:cF S.n o.dst=true)(ht:kI prog t=some (e,sz,l))(hy:S.ev y=.sl d)(hs:Sized sz d)(h1:AllC Tree.one d)(h2:AllC Tree.noDig d)(h3:d.length<=1073741824)(h4:l<=100000):
  lM w0 G0 o S ({S with rs:=S.rs++[some (⟨e,sz,d,false⟩:Row)]}.put o.dst (.own S.rs.length)):=by
 rintro a w ⟨bx,rv,hm,W,N,D⟩;have hq:=(bP (op:=o.op) (T:=λs=>a.tmps.getD s undef) (S:=S) (λs _=>D s) hy (by rw[ho];simp[Op.operands,Call.operands])).isSl;generalize (λs=>a.tmps.getD s undef)=T at hq⊢;obtain⟨A,c,e1,a1,_,hA,E⟩:=hq.slice;obtain⟨G,⟨i,z,hi,hz,V,M,a0,Y⟩,C⟩:=qw ht;obtain⟨news,Q,r,U⟩:∃news,news.length=d.length*sz/\PT w (GG G0 bx rv S.rs) news (flat d)/\∀a,A=some a->∀j u,news[j]? =some u->w.cell? (a.add j)=some u:=by
  rcases RV d.length with J|J
  ·obtain rfl:d=[]:=Rj J;exact⟨[],F,.nil,λa _ j u G=>by simp at G⟩
  obtain⟨b,off,news,rfl,_,_,hc,hx⟩:=E J;refine⟨news,by rw[hx.length,hs.flat],hx,λad ha j u G=>?_⟩;rw[<-Sw ha,Addr.add_mid];exact hc j u G
 have q:FT (en w G0 bx rv S.rs) news (flat d):=.of r;have K:0+d.length<=1073741824:=O
 obtain⟨v',w',hr,B,f,L,x⟩:=mU (P:=prog) w w.heap.size t o.type e i z sz l G hi hz V M a0 C (.slice none 0 0) 0 [] (World.ownsRow_nil _ _ _ _) A d.length c news Q (λe=>⟨by have:=hA e;omega,hA e⟩) U (q.ones h1.all) (by simp only[maxLen];omega) (Q7 (Tq K h4) I) (Q3 _) Y (q.noDigs h2.all) (λg hg=>by cases hg);have m:Below w.heap.size w w':=⟨f.os,f.tape,f.output,f.size,λk hk=>f.block k hk (by simp[Value.ownBlock])⟩;have p:∀b,v'.ownBlock=some b->b=w.heap.size:=λb H=>by
  rcases L with h|h
  ·exact absurd (h.symm.trans H) (by simp[Value.ownBlock])
  exact Sw (H.symm.trans h)
 have X:PT w' (λb=>GG G0 bx rv S.rs b\/v'.ownBlock=some b) news (flat d):=r.mono m.size λb H hG=>⟨m.block b H,λh=>h.elim hG λh=>by have:=p b h;omega⟩
 obtain⟨m1,m2⟩:=hm.addRow (R:=⟨e,sz,d,false⟩) (xs:=news) m (by simpa using B) X ⟨hs,λh=>by cases h⟩ x;obtain⟨A',c',hv⟩:=ce B;refine aE (v:=v') (W':=w') ?_ (mX W N hd hm.nr m1 ⟨A',_,c',hv⟩ (λi=>m2 [_] [_] (D i)) Z);have e0:dG T (.const (.slice none 0 0))=.slice none 0 0:=rfl;simp only[execOp,ho,resolve,invoke,builtin,Sem.run_bind,Sem.run_pure,Result.andThen_ok,Tk,Sb,TD,e1,e0,hr]
end
def pL{w0:World}{G0:Bse}{o:Oper}{ops:Array Oper}{a:List Oper}{Q:Exit->St->Prop}{n d k:Nat}{sl:List (Nat×Tree)}{bs:List (TypeId×List Tree)}{rs rs':List (Option Row)}{y:Operand}{t:TypeId}{e sz c:Nat}{b:List Tree}(r:o.op=.call {callee:=.builtin .append,args:=#[.const (.slice none 0 0),y],argTypes:=#[t,t]})(m:o.guard=none)(g:o.dst=some d)(q:Nat.blt d n=true)(u:kI prog t=some (e,sz,c))(v:St.ev ⟨n,sl,bs,rs⟩ y=.sl b)(s:Sized sz b)(h:AllC Tree.one b)(i:AllC Tree.noDig b)(j:b.length<=1073741824)(l:Nat.ble c 100000=true)(p:rs.length=k)(f:rs++[some ⟨e,sz,b,false⟩]=rs')(K:AOps w0 G0 ops a Q ⟨n,(d,.own k)::sl,bs,rs'⟩):AOps w0 G0 ops (o::a) Q ⟨n,sl,bs,rs⟩:=by
 subst p f;refine dA m (Ey (S:=⟨n,sl,bs,rs⟩) r (by rw[g];simpa[cF,R5]using q) u v s h i j (by simpa using l)) ?_;rw[g];exact K
def FT.setNil{E:En}:∀{us:List Value} {cs:List Tree} {off:Nat},FT E us cs->cs[off]? =some (.sc (.slice none 0 0))->FT E us (cs.set off (.sl []))
 |[],[],_,_,h=>by simp at h
 |[],_::_,_,h,_=>by cases h
 |_::_,[],_,h,_=>by cases h
 |u::us,c::cs,0,h,e=>by
  simp only[RY,Ro]at e;subst e;have a:=h.head.isSc;subst a;exact FT.cons (.pure (bS _ _) .nil) h.tail
 |u::us,c::cs,off+1,h,e=>FT.cons h.head (FT.setNil h.tail (by simpa using e))
def rB{w0:World}{G0:Bse}{ops:Array Oper}{d:List Oper}{Q:Exit->St->Prop}{n:Nat}{sl:List (Nat×Tree)}{bs bs':List (TypeId×List Tree)}{rs:List (Option Row)}(b off:Nat){ty:TypeId}{cs:List Tree}(u:bs[b]? =some (ty,cs))(v:cs[off]? =some (.sc (.slice none 0 0)))(l:bs.set b (ty,cs.set off (.sl []))=bs')(k:AOps w0 G0 ops d Q ⟨n,sl,bs',rs⟩):AOps w0 G0 ops d Q ⟨n,sl,bs,rs⟩:=by
 subst l;rintro a w ⟨bx,rv,c,p,m,o⟩;refine k a w ⟨bx,rv,⟨c.below,c.env0,c.g0,by simp[c.nb],c.nr,λi g x=>?_,c.row,c.nodup,c.ge,c.pin⟩,p,m,o⟩;obtain⟨q,h,us,j,r,s,t⟩:=c.box i g x;by_cases f:i=b
 ·subst f;rw[u]at j;cases j;have y:=(Q6.1 u).1;exact⟨ty,_,us,So y,r,s.setNil v,t⟩
 exact⟨q,h,us,by rw[Se (λe=>f e.symm)];exact j,r,s,t⟩
def P0(s:Nat)(ty:TypeId)(cs:List Tree)(x:Exit)(S:St):Prop:=(x=.normal\/x=.ret)/\cs.all Tree.plain0=true/\∃k,S.get s=.box k 0/\S.bs[k]? =some (ty,cs)
def CtN.of{f:FuncId}{d:Func}{c:Code}{args cs:List Tree}{ty n s:Nat}(p:prog.funcs[f]? =some d)(e:d.body=some c)(A:(d.name== "runtime.NumGoroutine")=false)(N:d.ntmps=n)(D:Nat.ble args.length n=true)(L:d.results.toList=[.tmp s])
  (h:∀w0 G0,AWP w0 (pln G0) c (P0 s ty cs) ⟨n,iI 0 args,[],[]⟩):CtN f args ty cs:=by
 refine⟨⟨d,p,A,by rw[e];rfl⟩,λG w vs H I F=>?_⟩;have E:=F.length;have D:args.length<=n:=by simpa using D
 refine calls_of_wp p e (wp_mono (h w G _ w ⟨[],[],oP H I,?_,Z,λi=>wl (.of (F.mono (Q3 _) λb _ e=>⟨Z,λh=>by
  rcases h with h|h
  ·exact e h
  simp[cJ]at h⟩)) i⟩) ?_)
 ·simp;omega
 rintro x a w' ⟨S',⟨J,B,k,M,K⟩,bx,rv,q,_,t,C⟩;obtain⟨us,o,l⟩:=gV q C (L▸(.cons M .nil:ResL S' [.tmp s] [.box k 0]));obtain⟨u,rfl⟩:∃u,us=[u]:=by
  match us,l with
  |[u],_=>exact⟨u,Z⟩
  |[],h=>cases h
  |u::u'::us,h=>have:=h.length;simp at this
 obtain⟨g,us,r,rfl,j,p,z⟩:=n5 q K l;have m:g∈cJ bx rv S'.rs:=be.2 (.inl (Q8 r));have y:w.heap.size<=g:=(q.ge g m).elim id λh=>h.elim
 have key:a.defers=[]/\∃v,(results d a.tmps).run prog w'=.ok v w'/\(λx w'=>∃g us,x=Ending.returned (.pointer (some ⟨g,0,none⟩))/\w.heap.size<=g/\IsBlk w' g ty us.toArray/\PT w' (λb=>G b\/b=g) us cs/\us.all bR=true/\Below w.heap.size w w') (.returned v) w':=by
  refine⟨t,_,?_,g,us,Z,y,j,(p.plain0s B).mono (Q3 _) λb _ e=>⟨Z,λh=>e ?_⟩,z,q.below.below⟩
  ·unfold results;rw[Sem.run_bind,SR,Sem.run_map];exact congrArg (λx:Result (List Value)=>(x.andThen λa w'=>Result.ok a.toArray w').andThen λa w'=>Sem.run prog (pure (if h:a.size=1 then a[0]else Value.tuple a)) w') o
  rcases h with h|h
  ·exact .inl h
  subst h;exact .inr m
 rcases J with rfl|rfl
 ·exact key
 exact key
attribute [local go_sem ↓] Go.wp_at_zero Go.wp_at_succ
structure KS (w:World) (g:Nat) (W:World):Prop where
 blk:IsBlk W g 77 #[.int .i64 2,.int .i64 0,.string ⟨#[105,116,39,115]⟩]
 env:Env W
 below:Below w.heap.size w W
def tx{t n:Int}{s:ByteArray}{b:Bool}(h:bY t n s=b)(w:World)(a:s.size<=9223372036854775807):
  Calls prog 98 #[.agg #[.int .i64 t,.int .i64 n,.string s]] w λe w'=>e=.returned (.bool b)/\Below w.heap.size w w':=by subst h;exact qP t n s w a
def Ck{l:List V}(h:l.all V.ok=true):(eJ l).length<=66*l.length:=by
 induction l with
 |nil=>simp[eJ]
 |cons v l ih=>
  simp only[SJ,Q9]at h;have:=ih h.2;have b:v.enc.length<=66:=by
   unfold V.enc;split
   ·rename_i ht;have a:v.s.size<=64:=by
     have:=h.1;simp only[V.ok,bY,ht]at this;simp at this;exact this.1.2
    simp;omega
   simp[lA]
  simp only[eJ,SI,Q4,Q5]at this⊢;omega
def Na(w:World)(e:Ending)(w':World):Prop:=e=.returned (.bool true)/\Below w.heap.size w w'
def cI:List UInt8->Nat
 |[]=>0
 |c::l=>c.toNat*256^l.length+cI l
def jH:∀(l:List UInt8) (c:UInt8),cI (l++[c])=cI l*256+c.toNat
 |[],c=>by simp[cI]
 |d::l,c=>by
  have:=jH l c;simp only[Sq,cI,this,Q4,Q5,Ra,R4,RA,R2,Ry];omega
def iq:∀l:List UInt8,cI l<256^l.length
 |[]=>by simp[cI]
 |c::l=>by
  have h:=iq l;have a:c.toNat+1<=256:=c.toNat_lt;have:=RB (256^l.length) a;simp only[cI,Q5,RA];rw[R2]at this;omega
def Ez(n:Int):md n=[UInt8.ofNat ((n+9223372036854775808).toNat/72057594037927936%256),UInt8.ofNat ((n+9223372036854775808).toNat/281474976710656%256),UInt8.ofNat ((n+9223372036854775808).toNat/1099511627776%256),UInt8.ofNat ((n+9223372036854775808).toNat/4294967296%256),
  UInt8.ofNat ((n+9223372036854775808).toNat/16777216%256),UInt8.ofNat ((n+9223372036854775808).toNat/65536%256),UInt8.ofNat ((n+9223372036854775808).toNat/256%256),UInt8.ofNat ((n+9223372036854775808).toNat/1%256)]:=by
 unfold md;simp[List.range_succ]
def KV(m:Nat):(UInt8.ofNat (m%256)).toNat=m%256:=by simp[Tl]
def H3(n:Int)(a: -9223372036854775808<=n)(b:n<=9223372036854775807):cI (md n)=(n+9223372036854775808).toNat:=by
 rw[Ez];generalize c:(n+9223372036854775808).toNat=N;have d:N<18446744073709551616:=O
 simp only[cI,KV,Q5,Ra];clear c a b;simp only[R4,Nat.reduceAdd,Nat.reducePow];omega
def jI:List UInt8->Nat
 |[]=>0
 |c::l=>if c=0 then 0 else jI l+1
def Gd:∀l,jI l<=l.length
 |[]=>by simp[jI]
 |c::l=>by
  have:=Gd l;simp only[jI,Q5];split<;>omega
def i6:List UInt8->Option (V×Nat)
 |[]=>none
 |c::l=>
  if c=1 then(if 8<=l.length then some (⟨1,(cI (l.take 8):Int)-9223372036854775808,⟨#[]⟩⟩,9)else none)
  else if c=2 then(if jI l<l.length then some (⟨2,0,⟨(l.take (jI l)).toArray⟩⟩,jI l+2)else none)
  else none
def rC:Nat->List UInt8->Option (List V)
 |0,_=>some []
 |_+1,[]=>some []
 |n+1,c::l=>
  match i6 (c::l)with
  |none=>none
  |some (v,k)=>if v.ok=true then(rC n ((c::l).drop k)).map (v:: ·)else none
def ir(b:List UInt8):Option (List V):=rC b.length b
def rD{b:List UInt8}{v:V}{k:Nat}(h:i6 b=some (v,k)):1<=k/\k<=b.length:=by
 cases b with
 |nil=>simp[i6]at h
 |cons c l=>
  simp only[i6]at h;split at h
  ·split at h
   ·simp only[Ro,Td]at h;simp only[Q5];omega
   cases h
  split at h
  ·split at h
   ·simp only[Ro,Td]at h;simp only[Q5];omega
   cases h
  cases h
def tz:∀(n m:Nat) (b:List UInt8),b.length<=n->b.length<=m->rC n b=rC m b
 |0,m,b,hn,_=>by
  have:b=[]:=Rj O;subst this;cases m<;>rfl
 |n+1,0,b,_,hm=>by
  have:b=[]:=Rj O;subst this;rfl
 |n+1,m+1,b,hn,hm=>by
  cases b with
  |nil=>rfl
  |cons c l=>
   simp only[rC];cases a:i6 (c::l)with
   |none=>rfl
   |some p=>
    obtain⟨v,k⟩:=p;have d:=rD a;simp only[Q5]at hn hm d;dsimp only;rw[tz n m ((c::l).drop k) (by simp only[Rm,Q5];omega) (by simp only[Rm,Q5];omega)]
def rE:ir []=some []:=rfl
def pg{b:List UInt8}(a:b≠ []):ir b=match i6 b with
  |none=>none
  |some (v,k)=>if v.ok=true then(ir (b.drop k)).map (v:: ·)else none:=by
 cases b with
 |nil=>exact absurd Z a
 |cons c l=>
  unfold ir;simp only[Q5,rC];cases d:i6 (c::l)with
  |none=>rfl
  |some p=>
   obtain⟨v,k⟩:=p;have e:=rD d;dsimp only;simp only[Q5]at e;rw[tz l.length ((c::l).drop k).length ((c::l).drop k) (by simp only[Rm,Q5];omega) (Q3 _)]
def Cl:∀(s x:List UInt8),s.all qE=true->jI (s++0::x)=s.length
 |[],x,_=>by simp[jI]
 |c::s,x,h=>by
  simp only[SJ,Q9]at h;have a:c≠0:=by
   have:=h.1;simp only[qE,decide_eq_true_eq]at this;intro e;subst e;simp at this
  have:=Cl s x h.2;simp only[Sq,jI,if_neg a,this,Q5]
def OU{v:V}(h:v.ok=true)(a:v.t=2):v.n=0/\v.s.size<=64/\v.s.data.toList.all qE=true:=by
 simp only[V.ok,bY,a]at h;simp at h;exact⟨h.1.1,h.1.2,by simpa using h.2⟩
def OV{v:V}(h:v.ok=true)(a:v.t≠2):v.t=1/\v.s=⟨#[]⟩:=by
 simp only[V.ok,bY]at h;split at h
 ·rename_i h1;refine⟨h1,?_⟩;have:v.s.data.toList=[]:=by simpa using h
  rw[<-mZ v.s,this]
 simp[a]at h
def KW{v:V}(h:v.ok=true)(c: -9223372036854775808<=v.n/\v.n<=9223372036854775807)(x:List UInt8):i6 (v.enc++x)=some (v,v.enc.length):=by
 obtain⟨t,n,s⟩:=v;by_cases a:t=2
 ·subst a;obtain⟨f,j,g⟩:=OU h Z;simp only at f j g;subst f;have l:=Cl s.data.toList x g;have i:s.data.toList++[0]++x=s.data.toList++0::x:=F
  simp only[V.enc,if_true,Sq,i6,i,l];rw[if_neg I,if_pos F];simp
 obtain⟨d,e⟩:=OV h a;simp only at d e;subst d e;have b:=lA n;have k:(md n++x).take 8=md n:=by rw[<-b,List.take_left]
 simp only[V.enc,if_neg a,Sq,i6,if_true];rw[if_pos (by simp[b]),k,H3 n c.1 c.2];simp only[Q5,b,Ro,Td,V.mk.injEq,true_and,and_true];have:=c.1;simp only at this;omega
def EA(v:V):v.enc≠ []:=by unfold V.enc;split<;>simp
def wm:∀(p:List V),p.all V.ok=true->(∀v∈p,-9223372036854775808<=v.n/\v.n<=9223372036854775807)->ir (eJ p)=some p
 |[],_,_=>rfl
 |v::p,h,hr=>by
  simp only[SJ,Q9]at h;have e:eJ (v::p)=v.enc++eJ p:=by simp[eJ]
  have b:=wm p h.2 (λu a=>hr u (RD _ a));rw[e,pg (by simp[EA]),KW h.1 (hr v (Rw ..))];simp only[h.1,if_true,List.drop_left,b,Sr]
structure GivenR (l:List Oper) (dsts:List (Option Nat)) (t:Array Value) (F:List (Value->World->Prop)) (cons:List (Option Nat)) (B:Nat) (w:World) (I0:World->Prop) (c0 i:Nat) (T:Nat->Value) (W:World):Prop extends GivenC l dsts t F cons B w i T W where
 ini:(c0==i||uM l c0 i)=true->I0 W
def KX(P:Program)(l:List Oper)(dsts:List (Option Nat))(t:Array Value)(F:List (Value->World->Prop))(cons:List (Option Nat))(ap:List Nat)(B:Nat)(w:World)(I0:World->Prop)(c0:Nat)(i:Nat)(o:Oper):Prop:=
 DJ l dsts F cons i o.guard/\∀(T:Nat->Value) (W:World),GivenR l dsts t F cons B w I0 c0 i T W->OpRuns P o T W λv W'=>fP F i v W'/\JB B W W' (ap.contains i)
inductive StepsR (P:Program) (l:List Oper) (dsts:List (Option Nat)) (t:Array Value) (F:List (Value->World->Prop)) (cons:List (Option Nat)) (ap:List Nat) (B:Nat) (w:World) (I0:World->Prop) (c0:Nat):Nat->List Oper->Prop
 |nil {i:Nat}:StepsR P l dsts t F cons ap B w I0 c0 i []
 |cons' {i:Nat} {o:Oper} {r:List Oper} (h:KX P l dsts t F cons ap B w I0 c0 i o) (hs:StepsR P l dsts t F cons ap B w I0 c0 (i+1) r):StepsR P l dsts t F cons ap B w I0 c0 i (o::r)
section
variable {P:Program} {l:List Oper} {dsts:List (Option Nat)} {t:Array Value} {F:List (Value->World->Prop)} {cs:List (Option Nat)} {ap:List Nat} {B:Nat} {w:World} {I0:World->Prop} {c0:Nat}
def StepsR.cons{i:Nat}{o:Oper}{r:List Oper}(a:DJ l dsts F cs i o.guard)(h:∀(T:Nat->Value) (W:World),GivenR l dsts t F cs B w I0 c0 i T W->OpRuns P o T W λv W'=>fP F i v W'/\JB B W W' (ap.contains i))
  (b:StepsR P l dsts t F cs ap B w I0 c0 (i+1) r):StepsR P l dsts t F cs ap B w I0 c0 i (o::r):=.cons' ⟨a,h⟩ b
def StepsR.at{n:Nat}{r:List Oper}(h:StepsR P l dsts t F cs ap B w I0 c0 n r):∀(k:Nat) (o:Oper),r[k]? =some o->KX P l dsts t F cs ap B w I0 c0 (n+k) o:=by
 induction h with
 |nil=>intro k o h;simp at h
 |cons' h hs ih=>
  intro k o a;cases k with
  |zero=>
   simp only[RY,Ro]at a;subst a;exact h
  |succ k=>
   have:=ih k o (by simpa using a);rwa[S4,SN 1 k]at this
def tT{id:Nat}{Q:Exit->Act->World->Prop}{a:Act}(dsts:List (Option Nat))(F:List (Value->World->Prop))(pf:List Bool)(cons:List (Option Nat))(ap:List Nat)(B:Nat)(I0:World->Prop)(c0:Nat)(a0:I0 w.drew)(hI:∀W W',I0 W->Below W.heap.size W W'->I0 W')(a2:(ap.all λi=>i==c0||uM l i c0)=true)
  (hm:P.follows .mixedOrders=true) (a1:fY l.toArray=true) (hd:l.map (·.dst)=dsts) (u:cD a.tmps.size dsts=true) (hB:B<=w.heap.size) (Y:∀W,Stab W F)
  (b0:PureF F pf) (K:(ap.all λi=>(List.range l.length).all λj=>pf.getD j true||NO l cons i j)=true)
  (N:StepsR P l dsts a.tmps F cons ap B w I0 c0 0 l)
  (V:∀(us:List Value) (W:World),us.length=dsts.length->(∀j,j<l.length->cons.getD j none=none->fP F j (us.getD j undef) W)->Below B w W->B<=W.heap.size->Q .normal ⟨dl a.tmps (dsts.zip us),a.defers⟩ W):(Code.region id l.toArray true).wp P Q a w:=by
 have b3:dsts.length=l.length:=by rw[<-hd];simp
 refine iy (λL a' W=>∃us,a'=⟨dl a.tmps (dsts.zip us),a.defers⟩/\L.size=l.length/\Closed l.toArray L/\MonoC F cons B w (ja a.tmps dsts) L us W/\(L.getD c0 false=false->I0 W)) hm a1 ⟨ja a.tmps dsts,?_,F0,i8 l.toArray,⟨Z,λj d=>absurd d mO,λ_ _=>rfl,(Below.refl _ _).drew,hB⟩,λ_=>a0⟩ ?_ ?_
 ·rw[kr]
 ·rintro L a' W i o S h2 h3 h4 ⟨us,rfl,_,hc,m,U⟩;have S:L.size=l.length:=by simpa using S
  have J:l[i]? =some o:=by simpa using h3
  have hi:i<l.length:=(Q6.1 J).1;have a3:dsts[i]? =some o.dst:=by rw[<-hd,RK,J];rfl
  have q:us.length=dsts.length:=by rw[m.len,fc]
  have C:L.getD i false=false:=getD_both h2;have t:=hc.step h3 h4;have O:∀j,j≠i->uM l i j=true->L.getD j false=true:=λj d z=>by
   have:=t.anc z (fI O0);rwa[dB (λe=>d e.symm)]at this
  have E:∀j,uM l j i=true->L.getD j false=false:=λj z=>by
   cases hl:L.getD j false with
   |false=>rfl
   |true=>
    have:=hc.anc z hl;rw[C]at this;cases this
  have G:GivenC l dsts a.tmps F cons B w i (λs=>(dl a.tmps (dsts.zip us)).getD s undef) W:=by
   refine⟨λs g=>fZ dsts us _ s g,λj s g=>?_,λj s g=>?_,m.below,m.size⟩
   ·simp only[Q9,bne_iff_ne,beq_iff_eq]at g;obtain⟨⟨⟨d,z⟩,r⟩,g⟩:=g;show fP F j ((dl a.tmps (dsts.zip us)).getD s undef) W
    rw[(dM dsts us _ j s u q g).1];refine m.fact j (O j d z) λc k=>?_
    rw[JC,k]at r;simp only[Sm,beq_iff_eq]at r;rcases r with rfl|r
    ·exact C
    exact E c r
   simp only[Q9,Sm,beq_iff_eq]at g;obtain⟨z,g⟩:=g;show(dl a.tmps (dsts.zip us)).getD s undef=_
   have d:L.getD j false=false:=by
    rcases z with rfl|z
    ·exact C
    exact E j z
   rw[(dM dsts us _ j s u q g).1,m.old j d,lY _ _ _ _ g]
  obtain⟨hg,A⟩:KX P l dsts a.tmps F cons ap B w I0 c0 i o:=by
   have:=N.at i o J;rwa[R4]at this
  have A:=A _ W ⟨G,λh=>U (by
   simp only[Sm,beq_iff_eq]at h;rcases h with rfl|h
   ·exact C
   exact E _ h)⟩
  have hw:Region.wanted o (yielded l.toArray (dl a.tmps (dsts.zip us)))=true:=by
   unfold Region.wanted;cases a4:o.guard with
   |none=>rfl
   |some p=>
    obtain⟨j,b⟩:=p;rw[a4]at hg;obtain⟨s,g,hR⟩:=hg;simp only[Q9,bne_iff_ne,beq_iff_eq]at g;obtain⟨⟨⟨d,z⟩,r⟩,g⟩:=g;have hv:=hR _ _ (m.fact j (O j d z) λc k=>by rw[r]at k;cases k);rw[<-(dM dsts us _ j s u q g).1]at hv;have a9:=(dM dsts us a.tmps j s u q g).2;have b1:(l.toArray[j]?).bind (·.dst)=some s:=by
     rw[<-hd,RK]at g;cases ho:l[j]? with
     |none=>simp[ho]at g
     |some oj=>simpa[ho]using g
    have:(dl a.tmps (dsts.zip us))[s]? =some (.bool b):=by
     have hz:s<(dl a.tmps (dsts.zip us)).size:=by rw[ii];exact a9
     simp only[RU,RN hz,RH]at hv;rw[RN hz,hv]
    simp only[yielded,b1,Sp,this];cases b<;>rfl
  simp only[wpList];rw[if_pos hw];refine .inl<|Oper.wp_mono ?_ A.wp;rintro b2 R ⟨v,e,hR,D⟩;have T:Below B W R/\W.heap.size<=R.heap.size:=by
   cases I:ap.contains i with
   |true=>rw[I]at D;exact D
   |false=>
    rw[I]at D;exact⟨Below.mono D m.size,Below.size D⟩
  refine⟨us.set i v,?_,by simpa using S,t,⟨by simpa using m.len,λj d k=>?_,λj d=>?_,m.below.trans T.1,Q7 m.size T.2⟩,λd=>?_⟩
  ·rw[e];exact kE dsts us _ _ i _ v u q a3
  ·by_cases n:i=j
   ·subst n;have:(us.set i v).getD i undef=v:=by simp[List.getD,show i<us.length by omega]
    rw[this];exact hR
   have y:L.getD j false=true:=by rwa[dB n]at d
   have:(us.set i v).getD j undef=us.getD j undef:=by simp[List.getD,n]
   rw[this];have hf:fP F j (us.getD j undef) W:=m.fact j y λc x=>by
    have:=k c x;by_cases X:i=c
    ·subst X;exact C
    rwa[dB X]at this
   cases I:ap.contains i with
   |false=>
    rw[I]at D;exact(Y W).get j _ _ _ (Below.refl _ _) hf D
   |true=>
    by_cases a5:j<l.length
    ·have H:=Rl.1 K i (by simpa using I);have f:=Rl.1 H j (Tr.2 a5);rw[Sm]at f;rcases f with f|f
     ·exact b0.get j _ _ _ f hf
     exfalso;unfold NO at f;simp only[Sm,beq_iff_eq]at f;rcases f with(f|f)|f
     ·exact n f.symm
     ·rw[E j f]at y;cases y
     cases x:cons.getD j none with
     |none=>rw[x]at f;cases f
     |some c=>
      rw[x]at f;simp only[Sm,beq_iff_eq]at f;have h7:=k c x;rcases f with rfl|f
      ·rw[fI O0]at h7;cases h7
      rw[t.anc f (fI O0)]at h7;cases h7
    have hL:L.getD j false=false:=by simp[Ux (show L.size<=j by omega)]
    rw[hL]at y;cases y
  ·by_cases n:i=j
   ·subst n;rw[fI O0]at d;cases d
   rw[dB n]at d;have:(us.set i v).getD j undef=us.getD j undef:=by simp[List.getD,n]
   rw[this];exact m.old j d
  have M:i≠c0:=λe=>by
   rw[e]at hi d;rw[fI O0]at d;cases d
  rw[dB M]at d;cases I:ap.contains i with
  |false=>rw[I]at D;exact hI _ _ (U d) D
  |true=>
   exfalso;have H:=Rl.1 a2 i (by simpa using I);simp only[Sm,beq_iff_eq]at H;rcases H with H|H
   ·exact M H
   have f:=O c0 (λe=>M e.symm) H;rw[d]at f;cases f
 rintro L a' W S ⟨us,rfl,_,_,m,_⟩;exact V us W (by rw[m.len,fc]) (λj d k=>m.fact j (S j (by simpa using d)) λc t=>by rw[k]at t;cases t) m.below m.size
end
