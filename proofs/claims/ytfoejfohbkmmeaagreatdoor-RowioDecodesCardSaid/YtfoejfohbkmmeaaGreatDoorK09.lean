import Derived.Test.YtfoejfohbkmmeaaGreatDoorK08
import Derived.Deep.QuietTactic
import Derived.BigQuiet
import Derived.StillTailTactics
import Derived.Laws.BitsAllLaws
import Derived.Laws.Bits64
set_option maxRecDepth 100000
set_option maxHeartbeats 1000000
set_option linter.defProp false
open Go.Proofs.Tryz
namespace Go.Proofs.YtfoejfohbkmmeaaGreatDoor
open Go.RowKit
open Lib renaming hid→J
def Jq{w:World}{base a:Nat}{e:TypeId}{size n:Nat}{v:Value}{xs:List Value}(h:w.ownsRow base e size v n xs)(k:a<=base):w.ownsRow a e size v n xs:=by
 obtain⟨i,j⟩:=h;refine⟨i,j.imp (λh=>h) ?_⟩;rintro⟨g,b,cur,c,d,f⟩;exact⟨g,b,cur,c,Q7 k d,f⟩
def A8{α:Type}(l:List α)(b:0<l.length):∀(m i:Nat),(List.replicate m l).flatten[i]? =if i<m*l.length then l[i%l.length]? else none
 |0,i=>F
 |m+1,i=>by
  rw[TY,VF,R2,TC];rcases RE i l.length with h|h
  ·rw[Rv h,if_pos O,RC h]
  rw[Ru h,A8 l b m (i-l.length),<-Nat.mod_eq_sub_mod h];by_cases a:i-l.length<m*l.length
  ·rw[if_pos a,if_pos O]
  rw[if_neg a,if_neg O]
def xW(z:Array Value)(a:0<z.size)(m:Nat):(madeCells z (m*z.size)).toList=(List.replicate m z.toList).flatten:=by
 apply TN;intro i;rw[A8 z.toList (by simpa using a) m i];simp only[Sd];by_cases h:i<m*z.size
 ·rw[if_pos h];have b:i%z.size<z.size:=RJ _ a;simp[madeCells,h,b]
 rw[if_neg h];simp[madeCells];omega
def Jr(W:World)(G:Nat->Prop){a:List Value}{zt:Tree}(h:zt.cells=a.map eg):∀m,PT W G (List.replicate m a).flatten (flat (List.replicate m zt))
 |0=>.nil
 |m+1=>by
  rw[TY,TY,VF,fm,h];exact(qp W G a).append (Jr W G h m)
section
variable {w0:World} {G0:Bse} {S:St} {o:Oper}
def pD{bx:List Nat}{rv:List Value}{rs:List (Option Row)}{v:Value}{R:Row}(a:rv.length=rs.length)(b:Nat):b∈cJ bx (rv++[v]) (rs++[some R])↔b∈cJ bx rv rs\/v.ownBlock=some b:=by
 rw[be,be];constructor
 ·rintro(h|⟨j,u,X,c,d,e⟩)
  ·exact .inl (.inl h)
  rcases dQ a j u X c d with⟨_,rfl,_⟩|⟨_,f,g⟩
  ·exact .inr e
  exact .inl (.inr ⟨j,u,X,f,g,e⟩)
 rintro((h|⟨j,u,X,c,d,e⟩)|h)
 ·exact .inl h
 ·have i:=(Q6.1 c).1;have k:=(Q6.1 d).1;exact .inr ⟨j,u,X,by rw[Rv i];exact c,by rw[Rv k];exact d,e⟩
 exact .inr ⟨rs.length,v,R,by rw[Ru O,a,RW];rfl,by rw[Ru (Q3 _),RW];rfl,h⟩
def Mem.addRow{w w':World}{bs:List (TypeId×List Tree)}{rs:List (Option Row)}{bx:List Nat}{rv:List Value}{v:Value}{R:Row}{xs:List Value}(h:Mem w0 G0 bs rs bx rv w)(o:Below w.heap.size w w')(M:w'.ownsRow w.heap.size R.e R.sz v R.es.length xs)(Z:PT w' (λb=>GG G0 bx rv rs b\/v.ownBlock=some b) xs (flat R.es))(F:Sized R.sz R.es/\(R.tt=true->pQ v))(S:∀g,v.ownBlock=some g->NoDigB w' g):
  Mem w0 G0 bs (rs++[some R]) bx (rv++[v]) w'/\(∀us ts,FT (en w G0 bx rv rs) us ts->FT (en w' G0 bx (rv++[v]) (rs++[some R])) us ts):=by
 have c:=h.nr;have K:∀b,GG G0 bx (rv++[v]) (rs++[some R]) b↔(GG G0 bx rv rs b\/v.ownBlock=some b):=λb=>by
  unfold GG;rw[pD c,or_assoc]
 have a:∀b,v.ownBlock=some b->w.heap.size<=b:=λb e=>(M.lt b e).1
 have f:∀b,b<w.heap.size->¬GG G0 bx rv rs b->w'.heap[b]? =w.heap[b]? /\¬GG G0 bx (rv++[v]) (rs++[some R]) b:=λb D W=>⟨o.block b D,λx=>by
  rcases(K b).1 x with d|d
  ·exact W d
  have:=a b d;omega⟩
 have E:∀j u,fX rv rs j=some u->fX (rv++[v]) (rs++[some R]) j=some u:=λj u h=>by
  unfold fX at h⊢;cases y:rs[j]? with
  |none=>simp[y]at h
  |some r=>
   have U:=(Q6.1 y).1;rw[Rv U,Rv O];exact h
 have q:∀us ts,FT (en w G0 bx rv rs) us ts->FT (en w' G0 bx (rv++[v]) (rs++[some R])) us ts:=λus ts T=>T.mono (E':=en w' G0 bx (rv++[v]) (rs++[some R])) o.size f (λ_ _ h=>h) E
 have V:=h.below.size;refine⟨⟨h.below.then o,h.env0,h.g0,h.nb,by simp[c],λi g C=>?_,λj u X d k=>?_,⟨h.nodup.bb,λj u X b d k m L=>?_,λi j u t X Y b s d k m l n p=>?_⟩,λb B=>?_,h.pin⟩,q⟩
 ·obtain⟨ty,cs,us,d,k,m,l⟩:=h.box i g C;exact⟨ty,cs,us,d,k.below o k.lt,q _ _ m,l⟩
 ·rcases dQ c j u X d k with⟨_,rfl,rfl⟩|⟨_,l,n⟩
  ·exact⟨xs,Jq M (Rg _),by rw[show GG G0 bx (rv++[u]) (rs++[some X])=(λb=>GG G0 bx rv rs b\/u.ownBlock=some b)from funext λb=>propext (K b)];exact Z,F,S⟩
  obtain⟨ys,p,N,P,Q⟩:=h.row j u X l n;exact⟨ys,eF p o,N.mono o.size f,P,λg x=>(Q g x).of (o.block g (p.lt g x).2)⟩
 ·rcases dQ c j u X d k with⟨_,rfl,_⟩|⟨_,l,n⟩
  ·have I:=a b m;have J:=(h.ok b (.inr (be.2 (.inl L)))).1;omega
  exact h.nodup.br j u X b l n m L
 ·rcases dQ c i u X d k with⟨C,rfl,_⟩|⟨_,G,H⟩
  ·rcases dQ c j t Y m l with⟨y,_,_⟩|⟨_,z,A⟩
   ·exact s (C.trans y.symm)
   have I:=a b n;have J:=(h.ok b (.inr (be.2 (.inr ⟨j,t,Y,z,A,p⟩)))).1;omega
  rcases dQ c j t Y m l with⟨_,rfl,_⟩|⟨_,z,A⟩
  ·have I:=a b p;have J:=(h.ok b (.inr (be.2 (.inr ⟨i,u,X,G,H,n⟩)))).1;omega
  exact h.nodup.rr i j u t X Y b s G H z A n p
 rcases(pD c b).1 B with d|d
 ·exact h.ge b d
 have:=a b d;exact .inl O
def mX{a:Act}{w':World}{bx:List Nat}{rv:List Value}{v:Value}{R:Row}{d:Nat}{S:St}(b:a.tmps.size=S.n)(e:a.defers=[])(h:cF S.n o.dst=true)(f:rv.length=S.rs.length)(k:Mem w0 G0 S.bs (S.rs++[some R]) bx (rv++[v]) w')(l:∃A n c,v=.slice A n c)(g:∀i,FT (en w' G0 bx (rv++[v]) (S.rs++[some R])) [a.tmps.getD i undef] [S.get i])(j:S.rs.length=d):
  Sim w0 G0 ({S with rs:=S.rs++[some R]}.put o.dst (.own d)) (a.put o.dst v) w':=by
 subst j;refine⟨bx,rv++[v],by rw[dJ,cj];exact k,by rw[ee,eu];exact b,by rw[df,e],λi=>?_⟩;rw[cj];rw[gA a o.dst v S.n b h,dh];split
 ·obtain⟨A,n,c,rfl⟩:=l;refine .own _ n c A ?_ .nil;show fX (rv++[_]) (S.rs++[some R]) S.rs.length=_
  unfold fX;rw[Ru (Q3 _),RW,Ru O,f,RW];rfl
 exact g i
def CtO(f:FuncId)(args:List Tree)(e sz:Nat)(es:List Tree):Prop:=(∃fn,prog.funcs[f]? =some fn/\(fn.name== "runtime.NumGoroutine")=false/\fn.body.isNone=false)/\∀(G:Nat->Prop) (w:World) (vs:List Value),Env w->(∀g,G g->g<w.heap.size/\NoDigB w g)->PT w G vs args->
 Calls prog f vs.toArray w λx w'=>∃v xs,x=.returned v/\w'.ownsRow w.heap.size e sz v es.length xs/\PT w' (λb=>G b\/v.ownBlock=some b) xs (flat es)/\Sized sz es/\(∀g,v.ownBlock=some g->NoDigB w' g)/\Below w.heap.size w w'
def A9{f:FuncId}{xs:Array Operand}{g:Array TypeId}{ts es:List Tree}{e sz:Nat}(t:o.op=.call {callee:=.value (.func f),args:=xs,argTypes:=g})(G:cF S.n o.dst=true)(j:CtO f ts e sz es)(I:xs.toList.map S.ev=ts)(H:ts.all Tree.plain=true):lM w0 G0 o S ({S with rs:=S.rs++[some (⟨e,sz,es,false⟩:Row)]}.put o.dst (.own S.rs.length)):=by
 rintro a w ⟨bx,rv,d,m,l,b⟩;have r:=ka (E:=en w G0 bx rv S.rs) (T:=λs=>a.tmps.getD s undef) (op:=o.op) (S:=S) (λs _=>b s) xs.toList (λx K=>by rw[t];simp only[Op.operands,Call.operands];simp;exact .inr (by simpa using K));rw[I]at r;obtain⟨⟨p,C,D,q⟩,j⟩:=j;have k:=j (GG G0 bx rv S.rs) w _ d.env d.ok (r.plains H);refine cW (f:=f) (args:=(xs.toList.map (dG λs=>a.tmps.getD s undef)).toArray) ?_ (k.mono ?_)
 ·have y:¬p.name= "runtime.NumGoroutine" :=by simpa using D
  have z:¬p.body=none:=λe=>by rw[e]at q;cases q
  have B:(xs.toList.map (dG λs=>a.tmps.getD s undef)).toArray=xs.map (dG λs=>a.tmps.getD s undef):=TR F;rw[B];simp[execOp,t,resolve,dG,Deferred.ofValue,invoke,callFunc,C,y,z]
 rintro x w' ⟨v,U,rfl,u,L,M,N,O⟩;obtain⟨P,Q⟩:=d.addRow (R:=⟨e,sz,es,false⟩) O u L ⟨M,λh=>by cases h⟩ N;obtain⟨A,c,J⟩:=ce u;exact⟨v,Z,mX m l G d.nr P ⟨A,_,c,J⟩ (λi=>Q [_] [_] (b i)) Z⟩
def Fu{t e:TypeId}{x y:Operand}{m sz b:Nat}{X:List Value}{kl kc:IntKind}{il ic:Int}{zt:Tree}(J:o.op=.makeSlice t x y)(hd:cF S.n o.dst=true)(ht:kI prog t=some (e,sz,b))(Q:ij prog e=some X)(N:S.ev x=.sc (.int kl il))(hy:S.ev y=.sc (.int kc ic))(H:il=m)(G:ic=m)(r:zt.cells=X.map eg)(hm:m<=1073741824)(D:Nat.ble b 100000=true):lM w0 G0 o S ({S with rs:=S.rs++[some (⟨e,sz,List.replicate m zt,true⟩:Row)]}.put o.dst (.own S.rs.length)):=by
 rintro a w ⟨bx,rv,k,L,E,h⟩;have Y:=(bP (op:=o.op) (T:=λs=>a.tmps.getD s undef) (S:=S) (λs _=>h s) N (by rw[J];simp[Op.operands])).isSc;have e2:=(bP (op:=o.op) (T:=λs=>a.tmps.getD s undef) (S:=S) (λs _=>h s) hy (by rw[J];simp[Op.operands])).isSc;generalize (λs=>a.tmps.getD s undef)=T at Y e2⊢;obtain⟨M,⟨i,z,hi,q,K,C,V,U⟩,a1⟩:=qw ht;have W:X=z.cells.toList:=by
  unfold ij at Q;simp only[TH,R9]at Q;obtain⟨i',j,z',f,rfl⟩:=Q;rw[hi]at j;cases j;rw[q]at f;cases f;rfl
 subst H G W V;have B:b<=100000:=by simpa using D
 have a0:m*b<=1073741824*100000:=Tq hm B;have hr:=run_make (P:=prog) w t e i z M hi q kl kc m m O (Int.le_refl _) (by
  rw[C];have:(b:Int)*(m:Int)=((m*b:Nat):Int):=by rw[Um,Int.mul_comm]
  rw[this];omega) O
 rw[TG,K]at hr;have d:=World.ownsRow_lit (base:=w.heap.size) (e:=e) (size:=z.cells.size) w (madeCells z.cells (m*z.cells.size)) m (Q3 _) (by simp only[maxLen];omega) (size_madeCells _ _);rw[xW z.cells O m]at d;have hb:Below w.heap.size w (w.alloc (.cells (madeCells z.cells (m*z.cells.size)) e)):=(Below.refl _ _).alloc (Q3 _) _;have I:∀g,(Value.slice (some ⟨w.heap.size,0,none⟩) m m).ownBlock=some g->NoDigB (w.alloc (.cells (madeCells z.cells (m*z.cells.size)) e)) g:=λg F=>by
  injection F with F
  subst F;refine cU (heap_alloc_new w _) ?_;rw[xW z.cells O m];refine Rl.2 λu M=>?_
  obtain⟨l,hl,p⟩:=List.mem_flatten.1 M;rw[(Up.1 hl).2]at p;exact Rl.1 U u p
 obtain⟨m1,m2⟩:=k.addRow (R:=⟨e,z.cells.size,List.replicate m zt,true⟩) (v:=.slice (some ⟨w.heap.size,0,none⟩) m m) hb (by rw[TA];exact d) (Jr _ _ r m) ⟨λx N=>by
  rw[(Up.1 N).2,r,Rn,Sd],λ_ A n c e=>by cases e;rfl⟩ I
 refine aE (v:=.slice (some ⟨w.heap.size,0,none⟩) m m) (W':=w.alloc (.cells (madeCells z.cells (m*z.cells.size)) e)) ?_ (mX L E hd k.nr m1 ⟨_,_,_,Z⟩ (λi=>m2 [_] [_] (h i)) Z);simp[execOp,J,Y,e2,hr]
def DD{ops:Array Oper}{a:List Oper}{Q:Exit->St->Prop}{n d k:Nat}{sl:List (Nat×Tree)}{bs:List (TypeId×List Tree)}{rs rs':List (Option Row)}{t e:TypeId}{x y:Operand}{m sz b:Nat}{q:List Value}{E D:IntKind}{p l:Int}{zt:Tree}(w:o.op=.makeSlice t x y)(r:o.guard=none)(j:o.dst=some d)(v:Nat.blt d n=true)(z:kI prog t=some (e,sz,b))(C:ij prog e=some q)(A:St.ev ⟨n,sl,bs,rs⟩ x=.sc (.int E p))(B:St.ev ⟨n,sl,bs,rs⟩ y=.sc (.int D l))(g:p=m)(f:l=m)(i:zt.cells=q.map eg)(u:m<=1073741824)(c:Nat.ble b 100000=true)(s:rs.length=k)(h:rs++[some ⟨e,sz,List.replicate m zt,true⟩]=rs')(K:AOps w0 G0 ops a Q ⟨n,(d,.own k)::sl,bs,rs'⟩):AOps w0 G0 ops (o::a) Q ⟨n,sl,bs,rs⟩:=by
 subst s h;refine dA r (Fu (S:=⟨n,sl,bs,rs⟩) w (by rw[j];simpa[cF,R5]using v) z C A B g f i u c) ?_;rw[j];exact K
def mY{ops:Array Oper}{a:List Oper}{Q:Exit->St->Prop}{n d k:Nat}{sl:List (Nat×Tree)}{bs:List (TypeId×List Tree)}{rs rs':List (Option Row)}{f:FuncId}{xs:Array Operand}{b:Array TypeId}{ts es:List Tree}{e sz:Nat}(m:o.op=.call {callee:=.value (.func f),args:=xs,argTypes:=b})(i:o.guard=none)(g:o.dst=some d)(l:Nat.blt d n=true)(h:CtO f ts e sz es)(q:xs.toList.map (St.ev ⟨n,sl,bs,rs⟩)=ts)(p:ts.all Tree.plain=true)(j:rs.length=k)(c:rs++[some ⟨e,sz,es,false⟩]=rs')(K:AOps w0 G0 ops a Q ⟨n,(d,.own k)::sl,bs,rs'⟩):AOps w0 G0 ops (o::a) Q ⟨n,sl,bs,rs⟩:=by
 subst j c;refine dA i (A9 (S:=⟨n,sl,bs,rs⟩) m (by rw[g];simpa[cF,R5]using l) h q p) ?_;rw[g];exact K
def jc{ops:Array Oper}{a:List Oper}{Q:Exit->St->Prop}{n:Nat}{sl:List (Nat×Tree)}{bs:List (TypeId×List Tree)}{rs rs':List (Option Row)}{ty:TypeId}{x y:Operand}{k off j:Nat}{R:Row}{t:Tree}(q:o.op=.store ty x y)(l:o.guard=none)(b:o.dst=none)(v:St.ev ⟨n,sl,bs,rs⟩ x=.elp k off)(i:rs[k]? =some (some R))(c:off=j*R.sz)(m:j<R.es.length)(u:St.ev ⟨n,sl,bs,rs⟩ y=t)(f:t.oneA=true)(g:t.cells.all Tree.one=true)(h:t.cells.all Tree.noDig=true)(r:t.cells.all Tree.plain0=true)(s:(prog.info? ty).map (·.size)=some R.sz)(p:t.cells.length=R.sz)(d:rs.set k (some ⟨R.e,R.sz,R.es.set j t,R.tt⟩)=rs')(K:AOps w0 G0 ops a Q ⟨n,sl,bs,rs'⟩):AOps w0 G0 ops (o::a) Q ⟨n,sl,bs,rs⟩:=by
 subst d;exact dA l (qC (S:=⟨n,sl,bs,rs⟩) q b v i c m u f g h r s p) K
def Pt(s:Nat)(e sz:Nat)(es:List Tree)(x:Exit)(S:St):Prop:=(x=.normal\/x=.ret)/\∃k tt,S.get s=.own k/\S.rs[k]? =some (some ⟨e,sz,es,tt⟩)
def CtO.of{f:FuncId}{d:Func}{c:Code}{args es:List Tree}{e sz n s:Nat}(F:prog.funcs[f]? =some d)(E:d.body=some c)(z:(d.name== "runtime.NumGoroutine")=false)(U:d.ntmps=n)(H:Nat.ble args.length n=true)(R:d.results.toList=[.tmp s])
  (h:∀w0 G0,AWP w0 (pln G0) c (Pt s e sz es) ⟨n,iI 0 args,[],[]⟩):CtO f args e sz es:=by
 refine⟨⟨d,F,z,by rw[E];rfl⟩,λG w vs N O J=>?_⟩;have I:=J.length;have H:args.length<=n:=by simpa using H
 refine calls_of_wp F E (wp_mono (h w G _ w ⟨[],[],oP N O,?_,Z,λi=>?_⟩) ?_)
 ·simp;omega
 ·show FT _ _ [look (iI 0 args) i]
  rw[kt,if_pos (Rg _),TW];cases T:args[i]? with
  |none=>exact .any _ .nil
  |some t=>
   obtain⟨u,K,D⟩:=J.get i t T;have Q:=(Q6.1 K).1;have M:(vs.toArray++Array.replicate (d.ntmps-vs.toArray.size) undef).getD i undef=u:=by
    rw[RU,Tc (by simpa using Q),SO,K];rfl
   rw[M];refine .pure (D.mono (Q3 _) λb _ j=>⟨Z,λh=>?_⟩) .nil;rcases h with h|h
   ·exact j h
   simp[cJ]at h
 rintro x a w' ⟨S',⟨P,k,V,S,r⟩,bx,rv,p,_,q,B⟩;obtain⟨us,o,l⟩:=gV p B (R▸(.cons S .nil:ResL S' [.tmp s] [.own k]));obtain⟨u,rfl⟩:∃u,us=[u]:=by
  match us,l with
  |[u],_=>exact⟨u,Z⟩
  |[],h=>cases h
  |u::u'::us,h=>have:=h.length;simp at this
 obtain⟨L,xs,m,A,C,y⟩:=gT p r l;have key:a.defers=[]/\∃v,(results d a.tmps).run prog w'=.ok v w'/\(λx w'=>∃v xs,x=Ending.returned v/\w'.ownsRow w.heap.size e sz v es.length xs/\PT w' (λb=>G b\/v.ownBlock=some b) xs (flat es)/\Sized sz es/\(∀g,v.ownBlock=some g->NoDigB w' g)/\Below w.heap.size w w') (.returned v) w':=by
  refine⟨q,u,?_,_,xs,Z,p.ownP L r m,?_,C.1,y,p.below.below⟩
  ·unfold results;rw[Sem.run_bind,SR,Sem.run_map];exact congrArg (λx:Result (List Value)=>(x.andThen λa w'=>Result.ok a.toArray w').andThen λa w'=>Sem.run prog (pure (if h:a.size=1 then a[0]else Value.tuple a)) w') o
  refine A.mono (Q3 _) λb _ j=>⟨Z,λh=>j ?_⟩
  rcases h with h|h
  ·exact .inl h
  exact .inr (be.2 (.inr ⟨k,_,_,L,r,h⟩))
 rcases P with rfl|rfl
 ·exact key
 exact key
end
def pE(k:Nat)(es:List Tree):Tree->Tree
 | .own j=>if j=k then .tl es else .own j
 | .elp j off=>if j=k then .any else .elp j off
 | .agg _| .tup _=>.any
 |t=>t
def Js(k:Nat)(es:List Tree):Tree->Tree
 | .agg cs=>.agg (cs.map (pE k es))
 |t=>pE k es t
section
variable {w0 w:World} {G0:Bse} {bs:List (TypeId×List Tree)} {rs:List (Option Row)} {bx:List Nat} {rv:List Value} {k:Nat} {R:Row} {v:Value}
def Jt(b:Mem w0 G0 bs rs bx rv w)(a:rs[k]? =some (some R))(g:R.tt=true)(h:fX rv rs k=some v):PT w (GG G0 bx rv (rs.set k none)) [v] [.tl R.es]:=by
 have d:=Fr b a h;have i:rv[k]? =some v:=by simpa[fX,a]using h
 obtain⟨xs,e,_,f,_⟩:=b.row k v R i a;obtain⟨A,c,rfl⟩:=ce e;have:=f.2 g A _ c Z;subst this;exact .tl A _ R.es Z d .nil
def Ba(d:Mem w0 G0 bs rs bx rv w)(a:rs[k]? =some (some R))(f:R.tt=true){u:Value}{t:Tree}(h:FT (en w G0 bx rv rs) [u] [t]):FT (en w G0 bx rv (rs.set k none)) [u] [pE k R.es t]:=by
 cases h with
 |pure h _=>
  cases t<;>first
   |exact .pure (h.mono (Q3 _) og) .nil
   |(simp only[pE];exact .any _ .nil)
   |(cases h)
 |any=>exact .any _ .nil
 |box b off g h _=>exact .box b off g h .nil
 |own j n c A hv _=>
  simp only[pE];split
  ·next e=>subst e;exact .pure (Jt d a f hv) .nil
  next e=>exact .own j n c A (zN j _ e hv) .nil
 |elp j off g n c hv _=>
  simp only[pE];split
  ·exact .any _ .nil
  next e=>exact .elp j off g n c (zN j _ e hv) .nil
 |agg=>exact .any _ .nil
 |tup=>exact .any _ .nil
def so(b:Mem w0 G0 bs rs bx rv w)(a:rs[k]? =some (some R))(c:R.tt=true):∀{us:List Value} {ts:List Tree},FT (en w G0 bx rv rs) us ts->FT (en w G0 bx rv (rs.set k none)) us (ts.map (pE k R.es))
 |[],[],_=>.nil
 |[],_::_,h=>by cases h
 |_::_,[],h=>by cases h
 |u::us,t::ts,h=>FT.cons (Ba b a c h.head) (so b a c h.tail)
def Ml(b:Mem w0 G0 bs rs bx rv w)(a:rs[k]? =some (some R))(c:R.tt=true){u:Value}{t:Tree}(h:FT (en w G0 bx rv rs) [u] [t]):FT (en w G0 bx rv (rs.set k none)) [u] [Js k R.es t]:=by
 cases t with
 |agg cs=>
  obtain⟨xs,rfl,d⟩:=h.isAgg;exact .agg xs _ (so b a c d) .nil
 |_=>exact Ba b a c h
end
section
variable {w0:World} {G0:Bse} {ops:Array Oper} {rest:List Oper} {Q:Exit->St->Prop} {o:Oper} {n:Nat} {sl:List (Nat×Tree)} {bs:List (TypeId×List Tree)} {rs:List (Option Row)} {S:St}
def Sim.relU{a:Act}{w:World}{k:Nat}{R:Row}(h:Sim w0 G0 ⟨n,sl,bs,rs⟩ a w)(r:rs[k]? =some (some R))(s:R.tt=true):Sim w0 G0 ⟨n,sl.map λp=>(p.1,Js k R.es p.2),bs.map λp=>(p.1,p.2.map (pE k R.es)),rs.set k none⟩ a w:=by
 obtain⟨bx,rv,c,A,m,q⟩:=h;refine⟨bx,rv,⟨c.below,c.env0,c.g0,by simp[c.nb],by simp[c.nr],λi g z=>?_,λj u X d e=>?_,⟨c.nodup.bb,λj u X b d e=>c.nodup.br j u X b d (jM j X e).2,λi j u v X Y b o d e f l=>c.nodup.rr i j u v X Y b o d (jM i X e).2 f (jM j Y l).2⟩,λb y=>c.ge b (pU y),c.pin⟩,A,m,λi=>?_⟩
 ·obtain⟨ty,cs,us,d,e,f,l⟩:=c.box i g z;exact⟨ty,cs.map (pE k R.es),us,by rw[RK,d];rfl,e,so c r s f,l⟩
 ·obtain⟨xs,f,l,t,x⟩:=c.row j u X d (jM j X e).2;exact⟨xs,f,l.mono (Q3 _) og,t,x⟩
 show FT _ _ [look (sl.map λp=>(p.1,Js k R.es p.2)) i]
 rw[kH (Js k R.es) Z];exact Ml c r s (q i)
def Ju{c:Code}(k:Nat){R:Row}{sl':List (Nat×Tree)}{bs':List (TypeId×List Tree)}{rs':List (Option Row)}(f:rs[k]? =some (some R))(i:R.tt=true)(e:sl.map (λp=>(p.1,Js k R.es p.2))=sl')(b:bs.map (λp=>(p.1,p.2.map (pE k R.es)))=bs')(d:rs.set k none=rs')(h:AWP w0 G0 c Q ⟨n,sl',bs',rs'⟩):AWP w0 G0 c Q ⟨n,sl,bs,rs⟩:=by
 subst e b d;exact λa w g=>h a w (g.relU f i)
end
def fE(a b:Int):Int:=if a<b then-1 else if b<a then 1 else 0
def kb{a b:Int}(h:a<b):fE a b= -1:=by simp[fE,h]
def zP{a b:Int}(h:b<a):fE a b=1:=by simp[fE,h,show¬a<b by omega]
def qD{a b:Int}(c:¬a<b)(d:¬b<a):fE a b=0:=by simp[fE,c,d]
def Dk(a b c:Int):Int:=if a≠0 then a else if b≠0 then b else c
def Oj(g:Nat)(h:Nat)(a b c:Int)(w:World)(p:w.cell? ⟨g,0,none⟩=some (.int .i64 a))(q:w.cell? ⟨g,1,none⟩=some (.int .i64 b))(r:w.cell? ⟨g,2,none⟩=some (.int .i64 c)):
  Calls prog 185 #[.slice (some ⟨g,0,none⟩) 3 h] w λe w'=>e=.returned (.int .i64 (Dk a b c))/\w=w':=by
 by_cases d:a=0
 ·subst d;by_cases f:b=0
  ·subst f;by_cases i:c=0
   ·subst i
    go_enter func185,ntmps185
    go_wp2
    refine wp_loop_rounds 4 ?_;rw[rounds_succ]
    go_wp2
    rw[rounds_succ]
    go_wp2
    rw[rounds_succ]
    go_wp2
    rw[rounds_succ]
    go_wp2
    go_ret
    exact⟨Z,Z⟩
   have n:(c !=0)=true:=by simpa using i
   have o:(c==0)=false:=by simpa using i
   go_enter func185,ntmps185
   go_wp2
   refine wp_loop_rounds 4 ?_;rw[rounds_succ]
   go_wp2
   rw[rounds_succ]
   go_wp2
   rw[rounds_succ]
   go_wp2
   go_ret
   exact⟨Z,Z⟩
  have l:(b !=0)=true:=by simpa using f
  have m:(b==0)=false:=by simpa using f
  go_enter func185,ntmps185
  go_wp2
  refine wp_loop_rounds 4 ?_;rw[rounds_succ]
  go_wp2
  rw[rounds_succ]
  go_wp2
  go_ret
  exact⟨by simp[Dk,f],Z⟩
 have j:(a !=0)=true:=by simpa using d
 have k:(a==0)=false:=by simpa using d
 go_enter func185,ntmps185
 go_wp2
 refine wp_loop_rounds 4 ?_;rw[rounds_succ]
 go_wp2
 go_ret
 exact⟨by simp[Dk,d],Z⟩
def DE(a b:Int)(w:World):
  Calls prog 186 #[.int .i64 a,.int .i64 b] w λe w'=>e=.returned (.int .i64 (fE a b))/\w=w':=by
 by_cases c:a<b
 ·have E:=J (kb c)
  go_enter func186,ntmps186
  go_wp2
  go_ret
  exact⟨by rw[E.out];rfl,Z⟩
 by_cases d:b<a
 ·have E:=J (zP d)
  go_enter func186,ntmps186
  go_wp2
  go_ret
  exact⟨by rw[E.out];rfl,Z⟩
 have E:=J (qD c d)
 go_enter func186,ntmps186
 go_wp2
 go_ret
 exact⟨by rw[E.out];rfl,Z⟩
def zQ(a b:Int)(w:World):
  Calls prog 187 #[.int .i64 a,.int .i64 b] w λe w'=>e=.returned (.int .i64 (fE a b))/\w=w':=by
 by_cases c:a<b
 ·have E:=J (kb c)
  go_enter func187,ntmps187
  go_wp2
  go_ret
  exact⟨by rw[E.out];rfl,Z⟩
 by_cases d:b<a
 ·have E:=J (zP d)
  go_enter func187,ntmps187
  go_wp2
  go_ret
  exact⟨by rw[E.out];rfl,Z⟩
 have E:=J (qD c d)
 go_enter func187,ntmps187
 go_wp2
 go_ret
 exact⟨by rw[E.out];rfl,Z⟩
def uI(n:Int)(w:World):
  Calls prog 143 #[.int .i64 n] w λe w'=>e=.returned (.agg #[.int .i64 1,.int .i64 n,.string ⟨#[]⟩])/\Below w.heap.size w w':=by
 go_enter func143,ntmps143
 go_wp2
 exact bodyPost_ret (v:=.agg #[.int .i64 1,.int .i64 n,.string ⟨#[]⟩]) (by simp[results,results143,go_sem]) Z ⟨Z,(Below.refl _ _).alloc (Q3 _) _⟩
def lN(s:ByteArray)(w:World):
  Calls prog 141 #[.string s] w λe w'=>e=.returned (.agg #[.int .i64 2,.int .i64 0,.string s])/\Below w.heap.size w w':=by
 go_enter func141,ntmps141
 go_wp2
 exact bodyPost_ret (v:=.agg #[.int .i64 2,.int .i64 0,.string s]) (by simp[results,results141,go_sem]) Z ⟨Z,(Below.refl _ _).alloc (Q3 _) _⟩
def jB(ta na:Int)(sa:ByteArray)(tb nb:Int)(sb:ByteArray):Int:=Dk (fE ta tb) (fE na nb) (Lib.compareBytes sa.data.toList sb.data.toList)
def Bb(d a:Int)(b:ByteArray)(f nb:Int)(c:ByteArray)(w:World):
  Calls prog 124 #[.agg #[.int .i64 d,.int .i64 a,.string b],.agg #[.int .i64 f,.int .i64 nb,.string c]] w λe w'=>e=.returned (.int .i64 (jB d a b f nb c))/\Below w.heap.size w w':=by
 obtain⟨W,g,h,i,l,m,n,o,p,q⟩:=Qz w 77 (.int .i64 d) (.int .i64 a) (.string b) (.int .i64 f) (.int .i64 nb) (.string c);have j:=J g;clear g;have k:=J i;clear i
 go_enter func124,ntmps124
 go_wp2
 rw[j.out];refine wp_region_still_tail 15 U U ?_;simp only[S7,Ud,S8,Su];change wpStill _ _ W.drew _ _ _;iterate 4 still_step
 still_call (NL (DE _ _ _))
 iterate 4 still_step
 still_call (NL (zQ _ _ _))
 iterate 4 still_step
 still_call (Tryz.strings_Compare _ _ _)
 refine wpStill_nil ?_
 go_wp2_with (go_at_call 185;refine(Oj _ _ (fE d f) (fE a nb) (Lib.compareBytes b.data.toList c.data.toList) _ (by simp[go_sem]) (by simp[go_sem]) (by simp[go_sem])).mono ?_;rintro e w' ⟨rfl,rfl⟩)
 go_ret
 exact⟨Z,(h.alloc h.size _).drew⟩
def qE(c:UInt8):Bool:=decide (32<=c.toNat/\c.toNat<=126)
def bY(t n:Int)(s:ByteArray):Bool:=
 if t=1 then s.data.toList.isEmpty else decide (t=2)&&decide (n=0)&&decide (s.size<=64)&&s.data.toList.all qE
def pF(s:ByteArray)(k:Nat)(h:k<s.size):(s.data.toList.take (k+1)).all qE=((s.data.toList.take k).all qE&&qE s[k]):=by
 rw[Rz (by simpa using h),S9];simp;rfl
def lz{l:List UInt8}(k:Nat)(h:(l.take k).all qE=false):l.all qE=false:=by
 rw[UU]at h⊢;obtain⟨x,b,a⟩:=h;exact⟨x,RG b,a⟩
def GK(n:Int)(s:ByteArray)(w:World):
  Calls prog 104 #[.agg #[.int .i64 1,.int .i64 n,.string s]] w λe w'=>e=.returned (.bool (bY 1 n s))/\Below w.heap.size w w':=by
 go_enter func104,ntmps104
 go_wp2
 go_ret
 exact⟨by simp[bY,Lib.toList_data],(Below.refl _ _).alloc (Q3 _) _⟩
def Bc(t n:Int)(s:ByteArray)(w:World)(b:t≠1)(a:t≠2):
  Calls prog 104 #[.agg #[.int .i64 t,.int .i64 n,.string s]] w λe w'=>e=.returned (.bool (bY t n s))/\Below w.heap.size w w':=by
 have c:=J (show bY t n s=false by simp[bY,b,a]);have d:(t==1)=false:=by simpa using b
 have f:(t !=2)=true:=by simpa using a
 have g:(t==2)=false:=by simpa using a
 clear b a
 go_enter func104,ntmps104
 go_wp2
 go_ret
 exact⟨by rw[c.out];rfl,(Below.refl _ _).alloc (Q3 _) _⟩
def GL(n:Int)(s:ByteArray)(w:World)(h:n≠0):
  Calls prog 104 #[.agg #[.int .i64 2,.int .i64 n,.string s]] w λe w'=>e=.returned (.bool (bY 2 n s))/\Below w.heap.size w w':=by
 have a:=J (show bY 2 n s=false by simp[bY,h]);have b:(n==0)=false:=by simpa using h
 have c:(n !=0)=true:=by simpa using h
 clear h
 go_enter func104,ntmps104
 go_wp2
 go_ret
 exact⟨by rw[a.out];rfl,(Below.refl _ _).alloc (Q3 _) _⟩
def DF(s:ByteArray)(w:World)(h:64<s.size):
  Calls prog 104 #[.agg #[.int .i64 2,.int .i64 0,.string s]] w λe w'=>e=.returned (.bool (bY 2 0 s))/\Below w.heap.size w w':=by
 have a:=J (show bY 2 0 s=false by simp[bY];omega)
 go_enter func104,ntmps104
 go_wp2
 go_ret
 exact⟨by rw[a.out];rfl,(Below.refl _ _).alloc (Q3 _) _⟩
def GM(s:ByteArray)(w:World)(h:s.size<=64):
  Calls prog 104 #[.agg #[.int .i64 2,.int .i64 0,.string s]] w λe w'=>e=.returned (.bool (bY 2 0 s))/\Below w.heap.size w w':=by
 have c:=J (show bY 2 0 s=s.data.toList.all qE by simp[bY,h])
 go_enter func104,ntmps104
 go_wp2
 go_loop [3] (λi=>∃k:Nat,k<=s.size/\(s.data.toList.take k).all qE=true/\i=.int .i64 k) (λi=>s.size-(intOf i).toNat)
 case atStart=>exact⟨0,Rg _,F,Z⟩
 case round=>
  obtain⟨k,m,a,rfl⟩:=hrel;have g:=J a;clear a;by_cases f:k<s.size
  ·have d:=J (pF s k f);by_cases j:32<=s[k].toNat
   ·by_cases l:s[k].toNat<=126
    ·have b:=J (show qE s[k]=true by simp[qE,j,l])
     go_wp2
     go_round
     case rel=>exact⟨k+1,O,by rw[d.out,g.out,b.out];rfl,by go_num⟩
     case measure=>simp[intOf];omega
    have b:=J (show s.data.toList.all qE=false from lz (k+1) (by rw[d.out];simp[qE,l]))
    go_wp2
    go_ret
    exact⟨by rw[c.out,b.out];rfl,(Below.refl _ _).alloc (Q3 _) _⟩
   have b:=J (show s.data.toList.all qE=false from lz (k+1) (by rw[d.out];simp[qE,j]))
   go_wp2
   go_ret
   exact⟨by rw[c.out,b.out];rfl,(Below.refl _ _).alloc (Q3 _) _⟩
  have b:=J (show s.data.toList.all qE=true by have:=g.out;rwa[Rf (by simp;omega)]at this)
  go_wp2
  go_ret
  exact⟨by rw[c.out,b.out];rfl,(Below.refl _ _).alloc (Q3 _) _⟩
def gd(t n:Int)(s:ByteArray)(w:World):
  Calls prog 104 #[.agg #[.int .i64 t,.int .i64 n,.string s]] w λe w'=>e=.returned (.bool (bY t n s))/\Below w.heap.size w w':=by
 by_cases b:t=1
 ·subst b;exact GK n s w
 by_cases c:t=2
 ·subst c;by_cases d:n=0
  ·subst d;rcases RE 64 s.size with a|a
   ·exact DF s w a
   exact GM s w a
  exact GL n s w d
 exact Bc t n s w b c
def md(n:Int):List UInt8:=(List.range 8).map λk=>UInt8.ofNat (((n+9223372036854775808).toNat/2^(56-8*k))%256)
def V.enc(v:V):List UInt8:=if v.t=2 then 2::(v.s.data.toList++[0])else 1::md v.n
def V.ok(v:V):Bool:=bY v.t v.n v.s
def eJ(l:List V):List UInt8:=l.flatMap V.enc
def Fv(a:Nat)(h:a<18446744073709551616):a^^^9223372036854775808=(a+9223372036854775808)%18446744073709551616:=by
 have b:(a^^^9223372036854775808)/2^63=(a/2^63)^^^(9223372036854775808/2^63):=Nat.xor_div_two_pow;have d:(a^^^9223372036854775808)%2^63=(a%2^63)^^^(9223372036854775808%2^63):=Nat.xor_mod_two_pow;have p:(2^63:Nat)=9223372036854775808:=I
 rw[p]at b d;have e:(9223372036854775808/9223372036854775808:Nat)=1:=I
 have f:(9223372036854775808%9223372036854775808:Nat)=0:=I
 rw[e]at b;rw[f,Nat.xor_zero]at d;have c:a/9223372036854775808=0\/a/9223372036854775808=1:=O
 rcases c with c|c<;>rw[c]at b
 ·have:(0^^^1:Nat)=1:=I
  rw[this]at b;omega
 have:(1^^^1:Nat)=0:=I
 rw[this]at b;omega
def xX(n:Int)(a: -9223372036854775808<=n)(b:n<=9223372036854775807):bits .xor .u64 (IntKind.u64.wrap n) 9223372036854775808=(((n+9223372036854775808).toNat:Nat):Int):=by
 rw[IntKind.wrap_u64];have e:n%18446744073709551616=((n%18446744073709551616).toNat:Int):=O
 have h:(n%18446744073709551616).toNat<18446744073709551616:=O
 rw[e];have:=u64_xor_nat (n%18446744073709551616).toNat 9223372036854775808 h I;rw[show((9223372036854775808:Nat):Int)=9223372036854775808 from rfl]at this;rw[this,Fv _ h];omega
def Jv(N e:Nat):((N:Int)/2^e%256)=(((UInt8.ofNat (N/2^e%256)).toNat:Nat):Int):=F
def xY(n:Int)(j:Nat)(b:j<8):(md n).take (j+1)=(md n).take j++[UInt8.ofNat ((n+9223372036854775808).toNat/2^(56-8*j)%256)]:=by
 have a:j<(md n).length:=by simp[md];omega
 rw[Rz a];simp[md]
def lA(n:Int):(md n).length=8:=by simp[md]
def Jw(l:List V)(k:Nat)(h:k<l.length):eJ (l.take (k+1))=eJ (l.take k)++l[k].enc:=by
 rw[Rz h,eJ,Ul];simp[eJ]
def Mm(l:List V)(k:Nat)(h:k<l.length):(l.take (k+1)).all V.ok=((l.take k).all V.ok&&l[k].ok):=by
 rw[Rz h,S9];simp
def Mn(l:List V)(w:World)(e:Ending)(w':World):Prop:=
 ∃v,e=.returned v/\(l.all V.ok=true->OwnB w' w.heap.size v (eJ l))/\(l.all V.ok=false->v=.slice none 0 0)/\Below w.heap.size w w'
def Jx(A:Option Addr)(cap:Nat)(l:List V)(w:World)(h:At w w.heap.size A (ep l))(hl:l.length<=65536)(hr:∀v∈l,-9223372036854775808<=v.n/\v.n<=9223372036854775807):
  Calls prog 52 #[.slice A l.length cap] w (Mn l w):=by
 have HRR:=J hr;clear hr
 go_enter func52,ntmps52
 go_wp2
 go_loopw [3,10] (λb i wr=>∃k:Nat,k<=l.length/\i=.int .i64 k/\(l.take k).all V.ok=true/\OwnB wr w.heap.size b (eJ (l.take k))/\(eJ (l.take k)).length<=67*k/\Below w.heap.size w wr) (λ_ i _=>l.length-(intOf i).toNat)
 case atStart=>exact⟨0,Rg _,Z,F,OwnB.nil _ _,by simp[eJ],Below.refl _ _⟩
 case round=>
  obtain⟨k,hk,rfl,hall,hown,hlen,hbw⟩:=hrel;have HA:=J hall;have HO:=J hown;have HB:=J hbw;have HAt:=J (h.below hbw);clear hall hown hbw h;by_cases hlt:k<l.length
  ·obtain⟨b',off,rfl,hb',c0,c1,c2⟩:=HAt.out.val hlt;have HS:=J (Jw l k hlt);have HK:=J (Mm l k hlt);obtain⟨v,hv⟩:∃v,l[k]=v:=⟨_,Z⟩;rw[hv]at c0 c1 c2;have HS:Hid (eJ (l.take (k+1))=eJ (l.take k)++v.enc):=by rw[<-hv];exact HS
   have HK:Hid ((l.take (k+1)).all V.ok=((l.take k).all V.ok&&v.ok)):=by rw[<-hv];exact HK
   have hrv: -9223372036854775808<=v.n/\v.n<=9223372036854775807:=HRR.out v (by rw[<-hv];exact R6 hlt);clear hv;obtain⟨t,n,s⟩:=v;obtain⟨hn0,hn1⟩:=hrv;simp only at hn0 hn1;obtain⟨W,hW,hb1,hg1,hz1⟩:=Dt wr 77 #[.int .i64 t,.int .i64 n,.string s];have HW:=J hW;have HB1:=J hb1;have HG1:=J hg1;have HZ:=J hz1;clear hW hb1 hg1 hz1;cases hok:bY t n s
   ·have hv:∀w:World,Calls prog 104 #[.agg #[.int .i64 t,.int .i64 n,.string s]] w λe w'=>e=.returned (.bool false)/\Below w.heap.size w w':=λw=>by
     have:=gd t n s w;rwa[hok]at this
    have HV:=J hv;have HOK:=J hok;clear hv hok
    go_wp2_with fail
    rw[HW.out];refine(HV.out _).mono ?_;rintro e w1 ⟨rfl,hb2⟩;have HB2:=J hb2;clear hb2
    go_wp2
    go_ret
    refine⟨_,Z,λhc=>?_,λ_=>rfl,aL (aL HB.out HB1.out HB.out.size) HB2.out (by rw[HZ.out];have:=HB.out.size;omega)⟩;have h1:(l.take (k+1)).all V.ok=true:=by
     rw[Rl]at hc⊢;exact λx hx=>hc x (RG hx)
    rw[HK.out,Q9]at h1;have h2:bY t n s=true:=h1.2;rw[HOK.out]at h2;cases h2
   have hv:∀w:World,Calls prog 104 #[.agg #[.int .i64 t,.int .i64 n,.string s]] w λe w'=>e=.returned (.bool true)/\Below w.heap.size w w':=λw=>by
    have:=gd t n s w;rwa[hok]at this
   have HV:=J hv;have HOK:=J hok;clear hv hok;by_cases ht:t=2
   ·subst ht
    go_wp2_with fail
    rw[HW.out];refine(HV.out _).mono ?_;rintro e w1 ⟨rfl,hb2⟩;have HB2:=J hb2;have HG2:=J (HG1.out.below hb2 HG1.out.lt);have HO2:=J ((HO.out.below HB1.out).below hb2);clear hb2;obtain⟨d0,d1,d2,_,_,_⟩:=HG2.out.three;have hwr:=HB.out.size;have hsz:w.heap.size<=w1.heap.size:=by have h1:=HB1.out.size;have h2:=HB2.out.size;omega
    have HF:=J (uz HO.out (Q3 _));have hs64:s.size<=64:=by have:=HOK.out;simp[bY]at this;omega
    have henc:V.enc ⟨2,n,s⟩=2::(s.data.toList++[0]):=by simp[V.enc]
    have HEN:=J henc;clear henc
    go_wp2_with (first
     |(at_builtin;refine qm w.heap.size u3 _ 2 2 (.tmp 17) (.tmp 21) Z Z Z Z HO2.out Z O hsz ?_;intro v3 w3 hown3 hgr3;have HO3:=J hown3;have HR3:=J hgr3;have HG3:=J (hgr3.blk HG2.out HF.out);have HF3:=J (hgr3.far _ HG2.out.lt HF.out);have hsz3:=Q7 hsz hgr3.size;clear d0 d1 d2 hown3 hgr3;obtain⟨d0,d1,d2,_,_,_⟩:=HG3.out.three)
     |(at_builtin;refine L8 w.heap.size v3 _ s (.tmp 26) (.tmp 28) Z Z Z Z HO3.out ?hlen hsz3 ?_;rotate_left;intro v4 w4 hown4 hgr4;have HO4:=J hown4;have HR4:=J hgr4;have hsz4:=Q7 hsz3 hgr4.size;clear d0 d1 d2 hown4 hgr4)
     |(at_builtin;refine qm w.heap.size v4 _ 0 0 (.tmp 30) (.tmp 31) Z Z Z Z HO4.out Z ?hlen2 hsz4 ?_;rotate_left;intro v5 w5 hown5 hgr5;have HO5:=J hown5;have HR5:=J hgr5;clear hown5 hgr5))
    case hlen=>simp;omega
    case hlen2=>simp;omega
    go_roundw
    case rel=>
     refine⟨k+1,O,by go_num,by rw[HK.out,HA.out];exact HOK.out,?_,?_,?_⟩
     ·have e:eJ (l.take (k+1))=eJ (l.take k)++[2]++s.data.toList++[0]:=by rw[HS.out,HEN.out];simp
      rw[e];exact HO5.out
     ·rw[HS.out,HEN.out];simp;omega
     exact(((aL (aL HB.out HB1.out hwr) HB2.out (by rw[HZ.out];omega)).trans HR3.out.below).trans HR4.out.below).trans HR5.out.below
    case measure=>simp[intOf];omega
   have ht1:t=1:=by
    have:=HOK.out;by_cases h1:t=1
    ·exact h1
    simp[bY,h1]at this;exact absurd this.1.1.1 ht
   subst ht1;clear ht
   go_wp2_with fail
   rw[HW.out];refine(HV.out _).mono ?_;rintro e w1 ⟨rfl,hb2⟩;have HB2:=J hb2;have HG2:=J (HG1.out.below hb2 HG1.out.lt);have HO2:=J ((HO.out.below HB1.out).below hb2);clear hb2;obtain⟨d0,d1,d2,_,_,_⟩:=HG2.out.three;have hwr:=HB.out.size;have hsz:w.heap.size<=w1.heap.size:=by have h1:=HB1.out.size;have h2:=HB2.out.size;omega
   have HF:=J (uz HO.out (Q3 _))
   go_wp2_with (at_builtin;refine qm w.heap.size u3 _ 1 1 (.tmp 17) (.tmp 21) Z Z Z Z HO2.out Z O hsz ?_;intro v3 w3 hown3 hgr3;have HO3:=J hown3;have HR3:=J hgr3;have HG3:=J (hgr3.blk HG2.out HF.out);have HF3:=J (hgr3.far _ HG2.out.lt HF.out);have hsz3:=Q7 hsz hgr3.size;clear d0 d1 d2 hown3 hgr3;obtain⟨d0,d1,d2,_,_,_⟩:=HG3.out.three)
   rw[xX n hn0 hn1];have HEN:=J (show V.enc ⟨1,n,s⟩=1::md n by simp[V.enc]);have HES:=J (xY n);have HBB:=J ((aL (aL HB.out HB1.out hwr) HB2.out (by rw[HZ.out];omega)).trans HR3.out.below);have hEL:=lA n;have hEL8:(md n).length<=8:=O
   clear hEL d0 d1 d2;generalize (n+9223372036854775808).toNat=N at HES⊢;obtain⟨wo,hwo⟩:∃wo:World,wo=wr:=⟨_,Z⟩;subst hwo
   go_loopw [3,7] (λb i w'=>∃j:Nat,j<=8/\i=.int .i64 (56-8*(j:Int))/\OwnB w' w.heap.size b (eJ (l.take k)++[1]++(md n).take j)/\w.heap.size<=w'.heap.size/\Below w.heap.size w w') (λ_ i _=>(intOf i+8).toNat)
   case atStart=>exact⟨0,O,F,by simpa using HO3.out,hsz3,HBB.out⟩
   case round=>
    obtain⟨j,hj,rfl,hown4,hsz4,hb4⟩:=hrel;have HO4:=J hown4;have HB4:=J hb4;clear hown4 hb4;by_cases hj8:j<8
    ·have htl:((md n).take j).length<=8:=by rw[Rb];omega
     have HEB:=J (Jv N (56-8*j))
     go_wp2_with (at_builtin;refine qm w.heap.size _ _ _ (UInt8.ofNat (N/2^(56-8*j)%256)) (.tmp 41) (.tmp 46) Z Z Z Z HO4.out HEB.out ?hlen3 hsz4 ?_;rotate_left;intro v5 w5 hown5 hgr5;have HO5:=J hown5;have HB5:=J hgr5.below;have hsz5:=Q7 hsz4 hgr5.size;clear hown5 hgr5)
     case hlen3=>simp at htl⊢;omega
     go_roundw
     case rel=>
      refine⟨j+1,O,by go_num,?_,hsz5,HB4.out.trans HB5.out⟩;rw[HES.out j hj8,<-RL];exact HO5.out
     case measure=>simp[intOf];omega
    obtain rfl:j=8:=O
    go_wp2
    go_roundw
    case rel=>
     refine⟨k+1,O,by go_num,by rw[HK.out,HA.out];exact HOK.out,?_,?_,HB4.out⟩
     ·have e:eJ (l.take (k+1))=eJ (l.take k)++[1]++(md n).take 8:=by
       rw[HS.out,HEN.out,Rf hEL8];simp
      rw[e];exact HO4.out
     rw[HS.out,HEN.out];simp;omega
    case measure=>simp[intOf];omega
  have HL:=J (show l.all V.ok=true by have:=HA.out;rwa[Rf O]at this)
  go_wp2
  go_ret
  refine⟨_,Z,λ_=>?_,λhc=>?_,HB.out⟩
  ·have:=HO.out;rwa[Rf O]at this
  rw[HL.out]at hc;cases hc
