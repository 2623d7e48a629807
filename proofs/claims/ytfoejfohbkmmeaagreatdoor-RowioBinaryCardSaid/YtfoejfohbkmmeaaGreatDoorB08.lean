import Derived.Test.YtfoejfohbkmmeaaGreatDoorB07
import Derived.Test.YtfoejfohbkmmeaaGreatDoorB00
import Derived.Test.YtfoejfohbkmmeaaGreatDoorB03
import Derived.Test.YtfoejfohbkmmeaaGreatDoorB06
import Derived.Laws.BitsLemmas
namespace Go.Proofs.YtfoejfohbkmmeaaGreatDoor
open Go.RowKit
open Lib renaming hid→J
theorem Gu{w:World}{base a:Nat}{e:TypeId}{size n:Nat}{v:Value}{xs:List Value}(h:w.ownsRow base e size v n xs)(d:a<=base):w.ownsRow a e size v n xs:=by
 obtain⟨f,k⟩:=h;refine⟨f,k.imp (fun h=>h) ?_⟩;rintro⟨g,b,cur,j,i,c⟩;exact⟨g,b,cur,j,Oq d i,c⟩
theorem yA{α:Type}(l:List α)(b:0<l.length):∀(m i:Nat),(List.replicate m l).flatten[i]? =if i<m*l.length then l[i%l.length]? else none
 |0,i=>by simp
 |m+1,i=>by
  rw[Q2,SQ,Pf,QF];rcases OS i l.length with h|h
  ·rw[OJ h,if_pos (by omega),OY h]
  rw[ON h,yA l b m (i-l.length),<-Nat.mod_eq_sub_mod h];by_cases a:i-l.length<m*l.length
  ·rw[if_pos a,if_pos (by omega)]
  rw[if_neg a,if_neg (by omega)]
theorem vv(z:Array Value)(a:0<z.size)(m:Nat):(madeCells z (m*z.size)).toList=(List.replicate m z.toList).flatten:=by
 apply QT;intro i;rw[yA z.toList (by simpa using a) m i];simp only[Po];by_cases h:i<m*z.size
 ·rw[if_pos h];have b:i%z.size<z.size:=Pe _ a;simp[madeCells,h,b]
 rw[if_neg h];simp[madeCells];omega
theorem Gv(W:World)(G:Nat->Prop){a:List Value}{zt:Tree}(h:zt.cells=a.map dN):∀m,PT W G (List.replicate m a).flatten (flat (List.replicate m zt))
 |0=>.nil
 |m+1=>by
  rw[Q2,Q2,SQ,eN,h];exact(oX W G a).append (Gv W G h m)
section
variable {w0:World} {G0:Bse} {S:St} {o:Oper}
theorem n6{bx:List Nat}{rv:List Value}{rs:List (Option Row)}{v:Value}{R:Row}(a:rv.length=rs.length)(b:Nat):b∈cl bx (rv++[v]) (rs++[some R])↔b∈cl bx rv rs\/v.ownBlock=some b:=by
 rw[aY,aY];constructor
 ·rintro(h|⟨j,u,X,c,e,d⟩)
  ·exact .inl (.inl h)
  rcases dt a j u X c e with⟨_,rfl,_⟩|⟨_,g,k⟩
  ·exact .inr d
  exact .inl (.inr ⟨j,u,X,g,k,d⟩)
 rintro((h|⟨j,u,X,c,e,d⟩)|h)
 ·exact .inl h
 ·have i:=(Ok.1 c).1;have f:=(Ok.1 e).1;exact .inr ⟨j,u,X,by rw[OJ i];exact c,by rw[OJ f];exact e,d⟩
 exact .inr ⟨rs.length,v,R,by rw[ON (by omega),a,Pb];rfl,by rw[ON (Oh _),Pb];rfl,h⟩
theorem Mem.addRow{w w':World}{bs:List (TypeId×List Tree)}{rs:List (Option Row)}{bx:List Nat}{rv:List Value}{v:Value}{R:Row}{xs:List Value}(h:Mem w0 G0 bs rs bx rv w)(m:Below w.heap.size w w')(I:w'.ownsRow w.heap.size R.e R.sz v R.es.length xs)(O:PT w' (fun b=>GG G0 bx rv rs b\/v.ownBlock=some b) xs (flat R.es))(B:Sized R.sz R.es/\(R.tt=true->ot v))(U:∀g,v.ownBlock=some g->NoDigB w' g):
  Mem w0 G0 bs (rs++[some R]) bx (rv++[v]) w'/\(∀us ts,FT (en w G0 bx rv rs) us ts->FT (en w' G0 bx (rv++[v]) (rs++[some R])) us ts):=by
 have c:=h.nr;have M:∀b,GG G0 bx (rv++[v]) (rs++[some R]) b↔(GG G0 bx rv rs b\/v.ownBlock=some b):=fun b=>by
  unfold GG;rw[n6 c,or_assoc]
 have a:∀b,v.ownBlock=some b->w.heap.size<=b:=fun b e=>(I.lt b e).1
 have f:∀b,b<w.heap.size->¬GG G0 bx rv rs b->w'.heap[b]? =w.heap[b]? /\¬GG G0 bx (rv++[v]) (rs++[some R]) b:=fun b C S=>⟨m.block b C,fun x=>by
  rcases(M b).1 x with d|d
  ·exact S d
  have:=a b d;omega⟩
 have E:∀j u,fN rv rs j=some u->fN (rv++[v]) (rs++[some R]) j=some u:=fun j u h=>by
  unfold fN at h⊢;cases y:rs[j]? with
  |none=>simp[y]at h
  |some r=>
   have N:=(Ok.1 y).1;rw[OJ N,OJ (by omega)];exact h
 have s:∀us ts,FT (en w G0 bx rv rs) us ts->FT (en w' G0 bx (rv++[v]) (rs++[some R])) us ts:=fun us ts T=>T.mono (E':=en w' G0 bx (rv++[v]) (rs++[some R])) m.size f (fun _ _ h=>h) E
 have P:=h.below.size;refine⟨⟨h.below.then m,h.env0,h.g0,h.nb,by simp[c],fun i g z=>?_,fun j u X d l=>?_,⟨h.nodup.bb,fun j u X b d l o L=>?_,fun i j u t X Y b q d l o k n p=>?_⟩,fun b D=>?_,h.pin⟩,s⟩
 ·obtain⟨ty,cs,us,d,l,o,k⟩:=h.box i g z;exact⟨ty,cs,us,d,l.below m l.lt,s _ _ o,k⟩
 ·rcases dt c j u X d l with⟨_,rfl,rfl⟩|⟨_,k,n⟩
  ·exact⟨xs,Gu I (OA _),by rw[show GG G0 bx (rv++[u]) (rs++[some X])=(fun b=>GG G0 bx rv rs b\/u.ownBlock=some b)from funext fun b=>propext (M b)];exact O,B,U⟩
  obtain⟨Z,p,W,V,Q⟩:=h.row j u X k n;exact⟨Z,d6 p m,W.mono m.size f,V,fun g x=>(Q g x).of (m.block g (p.lt g x).2)⟩
 ·rcases dt c j u X d l with⟨_,rfl,_⟩|⟨_,k,n⟩
  ·have G:=a b o;have J:=(h.ok b (.inr (aY.2 (.inl L)))).1;omega
  exact h.nodup.br j u X b k n o L
 ·rcases dt c i u X d l with⟨z,rfl,_⟩|⟨_,H,K⟩
  ·rcases dt c j t Y o k with⟨y,_,_⟩|⟨_,A,F⟩
   ·exact q (z.trans y.symm)
   have G:=a b n;have J:=(h.ok b (.inr (aY.2 (.inr ⟨j,t,Y,A,F,p⟩)))).1;omega
  rcases dt c j t Y o k with⟨_,rfl,_⟩|⟨_,A,F⟩
  ·have G:=a b p;have J:=(h.ok b (.inr (aY.2 (.inr ⟨i,u,X,H,K,n⟩)))).1;omega
  exact h.nodup.rr i j u t X Y b q H K A F n p
 rcases(n6 c b).1 D with d|d
 ·exact h.ge b d
 have:=a b d;exact .inl (by omega)
theorem lR{a:Act}{w':World}{bx:List Nat}{rv:List Value}{v:Value}{R:Row}{d:Nat}{S:St}(b:a.tmps.size=S.n)(g:a.defers=[])(k:cC S.n o.dst=true)(e:rv.length=S.rs.length)(l:Mem w0 G0 S.bs (S.rs++[some R]) bx (rv++[v]) w')(j:∃A n c,v=.slice A n c)(f:∀i,FT (en w' G0 bx (rv++[v]) (S.rs++[some R])) [a.tmps.getD i undef] [S.get i])(h:S.rs.length=d):
  Sim w0 G0 ({S with rs:=S.rs++[some R]}.put o.dst (.own d)) (a.put o.dst v) w':=by
 subst h;refine⟨bx,rv++[v],by rw[dE,bZ];exact l,by rw[dW,ee];exact b,by rw[cU,g],fun i=>?_⟩;rw[bZ];rw[gf a o.dst v S.n b k,cV];split
 ·obtain⟨A,n,c,rfl⟩:=j;refine .own _ n c A ?_ .nil;show fN (rv++[_]) (S.rs++[some R]) S.rs.length=_
  unfold fN;rw[ON (Oh _),Pb,ON (by omega),e,Pb];rfl
 exact f i
def CtO(f:FuncId)(args:List Tree)(e sz:Nat)(es:List Tree):Prop:=(∃fn,Tryz.prog.funcs[f]? =some fn/\(fn.name== "runtime.NumGoroutine")=false/\fn.body.isNone=false)/\∀(G:Nat->Prop) (w:World) (vs:List Value),Env w->(∀g,G g->g<w.heap.size/\NoDigB w g)->PT w G vs args->
 Calls Tryz.prog f vs.toArray w fun x w'=>∃v xs,x=.returned v/\w'.ownsRow w.heap.size e sz v es.length xs/\PT w' (fun b=>G b\/v.ownBlock=some b) xs (flat es)/\Sized sz es/\(∀g,v.ownBlock=some g->NoDigB w' g)/\Below w.heap.size w w'
theorem yB{f:FuncId}{xs:Array Operand}{m:Array TypeId}{ts es:List Tree}{e sz:Nat}(p:o.op=.call {callee:=.value (.func f),args:=xs,argTypes:=m})(J:cC S.n o.dst=true)(l:CtO f ts e sz es)(B:xs.toList.map S.ev=ts)(O:ts.all Tree.plain=true):lL w0 G0 o S ({S with rs:=S.rs++[some (⟨e,sz,es,false⟩:Row)]}.put o.dst (.own S.rs.length)):=by
 rintro a w ⟨bx,rv,d,g,j,b⟩;have q:=kg (E:=en w G0 bx rv S.rs) (T:=fun s=>a.tmps.getD s undef) (op:=o.op) (S:=S) (fun s _=>b s) xs.toList (fun x z=>by rw[p];simp only[Op.operands,Call.operands];simp;exact .inr (by simpa using z));rw[B]at q;obtain⟨⟨u,P,K,t⟩,l⟩:=l;have k:=l (GG G0 bx rv S.rs) w _ d.env d.ok (q.plains O);refine cP (f:=f) (args:=(xs.toList.map (dm fun s=>a.tmps.getD s undef)).toArray) ?_ (k.mono ?_)
 ·have C:¬u.name= "runtime.NumGoroutine" :=by simpa using K
  have G:¬u.body=none:=fun e=>by rw[e]at t;cases t
  have L:(xs.toList.map (dm fun s=>a.tmps.getD s undef)).toArray=xs.map (dm fun s=>a.tmps.getD s undef):=Q6 (by simp);rw[L];simp[execOp,p,resolve,dm,Deferred.ofValue,invoke,callFunc,P,C,G]
 rintro x w' ⟨v,Q,rfl,r,y,D,N,H⟩;obtain⟨F,M⟩:=d.addRow (R:=⟨e,sz,es,false⟩) H r y ⟨D,fun h=>by cases h⟩ N;obtain⟨A,c,I⟩:=bX r;exact⟨v,Z,lR g j J d.nr F ⟨A,_,c,I⟩ (fun i=>M [_] [_] (b i)) Z⟩
theorem Dp{t e:TypeId}{x y:Operand}{m sz b:Nat}{H:List Value}{kl kc:IntKind}{il ic:Int}{zt:Tree}(E:o.op=.makeSlice t x y)(hd:cC S.n o.dst=true)(ht:jP Tryz.prog t=some (e,sz,b))(U:gJ Tryz.prog e=some H)(B:S.ev x=.sc (.int kl il))(hy:S.ev y=.sc (.int kc ic))(V:il=m)(C:ic=m)(j:zt.cells=H.map dN)(hm:m<=1073741824)(L:Nat.ble b 100000=true):lL w0 G0 o S ({S with rs:=S.rs++[some (⟨e,sz,List.replicate m zt,true⟩:Row)]}.put o.dst (.own S.rs.length)):=by
 rintro a w ⟨bx,rv,k,D,J,h⟩;have e1:=(bH (op:=o.op) (T:=fun s=>a.tmps.getD s undef) (S:=S) (fun s _=>h s) B (by rw[E];simp[Op.operands])).isSc;have e2:=(bH (op:=o.op) (T:=fun s=>a.tmps.getD s undef) (S:=S) (fun s _=>h s) hy (by rw[E];simp[Op.operands])).isSc;generalize (fun s=>a.tmps.getD s undef)=T at e1 e2⊢;obtain⟨I,⟨i,z,Y,p,Q,M,W,N⟩,a0⟩:=o7 ht;have K:H=z.cells.toList:=by
  unfold gJ at U;simp only[QJ,Ps]at U;obtain⟨i',q,z',f,rfl⟩:=U;rw[Y]at q;cases q;rw[p]at f;cases f;rfl
 subst V C K W;have G:b<=100000:=by simpa using L
 have X:m*b<=1073741824*100000:=Qr hm G;have hr:=run_make (P:=Tryz.prog) w t e i z I Y p kl kc m m (by omega) (Int.le_refl _) (by
  rw[M];have:(b:Int)*(m:Int)=((m*b:Nat):Int):=by rw[RL,Int.mul_comm]
  rw[this];omega) (by omega)
 rw[QI,Q]at hr;have d:=World.ownsRow_lit (base:=w.heap.size) (e:=e) (size:=z.cells.size) w (madeCells z.cells (m*z.cells.size)) m (Oh _) (by simp only[maxLen];omega) (size_madeCells _ _);rw[vv z.cells (by omega) m]at d;have hb:Below w.heap.size w (w.alloc (.cells (madeCells z.cells (m*z.cells.size)) e)):=(Below.refl _ _).alloc (Oh _) _;have O:∀g,(Value.slice (some ⟨w.heap.size,0,none⟩) m m).ownBlock=some g->NoDigB (w.alloc (.cells (madeCells z.cells (m*z.cells.size)) e)) g:=fun g F=>by
  injection F with F
  subst F;refine cD (heap_alloc_new w _) ?_;rw[vv z.cells (by omega) m];refine OD.2 fun u I=>?_
  obtain⟨l,hl,r⟩:=List.mem_flatten.1 I;rw[(Rr.1 hl).2]at r;exact OD.1 N u r
 obtain⟨m1,m2⟩:=k.addRow (R:=⟨e,z.cells.size,List.replicate m zt,true⟩) (v:=.slice (some ⟨w.heap.size,0,none⟩) m m) hb (by rw[QE];exact d) (Gv _ _ j m) ⟨fun x B=>by
  rw[(Rr.1 B).2,j,Ol,Po],fun _ A n c e=>by cases e;rfl⟩ O
 refine aB (v:=.slice (some ⟨w.heap.size,0,none⟩) m m) (W':=w.alloc (.cells (madeCells z.cells (m*z.cells.size)) e)) ?_ (lR D J hd k.nr m1 ⟨_,_,_,Z⟩ (fun i=>m2 [_] [_] (h i)) Z);simp[execOp,E,e1,e2,hr]
theorem Bo{ops:Array Oper}{a:List Oper}{Q:Exit->St->Prop}{n d k:Nat}{sl:List (Nat×Tree)}{bs:List (TypeId×List Tree)}{rs rs':List (Option Row)}{t e:TypeId}{x y:Operand}{m sz b:Nat}{j:List Value}{C E:IntKind}{q p:Int}{zt:Tree}(w:o.op=.makeSlice t x y)(z:o.guard=none)(l:o.dst=some d)(u:Nat.blt d n=true)(s:jP Tryz.prog t=some (e,sz,b))(D:gJ Tryz.prog e=some j)(r:St.ev ⟨n,sl,bs,rs⟩ x=.sc (.int C q))(v:St.ev ⟨n,sl,bs,rs⟩ y=.sc (.int E p))(i:q=m)(f:p=m)(c:zt.cells=j.map dN)(B:m<=1073741824)(g:Nat.ble b 100000=true)(A:rs.length=k)(h:rs++[some ⟨e,sz,List.replicate m zt,true⟩]=rs')(K:AOps w0 G0 ops a Q ⟨n,(d,.own k)::sl,bs,rs'⟩):AOps w0 G0 ops (o::a) Q ⟨n,sl,bs,rs⟩:=by
 subst A h;refine dF z (Dp (S:=⟨n,sl,bs,rs⟩) w (by rw[l];simpa[cC,Pn]using u) s D r v i f c B g) ?_;rw[l];exact K
theorem oz{ops:Array Oper}{a:List Oper}{Q:Exit->St->Prop}{n d k:Nat}{sl:List (Nat×Tree)}{bs:List (TypeId×List Tree)}{rs rs':List (Option Row)}{f:FuncId}{xs:Array Operand}{c:Array TypeId}{ts es:List Tree}{e sz:Nat}(h:o.op=.call {callee:=.value (.func f),args:=xs,argTypes:=c})(i:o.guard=none)(g:o.dst=some d)(q:Nat.blt d n=true)(p:CtO f ts e sz es)(m:xs.toList.map (St.ev ⟨n,sl,bs,rs⟩)=ts)(j:ts.all Tree.plain=true)(l:rs.length=k)(b:rs++[some ⟨e,sz,es,false⟩]=rs')(K:AOps w0 G0 ops a Q ⟨n,(d,.own k)::sl,bs,rs'⟩):AOps w0 G0 ops (o::a) Q ⟨n,sl,bs,rs⟩:=by
 subst l b;refine dF i (yB (S:=⟨n,sl,bs,rs⟩) h (by rw[g];simpa[cC,Pn]using q) p m j) ?_;rw[g];exact K
theorem jS{ops:Array Oper}{a:List Oper}{Q:Exit->St->Prop}{n:Nat}{sl:List (Nat×Tree)}{bs:List (TypeId×List Tree)}{rs rs':List (Option Row)}{ty:TypeId}{x y:Operand}{k off j:Nat}{R:Row}{t:Tree}(g:o.op=.store ty x y)(h:o.guard=none)(c:o.dst=none)(l:St.ev ⟨n,sl,bs,rs⟩ x=.elp k off)(r:rs[k]? =some (some R))(b:off=j*R.sz)(s:j<R.es.length)(q:St.ev ⟨n,sl,bs,rs⟩ y=t)(m:t.oneA=true)(v:t.cells.all Tree.one=true)(p:t.cells.all Tree.noDig=true)(i:t.cells.all Tree.plain0=true)(u:(Tryz.prog.info? ty).map (·.size)=some R.sz)(f:t.cells.length=R.sz)(d:rs.set k (some ⟨R.e,R.sz,R.es.set j t,R.tt⟩)=rs')(K:AOps w0 G0 ops a Q ⟨n,sl,bs,rs'⟩):AOps w0 G0 ops (o::a) Q ⟨n,sl,bs,rs⟩:=by
 subst d;exact dF h (pe (S:=⟨n,sl,bs,rs⟩) g c l r b s q m v p i u f) K
def MM(s:Nat)(e sz:Nat)(es:List Tree)(x:Exit)(S:St):Prop:=(x=.normal\/x=.ret)/\∃k tt,S.get s=.own k/\S.rs[k]? =some (some ⟨e,sz,es,tt⟩)
theorem CtO.of{f:FuncId}{d:Func}{c:Code}{args es:List Tree}{e sz n s:Nat}(I:Tryz.prog.funcs[f]? =some d)(F:d.body=some c)(q:(d.name== "runtime.NumGoroutine")=false)(U:d.ntmps=n)(E:Nat.ble args.length n=true)(Q:d.results.toList=[.tmp s])
  (h:∀w0 G0,AWP w0 (pln G0) c (MM s e sz es) ⟨n,g8 0 args,[],[]⟩):CtO f args e sz es:=by
 refine⟨⟨d,I,q,by rw[F];rfl⟩,fun G w vs P S L=>?_⟩;have K:=L.length;have E:args.length<=n:=by simpa using E
 refine calls_of_wp I F (wp_mono (h w G _ w ⟨[],[],ny P S,?_,Z,fun i=>?_⟩) ?_)
 ·simp;omega
 ·show FT _ _ [look (g8 0 args) i]
  rw[jD,if_pos (OA _),Q0];cases N:args[i]? with
  |none=>exact .any _ .nil
  |some t=>
   obtain⟨u,H,A⟩:=L.get i t N;have M:=(Ok.1 H).1;have O:(vs.toArray++Array.replicate (d.ntmps-vs.toArray.size) undef).getD i undef=u:=by
    rw[O7,Qh (by simpa using M),PY,H];rfl
   rw[O];refine .pure (A.mono (Oh _) fun b _ j=>⟨Z,fun h=>?_⟩) .nil;rcases h with h|h
   ·exact j h
   simp[cl]at h
 rintro x a w' ⟨S',⟨R,k,V,T,y⟩,bx,rv,p,_,z,r⟩;obtain⟨us,o,m⟩:=gk p r (Q▸(.cons T .nil:ResL S' [.tmp s] [.own k]));obtain⟨u,rfl⟩:∃u,us=[u]:=by
  match us,m with
  |[u],_=>exact⟨u,Z⟩
  |[],h=>cases h
  |u::u'::us,h=>have:=h.length;simp at this
 obtain⟨J,xs,l,D,B,C⟩:=g7 p y m;have key:a.defers=[]/\∃v,(results d a.tmps).run Tryz.prog w'=.ok v w'/\(fun x w'=>∃v xs,x=Ending.returned v/\w'.ownsRow w.heap.size e sz v es.length xs/\PT w' (fun b=>G b\/v.ownBlock=some b) xs (flat es)/\Sized sz es/\(∀g,v.ownBlock=some g->NoDigB w' g)/\Below w.heap.size w w') (.returned v) w':=by
  refine⟨z,u,?_,_,xs,Z,p.ownP J y l,?_,B.1,C,p.below.below⟩
  ·unfold results;rw[Sem.run_bind,P2,Sem.run_map];exact congrArg (fun x:Result (List Value)=>(x.andThen fun a w'=>Result.ok a.toArray w').andThen fun a w'=>Sem.run Tryz.prog (pure (if h:a.size=1 then a[0]else Value.tuple a)) w') o
  refine D.mono (Oh _) fun b _ j=>⟨Z,fun h=>j ?_⟩
  rcases h with h|h
  ·exact .inl h
  exact .inr (aY.2 (.inr ⟨k,_,_,J,y,h⟩))
 rcases R with rfl|rfl
 ·exact key
 exact key
end
def n7(k:Nat)(es:List Tree):Tree->Tree
 | .own j=>if j=k then .tl es else .own j
 | .elp j off=>if j=k then .any else .elp j off
 | .agg _| .tup _=>.any
 |t=>t
def Gw(k:Nat)(es:List Tree):Tree->Tree
 | .agg cs=>.agg (cs.map (n7 k es))
 |t=>n7 k es t
section
variable {w0 w:World} {G0:Bse} {bs:List (TypeId×List Tree)} {rs:List (Option Row)} {bx:List Nat} {rv:List Value} {k:Nat} {R:Row} {v:Value}
theorem Gx(b:Mem w0 G0 bs rs bx rv w)(a:rs[k]? =some (some R))(f:R.tt=true)(h:fN rv rs k=some v):PT w (GG G0 bx rv (rs.set k none)) [v] [.tl R.es]:=by
 have d:=Dl b a h;have g:rv[k]? =some v:=by simpa[fN,a]using h
 obtain⟨xs,i,_,e,_⟩:=b.row k v R g a;obtain⟨A,c,rfl⟩:=bX i;have:=e.2 f A _ c Z;subst this;exact .tl A _ R.es Z d .nil
theorem yC(f:Mem w0 G0 bs rs bx rv w)(d:rs[k]? =some (some R))(a:R.tt=true){u:Value}{t:Tree}(h:FT (en w G0 bx rv rs) [u] [t]):FT (en w G0 bx rv (rs.set k none)) [u] [n7 k R.es t]:=by
 cases h with
 |pure h _=>
  cases t<;>first
   |exact .pure (h.mono (Oh _) m0) .nil
   |(simp only[n7];exact .any _ .nil)
   |(cases h)
 |any=>exact .any _ .nil
 |box b off g h _=>exact .box b off g h .nil
 |own j n c A hv _=>
  simp only[n7];split
  ·next e=>subst e;exact .pure (Gx f d a hv) .nil
  next e=>exact .own j n c A (xv j _ e hv) .nil
 |elp j off g n c hv _=>
  simp only[n7];split
  ·exact .any _ .nil
  next e=>exact .elp j off g n c (xv j _ e hv) .nil
 |agg=>exact .any _ .nil
 |tup=>exact .any _ .nil
theorem qL(c:Mem w0 G0 bs rs bx rv w)(b:rs[k]? =some (some R))(a:R.tt=true):∀{us:List Value} {ts:List Tree},FT (en w G0 bx rv rs) us ts->FT (en w G0 bx rv (rs.set k none)) us (ts.map (n7 k R.es))
 |[],[],_=>.nil
 |[],_::_,h=>by cases h
 |_::_,[],h=>by cases h
 |u::us,t::ts,h=>FT.cons (yC c b a h.head) (qL c b a h.tail)
theorem JL(c:Mem w0 G0 bs rs bx rv w)(b:rs[k]? =some (some R))(a:R.tt=true){u:Value}{t:Tree}(h:FT (en w G0 bx rv rs) [u] [t]):FT (en w G0 bx rv (rs.set k none)) [u] [Gw k R.es t]:=by
 cases t with
 |agg cs=>
  obtain⟨xs,rfl,d⟩:=h.isAgg;exact .agg xs _ (qL c b a d) .nil
 |_=>exact yC c b a h
end
section
variable {w0:World} {G0:Bse} {ops:Array Oper} {rest:List Oper} {Q:Exit->St->Prop} {o:Oper} {n:Nat} {sl:List (Nat×Tree)} {bs:List (TypeId×List Tree)} {rs:List (Option Row)} {S:St}
theorem Sim.relU{a:Act}{w:World}{k:Nat}{R:Row}(h:Sim w0 G0 ⟨n,sl,bs,rs⟩ a w)(s:rs[k]? =some (some R))(r:R.tt=true):Sim w0 G0 ⟨n,sl.map fun p=>(p.1,Gw k R.es p.2),bs.map fun p=>(p.1,p.2.map (n7 k R.es)),rs.set k none⟩ a w:=by
 obtain⟨bx,rv,c,A,q,o⟩:=h;refine⟨bx,rv,⟨c.below,c.env0,c.g0,by simp[c.nb],by simp[c.nr],fun i g t=>?_,fun j u X d e=>?_,⟨c.nodup.bb,fun j u X b d e=>c.nodup.br j u X b d (iZ j X e).2,fun i j u v X Y b m d e f l=>c.nodup.rr i j u v X Y b m d (iZ i X e).2 f (iZ j Y l).2⟩,fun b x=>c.ge b (ow x),c.pin⟩,A,q,fun i=>?_⟩
 ·obtain⟨ty,cs,us,d,e,f,l⟩:=c.box i g t;exact⟨ty,cs.map (n7 k R.es),us,by rw[O2,d];rfl,e,qL c s r f,l⟩
 ·obtain⟨xs,f,l,z,y⟩:=c.row j u X d (iZ j X e).2;exact⟨xs,f,l.mono (Oh _) m0,z,y⟩
 show FT _ _ [look (sl.map fun p=>(p.1,Gw k R.es p.2)) i]
 rw[jO (Gw k R.es) Z];exact JL c s r (o i)
theorem Gy{c:Code}(k:Nat){R:Row}{sl':List (Nat×Tree)}{bs':List (TypeId×List Tree)}{rs':List (Option Row)}(g:rs[k]? =some (some R))(f:R.tt=true)(d:sl.map (fun p=>(p.1,Gw k R.es p.2))=sl')(b:bs.map (fun p=>(p.1,p.2.map (n7 k R.es)))=bs')(e:rs.set k none=rs')(h:AWP w0 G0 c Q ⟨n,sl',bs',rs'⟩):AWP w0 G0 c Q ⟨n,sl,bs,rs⟩:=by
 subst d b e;exact fun a w i=>h a w (i.relU g f)
end
def sU(m:Nat):Tree->Tree
 | .box b off=>if b=m then .box (m+1) off else if b=m+1 then .box m off else .box b off
 | .agg _| .tup _=>.any
 |t=>t
def LK(m:Nat):Tree->Tree
 | .agg cs=>.agg (cs.map (sU m))
 |t=>sU m t
section
variable {w0 w:World} {G0:Bse} {bs:List (TypeId×List Tree)} {rs:List (Option Row)} {bx:List Nat} {rv:List Value} {g1 g2:Nat}
theorem LL{α:Type}{l:List α}{x y z:α}{i m:Nat}(c:l.length=m)(h:(l++[x,y])[i]? =some z):(i=m/\z=x)\/(i=m+1/\z=y)\/(i<m/\l[i]? =some z):=by
 subst c;rcases OS i l.length with a|a
 ·rw[OJ a]at h;exact .inr (.inr ⟨a,h⟩)
 rw[ON a]at h;have d:=(Ok.1 h).1;simp only[Oi,Ou]at d;have:i-l.length=0\/i-l.length=1:=by omega
 rcases this with b|b<;>rw[b]at h<;>simp at h
 ·exact .inl ⟨by omega,h.symm⟩
 exact .inr (.inl ⟨by omega,h.symm⟩)
theorem Gz{α:Type}{l:List α}{x y z:α}{i m:Nat}(a:l.length=m)(h:(l++[x,y])[i]? =some z):(l++[y,x])[if i=m then m+1 else if i=m+1 then m else i]? =some z:=by
 rcases LL a h with⟨rfl,rfl⟩|⟨rfl,rfl⟩|⟨c,b⟩
 ·rw[if_pos Z,ON (by omega),show i+1-l.length=1 by omega];rfl
 ·rw[if_neg (by omega),if_pos Z,ON (by omega),show m-l.length=0 by omega];rfl
 rw[if_neg (by omega),if_neg (by omega),OJ (by omega)];exact b
theorem qM(b:Nat):b∈cl (bx++[g2,g1]) rv rs↔b∈cl (bx++[g1,g2]) rv rs:=by
 rw[aY,aY];refine or_congr ?_ Rh;simp only[OZ,OC,Qf,or_false];constructor<;>(rintro(h|h|h)<;>simp[h])
theorem GA{m:Nat}(f:bx.length=m){u:Value}{t:Tree}(h:FT (en w G0 (bx++[g1,g2]) rv rs) [u] [t]):FT (en w G0 (bx++[g2,g1]) rv rs) [u] [sU m t]:=by
 have i:GG G0 (bx++[g2,g1]) rv rs=GG G0 (bx++[g1,g2]) rv rs:=funext fun b=>propext (or_congr Rh (qM b))
 cases h with
 |pure h _=>
  have k:PT (en w G0 (bx++[g2,g1]) rv rs).W (en w G0 (bx++[g2,g1]) rv rs).G [u] [t]:=by
   show PT w (GG G0 (bx++[g2,g1]) rv rs) [u] [t]
   rw[i];exact h
  cases t<;>first
   |exact .pure k .nil
   |(simp only[sU];exact .any _ .nil)
   |(cases h)
 |any=>exact .any _ .nil
 |box b off g h _=>
  have h:(bx++[g1,g2])[b]? =some g:=h;have a:=Gz f h;simp only[sU];by_cases d:b=m
  ·rw[if_pos d]at a⊢;exact .box _ off g a .nil
  by_cases e:b=m+1
  ·rw[if_neg d,if_pos e]at a⊢;exact .box _ off g a .nil
  rw[if_neg d,if_neg e]at a⊢;exact .box _ off g a .nil
 |own j n c A hv _=>exact .own j n c A hv .nil
 |elp j off g n c hv _=>exact .elp j off g n c hv .nil
 |agg=>exact .any _ .nil
 |tup=>exact .any _ .nil
theorem xx{m:Nat}(a:bx.length=m):∀{us:List Value} {ts:List Tree},FT (en w G0 (bx++[g1,g2]) rv rs) us ts->FT (en w G0 (bx++[g2,g1]) rv rs) us (ts.map (sU m))
 |[],[],_=>.nil
 |[],_::_,h=>by cases h
 |_::_,[],h=>by cases h
 |u::us,t::ts,h=>FT.cons (GA a h.head) (xx a h.tail)
theorem MN{m:Nat}(a:bx.length=m){u:Value}{t:Tree}(h:FT (en w G0 (bx++[g1,g2]) rv rs) [u] [t]):FT (en w G0 (bx++[g2,g1]) rv rs) [u] [LK m t]:=by
 cases t with
 |agg cs=>
  obtain⟨xs,rfl,b⟩:=h.isAgg;exact .agg xs _ (xx a b) .nil
 |_=>exact GA a h
theorem LM{S S':St}{a:Act}{m:Nat}{p:List (TypeId×List Tree)}{x y:TypeId×List Tree}(h:Sim w0 G0 S a w)(I:p.length=m)(K:S.bs=p++[x,y])(M:S'.n=S.n)(u:S'.bs=(p++[y,x]).map fun q=>(q.1,q.2.map (sU m)))(f:S'.rs=S.rs)(P:∀s,S'.get s=LK m (S.get s))(O:G0.pn<=m):Sim w0 G0 S' a w:=by
 obtain⟨bx,rv,c,C,H,D⟩:=h;have N:bx.length=m+2:=by rw[c.nb,K];simp[I]
 obtain⟨l,g1,g2,rfl,z⟩:∃l g1 g2,bx=l++[g1,g2]/\l.length=m:=by
  refine⟨bx.take m,bx[m],bx[m+1],?_,by simp;omega⟩;conv=>lhs;rw[<-Pz m bx]
  congr 1;rw[Ow (by omega),Ow (by omega),Ov (by omega)]
 refine⟨l++[g2,g1],rv,⟨c.below,c.env0,c.g0,by rw[u];simp[z,I],by rw[f];exact c.nr,fun i g B=>?_,fun k v R F r=>?_,⟨?_,fun k v R b F r d j=>?_,by rw[f];exact c.nodup.rr⟩,fun b d=>?_,fun i B=>by have o:=c.pin i B;rw[OJ (by omega)]at o⊢;exact o⟩,by rw[M];exact C,H,fun i=>?_⟩
 ·obtain⟨ty,cs,us,o,G,J,E⟩:=c.box _ g (Gz z B);rw[K]at o;have L:=Gz I o;have e:(if(if i=m then m+1 else if i=m+1 then m else i)=m then m+1 else if(if i=m then m+1 else if i=m+1 then m else i)=m+1 then m else(if i=m then m+1 else if i=m+1 then m else i))=i:=by
   by_cases t:i=m
   ·rw[if_pos t,if_neg (by omega),if_pos Z,t]
   by_cases A:i=m+1
   ·rw[if_neg t,if_pos A,if_pos Z,A]
   rw[if_neg t,if_neg A,if_neg t,if_neg A]
  rw[e]at L;refine⟨ty,cs.map (sU m),us,by rw[u,O2,L];rfl,G,?_,E⟩;rw[f];exact xx z J
 ·rw[f]at r;obtain⟨xs,o,G,J,E⟩:=c.row k v R F r;refine⟨xs,o,?_,J,E⟩;rw[f,show GG G0 (l++[g2,g1]) rv S.rs=GG G0 (l++[g1,g2]) rv S.rs from funext fun b=>propext (or_congr Rh (qM b))];exact G
 ·have:=c.nodup.bb;refine this.perm<|List.Perm.append_left l (List.Perm.swap g2 g1 [])
 ·rw[f]at r;refine c.nodup.br k v R b F r d ?_;simp only[OZ,OC,Qf,or_false]at j⊢;rcases j with h|h|h
  ·exact .inl h
  ·exact .inr (.inr h)
  exact .inr (.inl h)
 ·rw[f]at d;exact c.ge b ((qM b).1 d)
 rw[f,P];exact MN z (D i)
end
theorem Bp{k:Nat}{o:Oper}{n d b:Nat}{sl:List (Nat×Tree)}{p bs':List (TypeId×List Tree)}{y:TypeId×List Tree}{rs:List (Option Row)}{ty:TypeId}{e:List Value}{cs:List Tree}(m:o.op=.alloc ty)(i:o.dst=some d)(B:Nat.blt d n=true)(r:gJ Tryz.prog ty=some e)(A:e.all bG=true)(x:e.map dN=cs)(t:p.length=b)(c:((p++[(ty,cs),y]).map fun q=>(q.1,q.2.map (sU b)))=bs')(f:k<=b:=by first|exact OA _|exact Nat.le_of_ble_eq_true Z):uY k o ⟨n,sl,p++[y],rs⟩ (LK b) (.box b 0) bs' rs:=by
 subst x t c;intro w0 G0 S u l g j C;dsimp only at l g j;have c:S.bs++[(ty,e.map dN)]=p++[y,(ty,e.map dN)]:=by rw[g];simp
 refine⟨⟨S.n,(d,.box p.length 0)::S.sl.map (fun q=>(q.1,LK p.length q.2)),(p++[(ty,e.map dN),y]).map fun q=>(q.1,q.2.map (sU p.length)),S.rs⟩,?_,Z,Z,j,fun s=>?_⟩
 ·intro a w z;refine OpRuns.mono (sN (S:=S) m (by rw[i,l];simpa[cC,Pn]using B) r A a w z) fun v W h=>?_
  refine LM h Z (by rw[dE];exact c) (by rw[ee]) Z (by rw[bZ]) (fun s=>?_) (by rw[u];exact f);rw[cV,i];show look ((d,Tree.box p.length 0)::_) s=_
  rw[dD,jO _ Z];simp only[OI];split
  ·have:S.bs.length=p.length+1:=by rw[g];simp
   show _=LK _ (Tree.box S.bs.length 0)
   rw[this];simp[LK,sU]
  rfl
 show look ((d,Tree.box p.length 0)::_) s=_
 rw[dD,jO _ Z,i];simp only[OI];rfl
section
variable {w0:World} {G0:Bse} {S:St} {o:Oper}
theorem m5{W:World}{G:Nat->Prop}:∀{l:List UInt8} {xs:List Value},PT W G xs (am l)->xs=bL l
 |[],xs,h=>by cases h;rfl
 |_::l,xs,h=>by
  cases h with
  |sc v h=>rw[m5 (l:=l) h];rfl
theorem vw{W:World}{G:Nat->Prop}{v:Value}{l:List UInt8}(h:PT W G [v] [.sl (am l)]):∃A c,v=.slice A l.length c/\At W W.heap.size A (bL l):=by
 obtain⟨A,c,d,j,k,m,e⟩:=PT.slice h;rw[aC]at d j e;refine⟨A,c,d,fun g=>?_⟩;obtain⟨b,off,xs,rfl,f,_,i,a⟩:=e (by rwa[fw]at g);rw[jN]at a;rw[<-m5 a];exact⟨b,off,Z,f,i⟩
theorem gM{x:Operand}{l:List UInt8}(a:o.op=.convert 22 9 x)(e:S.ev x=.sl (am l)):OpOK o S (.sc (.string ⟨l.toArray⟩)):=by
 intro w0 G0 bx rv w T h f;obtain⟨A,c,d,g⟩:=vw (bH f e (by rw[a];simp[Op.operands])).isSl;refine aB (v:=.string ⟨l.toArray⟩) (W':=w) ?_ ⟨.pure (.sc _ .nil) .nil,Below.refl _ _⟩;have b:=Dd c g;simp only[en]at b;simp[execOp,a,d,b]
theorem sV{x y:Operand}{t u e:TypeId}{k:Nat}{R:Row}{s:ByteArray}(D:o.op=.call {callee:=.builtin .append,args:=#[x,y],argTypes:=#[t,u]})(hd:cC S.n o.dst=true)(Z:jP Tryz.prog t=some (R.e,R.sz,1))(V:(Tryz.prog.info? R.e).bind (·.zero)=some (.int .u8 0))(hu:Tryz.prog.underlying u=some .string)(Y:S.ev x=.own k)(B:S.rs[k]? =some (some R))(hy:S.ev y=sT s)(L:R.sz=1)(h3:R.es.length+s.size<=1073741824):
  lL w0 G0 o S ({S.kill k with rs:=S.rs.set k (some (⟨R.e,R.sz,R.es++am s.data.toList,false⟩:Row))}.put o.dst (.own k)):=by
 rintro a w ⟨bx,rv,U,C,F,f⟩;have W:=bH (op:=o.op) (T:=fun s=>a.tmps.getD s undef) (S:=S) (fun s _=>f s) Y (by rw[D];simp[Op.operands,Call.operands]);have X:=(bH (op:=o.op) (T:=fun s=>a.tmps.getD s undef) (S:=S) (fun s _=>f s) hy (by rw[D];simp[Op.operands,Call.operands])).isSc;generalize (fun s=>a.tmps.getD s undef)=T at W X⊢;obtain⟨Q,xs,b,M,J,K⟩:=g7 U B W;obtain⟨H,⟨i,z,N,m,p,I,a1,a0⟩,O⟩:=o7 Z;have G:z=.int .u8 0:=by
  rw[N,PC,m]at V;exact PF V
 subst G;rw[L]at b p;obtain⟨v',w',hr,E,j,r,q⟩:=Gc (P:=Tryz.prog) w 0 t u o.type R.e i H hu N m p I (dm T x) R.es.length xs b s (by omega) (OA _) K;refine aB (v:=v') (W':=w') ?_ (yq (R':=⟨R.e,R.sz,R.es++am s.data.toList,false⟩) (xs:=xs++bL s.data.toList) U C F f hd Q B j r (by
  show w'.ownsRow _ _ R.sz _ (R.es++am s.data.toList).length _
  rw[Oj,aC,L,show s.data.toList.length=s.size by simp];exact E) ?_ ⟨J.1.append (by rw[L];exact aV _),fun h=>by cases h⟩ q)
 ·simp only[execOp,D,resolve,invoke,builtin,Sem.run_bind,Sem.run_pure,Result.andThen_ok,Qn,Pt,QM,X,hr]
 have d:=o6 (G0:=G0) (bx:=bx) (w:=w) (w':=w') (v':=v') (R':=⟨R.e,R.sz,R.es++am s.data.toList,false⟩) Q B j (fun g A=>by
  rcases r with h|h
  ·exact .inl (h▸A)
  rw[h]at A;injection A with A;exact .inr (by omega))
 rw[i8,jN];refine(M.mono j.size d).append ?_;have:∀l:List UInt8,PT w' (GG G0 bx (rv.set k v') (S.rs.set k (some ⟨R.e,R.sz,R.es++am s.data.toList,false⟩))) (bL l) (am l):=fun l=>by
  induction l with
  |nil=>exact .nil
  |cons c l ih=>exact .sc _ ih
 exact this _
theorem kJ{ops:Array Oper}{a:List Oper}{Q:Exit->St->Prop}{n d k:Nat}{sl sl':List (Nat×Tree)}{bs bs':List (TypeId×List Tree)}{rs rs':List (Option Row)}{x y:Operand}{t u:TypeId}{R:Row}{s:ByteArray}(h:o.op=.call {callee:=.builtin .append,args:=#[x,y],argTypes:=#[t,u]})(i:o.guard=none)(g:o.dst=some d)(z:Nat.blt d n=true)(r:jP Tryz.prog t=some (R.e,R.sz,1))(j:(Tryz.prog.info? R.e).bind (·.zero)=some (.int .u8 0))(v:Tryz.prog.underlying u=some .string)(l:St.ev ⟨n,sl,bs,rs⟩ x=.own k)(w:rs[k]? =some (some R))(A:St.ev ⟨n,sl,bs,rs⟩ y=sT s)(m:R.sz=1)(q:R.es.length+s.size<=1073741824)(c:sl.map (fun p=>(p.1,fi k p.2))=sl')(b:bs.map (fun p=>(p.1,p.2.map (ir k)))=bs')(f:rs.set k (some ⟨R.e,R.sz,R.es++am s.data.toList,false⟩)=rs')
  (K:AOps w0 G0 ops a Q ⟨n,(d,.own k)::sl',bs',rs'⟩):AOps w0 G0 ops (o::a) Q ⟨n,sl,bs,rs⟩:=by
 subst c b f;refine dF i (sV (S:=⟨n,sl,bs,rs⟩) (e:=t) h (by rw[g];simpa[cC,Pn]using z) r j v l w A m q) ?_;rw[g];exact K
theorem Es{ty:TypeId}{f:List Value}(l:o.op=.alloc ty)(m:cC S.n o.dst=true)(b:gJ Tryz.prog ty=some f)(p:f.all bG=true):lL w0 G0 o S ({S with bs:=S.bs++[(ty,f.map Tree.sc)]}.put o.dst (.box S.bs.length 0)):=by
 rintro a w ⟨bx,rv,j,c,h,d⟩;unfold gJ at b;simp only[QJ,Ps]at b;obtain⟨i,k,z,b,rfl⟩:=b;have g:=j.addBox (ty:=ty) (us:=z.cells.toList) (cs:=z.cells.toList.map Tree.sc) (.of (Gm _ _ _)) p;refine aB (v:=.pointer (some ⟨w.heap.size,0,none⟩)) (W':=w.alloc (.cells z.cells ty)) ?_ ⟨bx++[w.heap.size],rv,?_,by rw[dW,ee,c],by rw[cU,h],?_⟩
 ·have e:(zeroValue ty).run Tryz.prog w=.ok z w:=by simp[zeroValue,typeInfo,k,b]
  simp[execOp,l,Instr.alloc,newVar,newRow,newObj,Sem.run,e]
 ·rw[dE,bZ];simpa using g
 rw[bZ];intro i;rw[gf a o.dst _ S.n c m,cV];split
 ·exact .box _ _ _ (by show(bx++[w.heap.size])[S.bs.length]? =_;rw[<-j.nb];simp) .nil
 exact kW _ (d i)
theorem pg{ops:Array Oper}{a:List Oper}{Q:Exit->St->Prop}{n d b:Nat}{sl:List (Nat×Tree)}{bs bs':List (TypeId×List Tree)}{rs:List (Option Row)}{ty:TypeId}{e:List Value}{cs:List Tree}(g:o.op=.alloc ty)(h:o.guard=none)(f:o.dst=some d)(m:Nat.blt d n=true)(i:gJ Tryz.prog ty=some e)(p:e.all bG=true)(l:e.map Tree.sc=cs)(j:bs.length=b)(c:bs++[(ty,cs)]=bs')
  (k:AOps w0 G0 ops a Q ⟨n,(d,.box b 0)::sl,bs',rs⟩):AOps w0 G0 ops (o::a) Q ⟨n,sl,bs,rs⟩:=by
 subst l j c;refine dF h (Es (S:=⟨n,sl,bs,rs⟩) g (by rw[f];simpa[cC,Pn]using m) i p) ?_;rw[f];exact k
end
def CtE(f:FuncId)(args:List Tree)(P:Tree->Prop):Prop:=(∃fn,Tryz.prog.funcs[f]? =some fn/\(fn.name== "runtime.NumGoroutine")=false/\fn.body.isNone=false)/\∀(G:Nat->Prop) (w:World) (vs:List Value),Env w->(∀g,G g->g<w.heap.size/\NoDigB w g)->PT w G vs args->
 Calls Tryz.prog f vs.toArray w fun e w'=>∃v r,P r/\e=.returned v/\PT w' G [v] [r]/\Below w.heap.size w w'
def NT(o:Oper)(S:St)(P:Tree->Prop):Prop:=∀(w0:World) (G0:Bse) (bx:List Nat) (rv:List Value) (w:World) (T:Nat->Value),Mem w0 G0 S.bs S.rs bx rv w->
 (∀s,(eG o.op).contains s=true->FT (en w G0 bx rv S.rs) [T s] [S.get s])->OpRuns Tryz.prog o T w fun v w'=>∃t,P t/\FT (en w' G0 bx rv S.rs) [v] [t]/\Below w.heap.size w w'
section
variable {w0:World} {G0:Bse} {ops:Array Oper} {rest:List Oper} {Q:Exit->St->Prop} {o:Oper} {n:Nat} {sl:List (Nat×Tree)} {bs:List (TypeId×List Tree)} {rs:List (Option Row)} {S:St}
theorem kY{f:FuncId}{xs:Array Operand}{c:Array TypeId}{ts:List Tree}{P:Tree->Prop}(d:o.op=.call {callee:=.value (.func f),args:=xs,argTypes:=c})(b:CtE f ts P)(l:xs.toList.map S.ev=ts)(y:ts.all Tree.plain=true):NT o S P:=by
 intro w0 G0 bx rv w T h s;have g:=kg (S:=S) s xs.toList (fun x k=>by rw[d];simp only[Op.operands,Call.operands];simp;exact .inr (by simpa using k));rw[l]at g;obtain⟨⟨j,A,t,i⟩,b⟩:=b;have a:=b (GG G0 bx rv S.rs) w _ h.env h.ok (g.plains y);refine cP (f:=f) (args:=(xs.toList.map (dm T)).toArray) ?_ (a.mono ?_)
 ·have m:¬j.name= "runtime.NumGoroutine" :=by simpa using t
  have p:¬j.body=none:=fun e=>by rw[e]at i;cases i
  have u:(xs.toList.map (dm T)).toArray=xs.map (dm T):=Q6 (by simp);rw[u];simp[execOp,d,resolve,dm,Deferred.ofValue,invoke,callFunc,A,m,p]
 rintro e w' ⟨v,r,z,rfl,q,n⟩;exact⟨v,Z,r,z,.pure q .nil,n⟩
theorem kp{d:Nat}(P:Tree->Prop)(q:o.guard=none)(j:o.dst=some d)(y:Nat.blt d n=true)(h:NT o ⟨n,sl,bs,rs⟩ P)(k:∀t,P t->AOps w0 G0 ops rest Q ⟨n,(d,t)::sl,bs,rs⟩):AOps w0 G0 ops (o::rest) Q ⟨n,sl,bs,rs⟩:=by
 rintro a w ⟨bx,rv,l,c,f,b⟩;have u:=h w0 G0 bx rv w (fun s=>a.tmps.getD s undef) l fun s _=>b s
 have e:cC n o.dst=true:=by rw[j];simpa[cC,Pn]using y
 refine eL (by simp[Region.wanted,q]) fun K p=>?_
 refine Oper.wp_mono ?_ (u.wp (Q:=Bi w0 G0 Q));rintro z w' ⟨v,rfl,t,r,x,g⟩;refine p _ _ (k t r _ _ ⟨bx,rv,l.later g,by rw[dW];exact c,by rw[cU,f],?_⟩);have:=iK (S:=⟨n,sl,bs,rs⟩) (o:=o) (t:=t) (rs:=rs) (w':=w') c e (fun _ _ h=>h.later g) b x;intro i;have m:=this i;rw[j]at m⊢;exact m
theorem CtE.of{f:FuncId}{d:Func}{c:Code}{args:List Tree}{P:Tree->Prop}{n:Nat}{j:List ResultVar}(C:Tryz.prog.funcs[f]? =some d)(A:d.body=some c)(m:(d.name== "runtime.NumGoroutine")=false)(R:d.ntmps=n)(z:Nat.ble args.length n=true)(L:d.results.toList=j)
  (h:∀w0 G0,AWP w0 (pln G0) c (fun e S=>∃r,P r/\LB j r e S) ⟨n,g8 0 args,[],[]⟩):CtE f args P:=by
 refine⟨⟨d,C,m,by rw[A];rfl⟩,fun G w vs K N F=>?_⟩;have D:=F.length;have z:args.length<=n:=by simpa using z
 refine calls_of_wp C A (wp_mono (h w G _ w ⟨[],[],ny K N,?_,Z,fun i=>?_⟩) ?_)
 ·simp;omega
 ·show FT _ _ [look (g8 0 args) i]
  rw[jD,if_pos (OA _),Q0];cases I:args[i]? with
  |none=>exact .any _ .nil
  |some t=>
   obtain⟨u,B,s⟩:=F.get i t I;have H:=(Ok.1 B).1;have J:(vs.toArray++Array.replicate (d.ntmps-vs.toArray.size) undef).getD i undef=u:=by
    rw[O7,Qh (by simpa using H),PY,B];rfl
   rw[J];refine .pure (s.mono (Oh _) fun b _ g=>⟨Z,fun h=>?_⟩) .nil;rcases h with h|h
   ·exact g h
   simp[cl]at h
 rintro e a w' ⟨S',⟨r,O,M,ts,p,rfl,l⟩,bx,rv,E,_,q,o⟩;obtain⟨us,k,y⟩:=gk E o (L▸p);have key:a.defers=[]/\∃v,(results d a.tmps).run Tryz.prog w'=.ok v w'/\(fun e w'=>∃v r,P r/\e=Ending.returned v/\PT w' G [v] [r]/\Below w.heap.size w w') (.returned v) w':=by
  refine⟨q,if h:us.toArray.size=1 then us.toArray[0]else .tuple us.toArray,?_,_,ki ts,O,Z,?_,E.below.below⟩
  ·unfold results;rw[Sem.run_bind,P2,Sem.run_map];exact congrArg (fun x:Result (List Value)=>(x.andThen fun a w'=>Result.ok a.toArray w').andThen fun a w'=>Sem.run Tryz.prog (pure (if h:a.size=1 then a[0]else Value.tuple a)) w') k
  have Q:FT (en w' (pln G) bx rv S'.rs) [if h:us.toArray.size=1 then us.toArray[0]else .tuple us.toArray] [ki ts]:=by
   match us,ts,y with
   |[],[],_=>exact .tup [] [] .nil .nil
   |[u],[t],h=>exact h
   |u::u'::us,t::t'::ts,h=>
    rw[dif_neg (by simp)];exact .tup _ _ h .nil
  exact(Q.plain l).mono (Oh _) fun b _ g=>⟨Z,fun h=>g (.inl h)⟩
 rcases M with rfl|rfl
 ·exact key
 exact key
end
theorem lS{x y:Operand}(a b:Nat)(c:0<b)(w:World):(do eqGuard .rem 3 x y (.int .i64 (a:Nat)) (.int .i64 (b:Nat));binOp .rem 3 (.int .i64 (a:Nat)) (.int .i64 (b:Nat)):Sem Value).run Tryz.prog w=.ok (.int .i64 ((a%b:Nat):Int)) w:=by
 go_simp;rw[if_neg (by omega),Qz (by omega)]
theorem se{x y:Operand}(a b:Nat)(e:0<b)(c:a<9223372036854775808)(w:World):(do eqGuard .quo 3 x y (.int .i64 (a:Nat)) (.int .i64 (b:Nat));binOp .quo 3 (.int .i64 (a:Nat)) (.int .i64 (b:Nat)):Sem Value).run Tryz.prog w=.ok (.int .i64 ((a/b:Nat):Int)) w:=by
 have key:IntKind.i64.wrap ((a:Int)/(b:Int))=((a/b:Nat):Int):=by
  have d:a/b<=a:=Ql a b;rw[show((a:Int)/(b:Int))=((a/b:Nat):Int) by simp,Pj];generalize a/b=q at*;omega
 clear c;go_simp;omega
theorem Et(n:Int):bits .and .i64 n 65535=n%65536:=by
 have a:(BitVec.ofInt 64 65535).toNat=2^16-1:=by decide
 have key:(BitVec.ofInt 64 n&&& BitVec.ofInt 64 65535).toNat=(n%((2^64:Nat):Int)).toNat%2^16:=by
  rw[BitVec.toNat_and,BitVec.toNat_ofInt,a,Qm]
 show IntKind.i64.wrap ((BitVec.ofInt 64 n&&& BitVec.ofInt 64 65535).toNat:Nat)=n%65536
 rw[key,Pj];omega
theorem GB(n:Int):bits .and .i64 n 7=n%8:=by
 have a:(BitVec.ofInt 64 7).toNat=2^3-1:=by decide
 have key:(BitVec.ofInt 64 n&&& BitVec.ofInt 64 7).toNat=(n%((2^64:Nat):Int)).toNat%2^3:=by
  rw[BitVec.toNat_and,BitVec.toNat_ofInt,a,Qm]
 show IntKind.i64.wrap ((BitVec.ofInt 64 n&&& BitVec.ofInt 64 7).toNat:Nat)=n%8
 rw[key,Pj];omega
theorem vz{x y:Operand}(a:Int)(w:World):(do eqGuard .and 3 x y (.int .i64 a) (.int .i64 65535);binOp .and 3 (.int .i64 a) (.int .i64 65535):Sem Value).run Tryz.prog w=.ok (.int .i64 (((a%65536).toNat:Nat):Int)) w:=by
 have key:bits .and .i64 a 65535=(((a%65536).toNat:Nat):Int):=by rw[Et];omega
 go_simp
theorem yD{x y:Operand}(a:Nat)(w:World):(do eqGuard .and 3 x y (.int .i64 (a:Nat)) (.int .i64 7);binOp .and 3 (.int .i64 (a:Nat)) (.int .i64 7):Sem Value).run Tryz.prog w=.ok (.int .i64 ((a%8:Nat):Int)) w:=by
 have key:bits .and .i64 (a:Int) 7=((a%8:Nat):Int):=by rw[GB];omega
 go_simp
theorem ju{x y:Operand}(a k:Nat)(b:k<64)(w:World):(do eqGuard .shr 3 x y (.int .i64 (a:Nat)) (.int .u64 (k:Nat));binOp .shr 3 (.int .i64 (a:Nat)) (.int .u64 (k:Nat)):Sem Value).run Tryz.prog w=.ok (.int .i64 ((a/2^k:Nat):Int)) w:=by
 simp[eqGuard,binOp,Op.shift,IntKind.bits]
theorem Dq{F:Nat}{o:Oper}{n d k:Nat}{sl:List (Nat×Tree)}{bs:List (TypeId×List Tree)}{rs rs':List (Option Row)}{t e:TypeId}{x y:Operand}{m sz b:Nat}{u:List Value}{I K:IntKind}{z w:Int}{zt:Tree}(g:o.op=.makeSlice t x y)(G:o.dst=some d)(C:Nat.blt d n=true)(B:jP Tryz.prog t=some (e,sz,b))(J:gJ Tryz.prog e=some u)(A:St.ev ⟨n,sl,bs,rs⟩ x=.sc (.int I z))(D:St.ev ⟨n,sl,bs,rs⟩ y=.sc (.int K w))(q:z=m)(f:w=m)(c:zt.cells=u.map dN)(H:m<=1073741824)(i:Nat.ble b 100000=true)(E:rs.length=k)(p:rs++[some ⟨e,sz,List.replicate m zt,true⟩]=rs'):uY F o ⟨n,sl,bs,rs⟩ id (.own k) bs rs':=by
 subst E p;intro w0 G0 S L r v l a;dsimp only at r v l;have j:=mM a (by rw[g];simp[Op.operands]) A (by simp);have h:=mM a (by rw[g];simp[Op.operands]) D (by simp);refine⟨_,Dp (S:=S) g (by rw[G,r];simpa[cC,Pn]using C) B J j h q f c H i,by rw[ee],by rw[dE,v],by rw[bZ];dsimp only;rw[l],fun s=>?_⟩;rw[cV,l];rfl
theorem m6{w:Nat}{o:Oper}{n:Nat}{sl:List (Nat×Tree)}{bs:List (TypeId×List Tree)}{rs rs':List (Option Row)}{ty:TypeId}{x y:Operand}{k off j:Nat}{R:Row}{t:Tree}(d:o.op=.store ty x y)(a:o.dst=none)(q:St.ev ⟨n,sl,bs,rs⟩ x=.elp k off)(u:rs[k]? =some (some R))(b:off=j*R.sz)(A:j<R.es.length)(r:St.ev ⟨n,sl,bs,rs⟩ y=t)(m:t.oneA=true)(z:t.cells.all Tree.one=true)(C:t.cells.all Tree.noDig=true)(B:t.cells.all Tree.plain0=true)(D:(Tryz.prog.info? ty).map (·.size)=some R.sz)(p:t.cells.length=R.sz)(i:rs.set k (some ⟨R.e,R.sz,R.es.set j t,R.tt⟩)=rs'):uY w o ⟨n,sl,bs,rs⟩ id .any bs rs':=by
 subst i;intro w0 G0 S E v l h c;dsimp only at v l h;have g:=mM c (by rw[d];simp[Op.operands]) q (by simp);have f:=mM c (by rw[d];simp[Op.operands]) r (by rintro rfl;simp[Tree.oneA,Tree.one]at m);refine⟨_,pe (S:=S) d a g (by rw[h];exact u) b A f m z C B D p,Z,l,by dsimp only;rw[h],fun s=>?_⟩;rw[a,if_neg (by simp)];rfl
end Go.Proofs.YtfoejfohbkmmeaaGreatDoor
