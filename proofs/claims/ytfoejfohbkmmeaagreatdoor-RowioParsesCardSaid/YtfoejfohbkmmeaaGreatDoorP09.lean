import Derived.Test.YtfoejfohbkmmeaaGreatDoorP08
import Derived.Laws.BitsLemmas
import Derived.Test.YtfoejfohbkmmeaaGreatDoorP00
import Derived.Test.YtfoejfohbkmmeaaGreatDoorP07
import Derived.Lib.SliceRun
import Derived.Test.YtfoejfohbkmmeaaGreatDoorP06
import Derived.Laws.IdiomCopy
namespace Go.Proofs.YtfoejfohbkmmeaaGreatDoor
open Go.RowKit
open Lib renaming hid→J
def CtE(f:FuncId)(args:List Tree)(P:Tree->Prop):Prop:=(∃fn,Tryz.prog.funcs[f]? =some fn/\(fn.name== "runtime.NumGoroutine")=false/\fn.body.isNone=false)/\∀(G:Nat->Prop) (w:World) (vs:List Value),Env w->(∀g,G g->g<w.heap.size/\NoDigB w g)->PT w G vs args->
 Calls Tryz.prog f vs.toArray w fun e w'=>∃v r,P r/\e=.returned v/\PT w' G [v] [r]/\Below w.heap.size w w'
def LF(o:Oper)(S:St)(P:Tree->Prop):Prop:=∀(w0:World) (G0:Bse) (bx:List Nat) (rv:List Value) (w:World) (T:Nat->Value),Mem w0 G0 S.bs S.rs bx rv w->
 (∀s,(ej o.op).contains s=true->FT (en w G0 bx rv S.rs) [T s] [S.get s])->OpRuns Tryz.prog o T w fun v w'=>∃t,P t/\FT (en w' G0 bx rv S.rs) [v] [t]/\Below w.heap.size w w'
section
variable {w0:World} {G0:Bse} {ops:Array Oper} {rest:List Oper} {Q:Exit->St->Prop} {o:Oper} {n:Nat} {sl:List (Nat×Tree)} {bs:List (TypeId×List Tree)} {rs:List (Option Row)} {S:St}
theorem kQ{f:FuncId}{xs:Array Operand}{a:Array TypeId}{ts:List Tree}{P:Tree->Prop}(h:o.op=.call {callee:=.value (.func f),args:=xs,argTypes:=a})(c:CtE f ts P)(u:xs.toList.map S.ev=ts)(k:ts.all Tree.plain=true):LF o S P:=by
 intro w0 G0 bx rv w T i s;have d:=ru (S:=S) s xs.toList (fun x l=>by rw[h];simp only[Op.operands,Call.operands];simp;exact .inr (by simpa using l));rw[u]at d;obtain⟨⟨g,n,p,j⟩,c⟩:=c;have b:=c (GG G0 bx rv S.rs) w _ i.env i.ok (d.plains k);refine cP (f:=f) (args:=(xs.toList.map (dU T)).toArray) ?_ (b.mono ?_)
 ·have y:¬g.name= "runtime.NumGoroutine" :=by simpa using p
  have z:¬g.body=none:=fun e=>by rw[e]at j;cases j
  have q:(xs.toList.map (dU T)).toArray=xs.map (dU T):=Pb (by simp);rw[q];simp[execOp,h,resolve,dU,Deferred.ofValue,invoke,callFunc,n,y,z]
 rintro e w' ⟨v,r,t,rfl,m,A⟩;exact⟨v,Z,r,t,.pure m .nil,A⟩
theorem ki{d:Nat}(P:Tree->Prop)(r:o.guard=none)(g:o.dst=some d)(x:Nat.blt d n=true)(h:LF o ⟨n,sl,bs,rs⟩ P)(k:∀t,P t->AOps w0 G0 ops rest Q ⟨n,(d,t)::sl,bs,rs⟩):AOps w0 G0 ops (o::rest) Q ⟨n,sl,bs,rs⟩:=by
 rintro a w ⟨bx,rv,j,c,e,b⟩;have y:=h w0 G0 bx rv w (fun s=>a.tmps.getD s undef) j fun s _=>b s
 have f:dM n o.dst=true:=by rw[g];simpa[dM,Nv]using x
 refine eu (by simp[Region.wanted,r]) fun K p=>?_
 refine Oper.wp_mono ?_ (y.wp (Q:=zK w0 G0 Q));rintro z w' ⟨v,rfl,t,q,u,m⟩;refine p _ _ (k t q _ _ ⟨bx,rv,j.later m,by rw[dY];exact c,by rw[dg,e],?_⟩);have:=jE (S:=⟨n,sl,bs,rs⟩) (o:=o) (t:=t) (rs:=rs) (w':=w') c f (fun _ _ h=>h.later m) b u;intro i;have l:=this i;rw[g]at l⊢;exact l
theorem CtE.of{f:FuncId}{d:Func}{c:Code}{args:List Tree}{P:Tree->Prop}{n:Nat}{j:List ResultVar}(A:Tryz.prog.funcs[f]? =some d)(F:d.body=some c)(y:(d.name== "runtime.NumGoroutine")=false)(R:d.ntmps=n)(C:Nat.ble args.length n=true)(M:d.results.toList=j)
  (h:∀w0 G0,AWP w0 (pln G0) c (fun e S=>∃r,P r/\KD j r e S) ⟨n,kw 0 args,[],[]⟩):CtE f args P:=by
 refine⟨⟨d,A,y,by rw[F];rfl⟩,fun G w vs L O z=>?_⟩;have B:=z.length;have C:args.length<=n:=by simpa using C
 refine calls_of_wp A F (wp_mono (h w G _ w ⟨[],[],rx L O,?_,Z,fun i=>?_⟩) ?_)
 ·simp;omega
 ·show FT _ _ [look (kw 0 args) i]
  rw[mU,if_pos (Mp _),O7];cases N:args[i]? with
  |none=>exact .any _ .nil
  |some t=>
   obtain⟨u,E,p⟩:=z.get i t N;have J:=(L6.1 E).1;have Q:(vs.toArray++Array.replicate (d.ntmps-vs.toArray.size) undef).getD i undef=u:=by
    rw[MO,Od (by simpa using J),NS,E];rfl
   rw[Q];refine .pure (p.mono (L4 _) fun b _ g=>⟨Z,fun h=>?_⟩) .nil;rcases h with h|h
   ·exact g h
   simp[cR]at h
 rintro e a w' ⟨S',⟨r,K,I,ts,o,rfl,q⟩,bx,rv,D,_,m,s⟩;obtain⟨us,k,l⟩:=kb D s (M▸o);have key:a.defers=[]/\∃v,(results d a.tmps).run Tryz.prog w'=.ok v w'/\(fun e w'=>∃v r,P r/\e=Ending.returned v/\PT w' G [v] [r]/\Below w.heap.size w w') (.returned v) w':=by
  refine⟨m,if h:us.toArray.size=1 then us.toArray[0]else .tuple us.toArray,?_,_,mT ts,K,Z,?_,D.below.below⟩
  ·unfold results;rw[Sem.run_bind,Oj,Sem.run_map];exact congrArg (fun x:Result (List Value)=>(x.andThen fun a w'=>Result.ok a.toArray w').andThen fun a w'=>Sem.run Tryz.prog (pure (if h:a.size=1 then a[0]else Value.tuple a)) w') k
  have H:FT (en w' (pln G) bx rv S'.rs) [if h:us.toArray.size=1 then us.toArray[0]else .tuple us.toArray] [mT ts]:=by
   match us,ts,l with
   |[],[],_=>exact .tup [] [] .nil .nil
   |[u],[t],h=>exact h
   |u::u'::us,t::t'::ts,h=>
    rw[dif_neg (by simp)];exact .tup _ _ h .nil
  exact(H.plain q).mono (L4 _) fun b _ g=>⟨Z,fun h=>g (.inl h)⟩
 rcases I with rfl|rfl
 ·exact key
 exact key
end
theorem lC{x y:Operand}(a b:Nat)(c:0<b)(w:World):(do eqGuard .rem 3 x y (.int .i64 (a:Nat)) (.int .i64 (b:Nat));binOp .rem 3 (.int .i64 (a:Nat)) (.int .i64 (b:Nat)):Sem Value).run Tryz.prog w=.ok (.int .i64 ((a%b:Nat):Int)) w:=by
 go_simp;rw[if_neg (by omega),Oe (by omega)]
theorem wj{x y:Operand}(a b:Nat)(d:0<b)(c:a<9223372036854775808)(w:World):(do eqGuard .quo 3 x y (.int .i64 (a:Nat)) (.int .i64 (b:Nat));binOp .quo 3 (.int .i64 (a:Nat)) (.int .i64 (b:Nat)):Sem Value).run Tryz.prog w=.ok (.int .i64 ((a/b:Nat):Int)) w:=by
 have key:IntKind.i64.wrap ((a:Int)/(b:Int))=((a/b:Nat):Int):=by
  have e:a/b<=a:=NT a b;rw[show((a:Int)/(b:Int))=((a/b:Nat):Int) by simp,Np];generalize a/b=q at*;omega
 clear c;go_simp;omega
theorem Db(n:Int):bits .and .i64 n 65535=n%65536:=by
 have a:(BitVec.ofInt 64 65535).toNat=2^16-1:=by decide
 have key:(BitVec.ofInt 64 n&&& BitVec.ofInt 64 65535).toNat=(n%((2^64:Nat):Int)).toNat%2^16:=by
  rw[BitVec.toNat_and,BitVec.toNat_ofInt,a,Oq]
 show IntKind.i64.wrap ((BitVec.ofInt 64 n&&& BitVec.ofInt 64 65535).toNat:Nat)=n%65536
 rw[key,Np];omega
theorem Fa(n:Int):bits .and .i64 n 7=n%8:=by
 have a:(BitVec.ofInt 64 7).toNat=2^3-1:=by decide
 have key:(BitVec.ofInt 64 n&&& BitVec.ofInt 64 7).toNat=(n%((2^64:Nat):Int)).toNat%2^3:=by
  rw[BitVec.toNat_and,BitVec.toNat_ofInt,a,Oq]
 show IntKind.i64.wrap ((BitVec.ofInt 64 n&&& BitVec.ofInt 64 7).toNat:Nat)=n%8
 rw[key,Np];omega
theorem p7{x y:Operand}(a:Int)(w:World):(do eqGuard .and 3 x y (.int .i64 a) (.int .i64 65535);binOp .and 3 (.int .i64 a) (.int .i64 65535):Sem Value).run Tryz.prog w=.ok (.int .i64 (((a%65536).toNat:Nat):Int)) w:=by
 have key:bits .and .i64 a 65535=(((a%65536).toNat:Nat):Int):=by rw[Db];omega
 go_simp
theorem xE{x y:Operand}(a:Nat)(w:World):(do eqGuard .and 3 x y (.int .i64 (a:Nat)) (.int .i64 7);binOp .and 3 (.int .i64 (a:Nat)) (.int .i64 7):Sem Value).run Tryz.prog w=.ok (.int .i64 ((a%8:Nat):Int)) w:=by
 have key:bits .and .i64 (a:Int) 7=((a%8:Nat):Int):=by rw[Fa];omega
 go_simp
theorem jr{x y:Operand}(a k:Nat)(b:k<64)(w:World):(do eqGuard .shr 3 x y (.int .i64 (a:Nat)) (.int .u64 (k:Nat));binOp .shr 3 (.int .i64 (a:Nat)) (.int .u64 (k:Nat)):Sem Value).run Tryz.prog w=.ok (.int .i64 ((a/2^k:Nat):Int)) w:=by
 simp[eqGuard,binOp,Op.shift,IntKind.bits]
theorem BS{B:Nat}{o:Oper}{n d k:Nat}{sl:List (Nat×Tree)}{bs:List (TypeId×List Tree)}{rs rs':List (Option Row)}{t e:TypeId}{x y:Operand}{m sz a:Nat}{r:List Value}{H F:IntKind}{u v:Int}{zt:Tree}(h:o.op=.makeSlice t x y)(A:o.dst=some d)(K:Nat.blt d n=true)(I:kM Tryz.prog t=some (e,sz,a))(C:gz Tryz.prog e=some r)(D:St.ev ⟨n,sl,bs,rs⟩ x=.sc (.int H u))(J:St.ev ⟨n,sl,bs,rs⟩ y=.sc (.int F v))(j:u=m)(p:v=m)(c:zt.cells=r.map dl)(E:m<=1073741824)(i:Nat.ble a 100000=true)(G:rs.length=k)(f:rs++[some ⟨e,sz,List.replicate m zt,true⟩]=rs'):zQ B o ⟨n,sl,bs,rs⟩ id (.own k) bs rs':=by
 subst G f;intro w0 G0 S L w z q b;dsimp only at w z q;have g:=qI b (by rw[h];simp[Op.operands]) D (by simp);have l:=qI b (by rw[h];simp[Op.operands]) J (by simp);refine⟨_,Ht (S:=S) h (by rw[A,w];simpa[dM,Nv]using K) I C g l j p c E i,by rw[fd],by rw[eB,z],by rw[c6];dsimp only;rw[q],fun s=>?_⟩;rw[dV,q];rfl
theorem mr{q:Nat}{o:Oper}{n:Nat}{sl:List (Nat×Tree)}{bs:List (TypeId×List Tree)}{rs rs':List (Option Row)}{ty:TypeId}{x y:Operand}{k off j:Nat}{R:Row}{t:Tree}(g:o.op=.store ty x y)(a:o.dst=none)(r:St.ev ⟨n,sl,bs,rs⟩ x=.elp k off)(z:rs[k]? =some (some R))(b:off=j*R.sz)(v:j<R.es.length)(A:St.ev ⟨n,sl,bs,rs⟩ y=t)(l:t.oneA=true)(w:t.cells.all Tree.one=true)(D:t.cells.all Tree.noDig=true)(p:t.cells.all Tree.plain0=true)(C:(Tryz.prog.info? ty).map (·.size)=some R.sz)(u:t.cells.length=R.sz)(d:rs.set k (some ⟨R.e,R.sz,R.es.set j t,R.tt⟩)=rs'):zQ q o ⟨n,sl,bs,rs⟩ id .any bs rs':=by
 subst d;intro w0 G0 S E B m i c;dsimp only at B m i;have f:=qI c (by rw[g];simp[Op.operands]) r (by simp);have h:=qI c (by rw[g];simp[Op.operands]) A (by rintro rfl;simp[Tree.oneA,Tree.one]at l);refine⟨_,we (S:=S) g a f (by rw[i];exact z) b v h l w D p C u,Z,m,by dsimp only;rw[i],fun s=>?_⟩;rw[a,if_neg (by simp)];rfl
section
variable {w0:World} {G0:Bse} {S:St} {o:Oper}
theorem uu{t e:TypeId}{m d f:Nat}{x:Operand}{s:TypeId}{es:List Tree}(g:o.op=.binOp .eql t x (.const (.slice none d f)) s)(u:gN Tryz.prog t=some (e,m))(q:S.ev x=.sl es):LF o S (fun r=>∃b:Bool,(b=true->es=[])/\r=bT b):=by
 intro w0 G0 bx rv w T y j;obtain⟨n,_⟩:=jp u;obtain⟨A,c,i,_,_,z,k⟩:=(bL j q (by rw[g];simp[Op.operands])).isSl.slice;refine aC (v:=.bool A.isNone) (W':=w) ?_ ⟨_,⟨A.isNone,fun h=>?_,Z⟩,.pure (.sc _ .nil) .nil,Below.refl _ _⟩
 ·simp only[execOp,g,i];rw[Sem.run_bind];have:=Lib.run_eql_slice_nil (P:=Tryz.prog) w t e A es.length c d f n;simp only[dU,eqGuard];simp[this]
 cases A with
 |none=>
  cases es with
  |nil=>rfl
  |cons a l=>
   obtain⟨b,off,xs,p,_⟩:=k (by simp);cases p
 |some a=>cases h
theorem Dc{t e:TypeId}{sz by_:Nat}(ho:o.op=.buildSlice t 0 #[])(hd:dM S.n o.dst=true)(ht:kM Tryz.prog t=some (e,sz,by_)):rk w0 G0 o S ({S with rs:=S.rs++[some (⟨e,sz,[],true⟩:Row)]}.put o.dst (.own S.rs.length)):=by
 rintro a w ⟨bx,rv,hmm,hsz,hdf,hsl⟩;obtain⟨hu,⟨i,z,hi,hz',hsi,hbi,hzs,hzd⟩,hpos⟩:=oN ht;have hown:=World.ownsRow_lit (base:=w.heap.size) (e:=e) (size:=sz) w #[] 0 (L4 _) (by simp only[maxLen];omega) (by simp);have hb:Below w.heap.size w (w.alloc (.cells #[] e)):=(Below.refl _ _).alloc (L4 _) _;have hnd:∀g,(Value.slice (some ⟨w.heap.size,0,none⟩) 0 0).ownBlock=some g->NoDigB (w.alloc (.cells #[] e)) g:=fun g hg=>by
  injection hg with hg
  subst hg;exact cH (heap_alloc_new w _) Z
 obtain⟨m1,m2⟩:=hmm.addRow (R:=⟨e,sz,[],true⟩) (v:=.slice (some ⟨w.heap.size,0,none⟩) 0 0) hb (by simpa using hown) .nil ⟨fun x hx=>(by cases hx),fun _ A n c e=>(by cases e;rfl)⟩ hnd;refine aC (v:=.slice (some ⟨w.heap.size,0,none⟩) 0 0) (W':=w.alloc (.cells #[] e)) ?_ (BR hsz hdf hd hmm.nr m1 ⟨_,_,_,Z⟩ (fun i=>m2 [_] [_] (hsl i)) Z);have hs':(sizeOf e).run Tryz.prog w=.ok i.size w:=by simp[sizeOf,typeInfo,hi]
 have hrun:(Instr.buildSlice t 0 #[]).run Tryz.prog w=.ok (.slice (some ⟨w.heap.size,0,none⟩) 0 0) (w.alloc (.cells #[] e)):=by
  simp[Instr.buildSlice,run_underlying hu,hs',Instr.fill,newRow,newObj];rw[show(Array.map (fun _=>(default:Value)) (Array.range 0))=#[]from by simp];rfl
 simp[execOp,ho,hrun]
end
theorem oT{w0:World}{G0:Bse}{o:Oper}{ops:Array Oper}{rest:List Oper}{Q:Exit->St->Prop}{n d k:Nat}{sl:List (Nat×Tree)}{bs:List (TypeId×List Tree)}{rs rs':List (Option Row)}{t e:TypeId}{sz a:Nat}(j:o.op=.buildSlice t 0 #[])(h:o.guard=none)(c:o.dst=some d)(f:Nat.blt d n=true)(i:kM Tryz.prog t=some (e,sz,a))(g:rs.length=k)(b:rs++[some ⟨e,sz,[],true⟩]=rs')(K:AOps w0 G0 ops rest Q ⟨n,(d,.own k)::sl,bs,rs'⟩):AOps w0 G0 ops (o::rest) Q ⟨n,sl,bs,rs⟩:=by
 subst g b;refine gj h (Dc (S:=⟨n,sl,bs,rs⟩) j (by rw[c];simpa[dM,Nv]using f) i) ?_;rw[c];exact K
def Hd(f:FuncId):Value:=dU (fun _=>undef) (.func f)
section
variable {S:St} {o:Oper}
theorem xF{f:FuncId}{s:Nat}{xs:Array Operand}{d:Array TypeId}{ts:List Tree}{r:Tree}(c:o.op=.call {callee:=.value (.tmp s),args:=xs,argTypes:=d})(A:S.ev (.tmp s)=.sc (Hd f))(h:Ct f ts r)(y:xs.toList.map S.ev=ts)(n:ts.all Tree.plain=true):OpOK o S r:=by
 intro w0 G0 bx rv w T k l;have i:=ru (S:=S) l xs.toList (fun x p=>by rw[c];simp only[Op.operands,Call.operands];simp;exact .inr (by simpa using p));rw[y]at i;have b:=(bL l A (by rw[c];simp[Op.operands,Call.operands])).isSc;have a:T s=Hd f:=b;unfold Hd dU at a;obtain⟨⟨j,q,t,m⟩,h⟩:=h;have g:=h (GG G0 bx rv S.rs) w _ k.env k.ok (i.plains n);refine cP (f:=f) (args:=(xs.toList.map (dU T)).toArray) ?_ (g.mono ?_)
 ·have z:¬j.name= "runtime.NumGoroutine" :=by simpa using t
  have B:¬j.body=none:=fun e=>by rw[e]at m;cases m
  have u:(xs.toList.map (dU T)).toArray=xs.map (dU T):=Pb (by simp);rw[u];simp[execOp,c,resolve,a,dU,Deferred.ofValue,invoke,callFunc,q,z,B]
 rintro e w' ⟨v,rfl,b,C⟩;exact⟨v,Z,.pure b .nil,C⟩
end
def BT(Q:Exit->World->(Nat->Prop)->St->Prop)(e:Exit)(a:Act)(w:World):Prop:=∃w1 G1 S,Q e w1 G1 S/\Sim w1 (pln G1) S a w
def BWP(c:Code)(Q:Exit->World->(Nat->Prop)->St->Prop)(w1:World)(G1:Nat->Prop)(S:St):Prop:=∀a w,Sim w1 (pln G1) S a w->c.wp Tryz.prog (BT Q) a w
def Fb(K:World->(Nat->Prop)->St->Prop)(Q:Exit->World->(Nat->Prop)->St->Prop):Exit->World->(Nat->Prop)->St->Prop
 | .normal,w,G,S=>K w G S
 |e,w,G,S=>Q e w G S
def xG(id:Nat)(Q:Exit->World->(Nat->Prop)->St->Prop):Exit->World->(Nat->Prop)->St->Prop
 | .exit id',w,G,S=>if id'=id then Q .normal w G S else Q (.exit id') w G S
 |e,w,G,S=>Q e w G S
section
variable {w1:World} {G1:Nat->Prop} {Q:Exit->World->(Nat->Prop)->St->Prop} {S:St}
theorem BWP.of{c:Code}(h:AWP w1 (pln G1) c (fun e S=>Q e w1 G1 S) S):BWP c Q w1 G1 S:=fun a w f=>wp_mono (h a w f) fun _ _ _ ⟨S',d,b⟩=>⟨w1,G1,S',d,b⟩
theorem ch{x y:Code}(h:BWP x (Fb (BWP y Q) Q) w1 G1 S):BWP (.seq x y) Q w1 G1 S:=fun a w f=>wp_seq (wp_mono (h a w f) fun e d w' ⟨g,G2,S',c,b⟩=>by
 cases e with
 |normal=>exact c d w' b
 |_=>exact⟨g,G2,S',c,b⟩)
theorem jO(h:Q .normal w1 G1 S):BWP .skip Q w1 G1 S:=fun _ _ a=>wp_skip ⟨w1,G1,S,h,a⟩
theorem ms{id:Nat}(h:Q (.exit id) w1 G1 S):BWP (.exit id) Q w1 G1 S:=fun _ _ a=>wp_exit ⟨w1,G1,S,h,a⟩
theorem Hv(h:Q .ret w1 G1 S):BWP .ret Q w1 G1 S:=fun _ _ a=>wp_ret ⟨w1,G1,S,h,a⟩
theorem jP{c:Operand}{x y:Code}{b:Bool}(l:S.ev c=bT b)(m:b=true->BWP x Q w1 G1 S)(i:b=false->BWP y Q w1 G1 S):BWP (.cond c x y) Q w1 G1 S:=fun a w d=>by
 have k:a.eval c=.bool b:=by
  obtain⟨bx,rv,n,o,j,e⟩:=d;rw[vM];have:FT (en w (pln G1) bx rv S.rs) [dU (fun s=>a.tmps.getD s undef) c] [S.ev c]:=by
   cases c with
   |tmp s=>exact e s
   |const v=>exact .pure (.sc v .nil) .nil
   |global g=>exact .pure (.sc _ .nil) .nil
   |func f=>exact .pure (.sc _ .nil) .nil
  rw[l]at this;exact this.isSc
 exact wp_cond_split k (fun h=>m h a w d) (fun h=>i h a w d)
theorem uv{id:Nat}{c:Code}(h:BWP c (xG id Q) w1 G1 S):BWP (.block id c) Q w1 G1 S:=fun a w g=>wp_block (wp_mono (h a w g) fun e i w' ⟨f,G2,S',b,d⟩=>by
 cases e with
 |exit id'=>
  simp only[xG]at b;simp only[Exit.inBlock];split at b
  ·rw[if_pos (by assumption)];exact⟨f,G2,S',b,d⟩
  rw[if_neg (by assumption)];exact⟨f,G2,S',b,d⟩
 |_=>exact⟨f,G2,S',b,d⟩)
theorem jQ{c:Code}(h:∀a w,Sim w1 (pln G1) S a w->∃b G2 d,Sim b (pln G2) d a w/\BWP c Q b G2 d):BWP c Q w1 G1 S:=fun a w f=>by
 obtain⟨b,G2,d,g,e⟩:=h a w f;exact e a w g
theorem mu{c:Code}{n:Nat}{sl:List (Nat×Tree)}{bs:List (TypeId×List Tree)}{rs:List (Option Row)}(l:List (Nat×Tree))(b:Keeps ⟨n,sl,bs,rs⟩ 0 0 l)(h:BWP c Q w1 G1 ⟨n,l,[],[]⟩):BWP c Q w1 G1 ⟨n,sl,bs,rs⟩:=fun a w d=>h a w (d.less 0 0 l b Z)
open Classical in
theorem xH{c:Code}(I:Nat->World->(Nat->Prop)->St->Prop)(n0:Nat)(h0:I n0 w1 G1 S)(round:∀n w1 G1 S,I n w1 G1 S->BWP c (Fb (fun w' G' S'=>∃m,m<n/\I m w' G' S') Q) w1 G1 S):BWP (.loop c) Q w1 G1 S:=fun a w hs=>by
 let p:Act->World->Nat->Prop:=fun a w n=>∃w1 G1 S,I n w1 G1 S/\Sim w1 (pln G1) S a w
 let μ:Act->World->Nat:=fun a w=>if h:∃n,p a w n then Classical.choose (fR (p a w) _ (Classical.choose_spec h))else 0
 have hμ:∀a w n,p a w n->p a w (μ a w)/\μ a w<=n:=fun a w n hn=>by
  have hex:∃n,p a w n:=⟨n,hn⟩
  have hsp:=Classical.choose_spec (fR (p a w) _ (Classical.choose_spec hex))
  have e:μ a w=Classical.choose (fR (p a w) _ (Classical.choose_spec hex)):=by simp only[μ];rw[dif_pos hex]
  rw[e]
  refine⟨hsp.1,?_⟩
  rcases MA n (Classical.choose (fR (p a w) _ (Classical.choose_spec hex)))with hlt|hge
  ·exact absurd hn (hsp.2 n hlt)
  ·exact hge
 refine wp_loop (fun a w=>∃n,p a w n) μ ⟨n0,w1,G1,S,h0,hs⟩ ?_
 rintro a w ⟨n,hn⟩
 obtain⟨⟨w2,G2,S',hI,hS⟩,_⟩:=hμ a w n hn
 refine wp_mono (round _ w2 G2 S' hI a w hS) ?_
 rintro e a' w' ⟨w3,G3,S'',h1,h2⟩
 cases e with
 |normal=>
  obtain⟨m,hm,hI'⟩:=h1
  have hp:p a' w' m:=⟨w3,G3,S'',hI',h2⟩
  exact⟨⟨m,hp⟩,NC (hμ a' w' m hp).2 hm⟩
 |_=>exact⟨w3,G3,S'',h1,h2⟩
def BOps(ops:Array Oper)(rest:List Oper)(Q:Exit->World->(Nat->Prop)->St->Prop)(w1:World)(G1:Nat->Prop)(S:St):Prop:=∀a w,Sim w1 (pln G1) S a w->wpList Tryz.prog ops (BT Q) rest a w
variable {ops:Array Oper} {rest:List Oper} {o:Oper}
theorem ee{id:Nat}{ops:List Oper}(h:BOps ops.toArray ops Q w1 G1 S):BWP (.region id ops.toArray false) Q w1 G1 S:=fun a w b=>wp_region_list (by simpa using h a w b)
theorem fD(h:Q .normal w1 G1 S):BOps ops [] Q w1 G1 S:=fun _ _ a=>⟨w1,G1,S,h,a⟩
theorem Hw(j:o.guard=none)(g:dM S.n o.dst=true){t:Tree}(h:OpOK o S t)(k:BOps ops rest Q w1 G1 (S.put o.dst t)):BOps ops (o::rest) Q w1 G1 S:=by
 rintro a w ⟨bx,rv,d,f,c,b⟩;refine eu (by simp[Region.wanted,j]) fun K i=>?_
 have m:=(h w1 (pln G1) bx rv w (fun s=>a.tmps.getD s undef) d fun s _=>b s).wp (Q:=BT Q);refine Oper.wp_mono ?_ m;rintro p w' ⟨v,rfl,l,e⟩;refine i _ _ (k _ _ ⟨bx,rv,?_,by rw[dY,fd,f],by rw[dg,c],?_⟩)
 ·rw[eB,c6];exact d.later e
 rw[c6];exact jE f g (fun _ _ h=>h.later e) b l
theorem bI{n d:Nat}{sl:List (Nat×Tree)}{bs:List (TypeId×List Tree)}{rs:List (Option Row)}{t:Tree}(c:o.guard=none)(a:o.dst=some d)(b:Nat.blt d n=true)(h:OpOK o ⟨n,sl,bs,rs⟩ t)(k:BOps ops rest Q w1 G1 ⟨n,(d,t)::sl,bs,rs⟩):BOps ops (o::rest) Q w1 G1 ⟨n,sl,bs,rs⟩:=by
 refine Hw c ?_ h ?_
 ·rw[a];simpa[dM,Nv]using b
 rw[a];exact k
theorem eS(g:o.guard=none)(h:∀a w,Sim w1 (pln G1) S a w->OpRuns Tryz.prog o (fun s=>a.tmps.getD s undef) w (fun v w'=>∃b G2 c,Sim b (pln G2) c (a.put o.dst v) w'/\BOps ops rest Q b G2 c)):BOps ops (o::rest) Q w1 G1 S:=by
 intro a w f;refine eu (by simp[Region.wanted,g]) fun K d=>?_
 refine Oper.wp_mono ?_ ((h a w f).wp (Q:=BT Q));rintro j w' ⟨v,rfl,b,G2,c,i,e⟩;exact d _ _ (e _ _ i)
end
theorem kS{w:World}{G:Nat->Prop}:(en w (pln G) [] [] []).W=w/\∀b,(en w (pln G) [] [] []).G b↔G b:=⟨Z,fun b=>by simp[en,GG,cR,pln]⟩
theorem PT.sub{w:World}{G G':Nat->Prop}{us:List Value}{ts:List Tree}(h:PT w G us ts)(a:∀b,¬G b->¬G' b):PT w G' us ts:=h.mono (L4 _) fun b _ c=>⟨Z,a b c⟩
theorem FT.gg{w:World}{G:Nat->Prop}{v:Value}{t:Tree}(h:PT w G [v] [t]):FT (en w (pln G) [] [] []) [v] [t]:=.of (h.sub fun b c a=>c ((kS.2 b).1 a))
theorem PT.gg{w:World}{G:Nat->Prop}{us:List Value}{ts:List Tree}(h:PT w (GG (pln G) [] [] []) us ts):PT w G us ts:=h.sub fun b c a=>c (((kS (w:=w)).2 b).2 a)
def wk(G:Nat->Prop)(w:World):Prop:=∀g,G g->g<w.heap.size/\NoDigB w g
theorem mZ{w:World}{G:Nat->Prop}(b:Env w)(a:wk G w):Mem w (pln G) [] [] [] [] w:=
 rx b a
section
variable {w1 w w':World} {G1 G2:Nat->Prop} {n:Nat} {sl:List (Nat×Tree)} {a:Act}
theorem Sim.facts(h:Sim w1 (pln G1) ⟨n,sl,[],[]⟩ a w):Env w/\wk G1 w/\Below w1.heap.size w1 w/\a.tmps.size=n/\a.defers=[]/\∀i,FT (en w (pln G1) [] [] []) [a.tmps.getD i undef] [look sl i]:=by
 obtain⟨bx,rv,b,f,c,d⟩:=h;obtain rfl:bx=[]:=Mr b.nb;obtain rfl:rv=[]:=Mr b.nr;exact⟨b.env,fun g e=>b.ok g (.inl e),b.below.below,f,c,d⟩
theorem Sim.slot(h:Sim w1 (pln G1) ⟨n,sl,[],[]⟩ a w){i:Nat}{t:Tree}(c:look sl i=t)(d:t.plain=true):PT w G1 [a.tmps.getD i undef] [t]:=by
 have b:=h.facts.2.2.2.2.2 i;rw[c]at b;exact(b.plain d).gg
theorem Sim.lit(h:Sim w1 (pln G1) ⟨n,sl,[],[]⟩ a w){i:Nat}{v:Value}(c:look sl i=.sc v):a.tmps.getD i undef=v:=by
 have b:=h.facts.2.2.2.2.2 i;rw[c]at b;exact b.isSc
theorem Sim.mk(e:Env w)(c:wk G2 w)(f:a.tmps.size=n)(b:a.defers=[])(d:∀i,FT (en w (pln G2) [] [] []) [a.tmps.getD i undef] [look sl i]):Sim w (pln G2) ⟨n,sl,[],[]⟩ a w:=⟨[],[],mZ e c,f,b,d⟩
theorem Sim.turn(h:Sim w1 (pln G1) ⟨n,sl,[],[]⟩ a w)(j:Env w')(c:wk G2 w')(d:w.heap.size<=w'.heap.size)(g:∀b,b<w.heap.size->¬G1 b->w'.heap[b]? =w.heap[b]? /\¬G2 b):Sim w' (pln G2) ⟨n,sl,[],[]⟩ a w':=by
 obtain⟨_,_,_,m,e,k⟩:=h.facts;refine Sim.mk j c m e fun i=>(k i).mono d (fun b l c=>?_) (fun _ _ h=>h) (fun _ _ h=>h)
 obtain⟨o,f⟩:=g b l fun h=>c ((kS.2 b).2 h)
 exact⟨o,fun h=>f ((kS.2 b).1 h)⟩
def SlotL(E:En)(T:Nat->Value):List (Nat×Tree)->Prop
 |[]=>True
 |(i,t)::l=>FT E [T i] [t]/\SlotL E T l
theorem SlotL.look{E:En}{T:Nat->Value}:∀{l:List (Nat×Tree)},SlotL E T l->∀i,FT E [T i] [Go.Proofs.YtfoejfohbkmmeaaGreatDoor.look l i]
 |[],_,i=>.any _ .nil
 |(j,t)::l,h,i=>by
  rw[cZ];split
  ·next e=>subst e;exact h.1
  exact SlotL.look h.2 i
def UnbL(S:St)(cs:List Tree):List (Nat×Tree)->Prop
 |[]=>True
 |(i,t)::l=>((S.get i=t/\within 0 0 t=true)\/∃off,S.get i=.box 0 off/\t=.ref (cs.drop off))/\UnbL S cs l
theorem r6{S:St}{cs:List Tree}{E E':En}{T:Nat->Value}(a:∀i,FT E [T i] [S.get i])(c:∀v t,FT E [v] [t]->within 0 0 t=true->FT E' [v] [t])(b:∀v off,FT E [v] [.box 0 off]->FT E' [v] [.ref (cs.drop off)]):∀{l:List (Nat×Tree)},UnbL S cs l->∀i,FT E' [T i] [look l i]
 |[],_,i=>.any _ .nil
 |(j,t)::l,h,i=>by
  rw[cZ];split
  ·next e=>
   subst e;rcases h.1 with⟨e,d⟩|⟨off,e,rfl⟩
   ·exact c _ _ (e▸a j) d
   exact b _ off (e▸a j)
  exact r6 a c b h.2 i
theorem Sim.unbox{S:St}{ty:TypeId}{cs:List Tree}{l:List (Nat×Tree)}(h:Sim w1 (pln G1) S a w)(y:S.bs=[(ty,cs)])(G:S.rs=[])(D:cs.all Tree.plain0=true)(H:UnbL S cs l):Sim w (pln G1) ⟨S.n,l,[],[]⟩ a w/\Below w1.heap.size w1 w/\Env w1/\wk G1 w1/\Env w:=by
 obtain⟨bx,rv,c,L,p,s⟩:=h;have q:wk G1 w:=fun g i=>c.ok g (.inl i)
 refine⟨⟨[],[],mZ c.env q,L,p,?_⟩,c.below.below,c.env0.env0,fun g i=>⟨(c.g0 g i).1,(c.g0 g i).2.1⟩,c.env⟩;have d:∀b,b<w.heap.size->¬GG (pln G1) bx rv S.rs b->w.heap[b]? =w.heap[b]? /\¬GG (pln G1) [] [] [] b:=fun b _ f=>⟨Z,fun h=>f (.inl (((kS (w:=w)).2 b).1 h))⟩
 refine r6 (E':=en w (pln G1) [] [] []) s (fun v t x J=>FT.within (E:=en w (pln G1) bx rv S.rs) (E':=en w (pln G1) [] [] []) (m:=0) (k:=0) (L4 _) d (fun b g f=>absurd f (Oo b)) (fun j v I=>absurd I (Oo j)) x J) (fun v off x=>?_) H;obtain⟨g,us,r,rfl,e,F,_⟩:=pV c (by rw[y];rfl) x;have z:g∈cR bx rv S.rs:=aY.2 (.inl (L7 r));have o:PT w G1 us cs:=(F.plain0s D).sub fun b f B=>f (.inl B)
 refine FT.gg (.ref g off (us.drop off) _ e.lt (fun K=>?_) (fun j u C=>?_) (o.drop off) .nil)
 ·have B:=(c.g0 g K).1;rcases c.ge g z with A|A
  ·omega
  exact A
 rw[e.cell];rw[Nh]at C;simpa using C
theorem Sim.back{w0:World}{G0:Nat->Prop}{l:List (Nat×Tree)}(h:Sim w1 (pln G1) ⟨n,sl,[],[]⟩ a w)(p:Env w0)(m:wk G0 w0)(e:Below w0.heap.size w0 w)(r:SlotL (en w (pln G0) [] [] []) (fun i=>a.tmps.getD i undef) l):Sim w0 (pln G0) ⟨n,l,[],[]⟩ a w:=by
 obtain⟨_,_,_,q,d,_⟩:=h.facts;exact⟨[],[],⟨.of e,.pln p,fun g o=>⟨(m g o).1,(m g o).2,id⟩,Z,Z,fun i g f=>by simp at f,fun k v R c=>by simp at c,⟨List.nodup_nil,fun k v R b c=>by simp at c,fun j k u v X R b _ c=>by simp at c⟩,fun b e=>by simp[cR]at e,fun i f=>absurd f (Oo i)⟩,q,d,fun i=>r.look i⟩
theorem fE(h:Sim w' (pln G2) ⟨n,sl,[],[]⟩ a w'){d:Nat}{v:Value}{t:Tree}(e:d<n)(k:FT (en w' (pln G2) [] [] []) [v] [t]):Sim w' (pln G2) ⟨n,(d,t)::sl,[],[]⟩ (a.put (some d) v) w':=by
 obtain⟨j,f,_,c,b,g⟩:=h.facts;refine Sim.mk j f (by rw[dY];exact c) (by rw[dg];exact b) fun i=>?_
 rw[gD a (some d) v n c (by simpa[dM]using e)];simp only[MK,cZ];split
 ·exact k
 exact g i
end
theorem oU{S:St}{o:Oper}{x:Operand}{t e:TypeId}{m n c:Nat}{A:Option Addr}(a:o.op=.call {callee:=.builtin .len,args:=#[x],argTypes:=#[t]})(h:gN Tryz.prog t=some (e,m))(g:S.ev x=.sc (.slice A n c)):OpOK o S (iT (n:Nat)):=by
 intro w0 G0 bx rv w T i d;have b:=(bL d g (by rw[a];simp[Op.operands,Call.operands])).isSc;obtain⟨f,_⟩:=jp h;refine aC (v:=.int .i64 (n:Nat)) (W':=w) ?_ ⟨.pure (.sc _ .nil) .nil,Below.refl _ _⟩;simp[execOp,a,resolve,invoke,builtin,Builtin.len_,b,run_underlying f,goInt]
theorem i8{S:St}{o:Oper}{x g:Operand}{t e:TypeId}{m n c b off j r:Nat}{k:IntKind}{i:Int}(d:o.op=.indexAddr t x g)(s:gN Tryz.prog t=some (e,m))(p:S.ev x=.sc (.slice (some ⟨b,off,none⟩) n c))(y:S.ev g=.sc (.int k i))(u:i=(j:Nat))(q:j<n)(a:off+j*m=r):OpOK o S (.sc (.pointer (some ⟨b,r,none⟩))):=by
 subst a u;intro w0 G0 bx rv w T z f;have h:=(bL f p (by rw[d];simp[Op.operands])).isSc;have l:=(bL f y (by rw[d];simp[Op.operands])).isSc;have a:=lw (P:=Tryz.prog) (w:=w) (b:=b) (o:=off) (n:=n) (c:=c) (k:=k) (i:=((j:Nat):Int)) s (by omega) (by omega);refine aC (v:=.pointer (some ⟨b,off+j*m,none⟩)) (W':=w) ?_ ⟨.pure (.sc _ .nil) .nil,Below.refl _ _⟩;simp[execOp,d,h,l,a]
theorem wl{w0:World}{G0:Nat->Prop}{Q:Exit->St->Prop}{S:St}{c:Code}(h:BWP c (fun e w1 G1 S=>w1=w0/\G1=G0/\Q e S) w0 G0 S):AWP w0 (pln G0) c Q S:=fun a w f=>wp_mono (h a w f) fun _ _ _ ⟨_,_,S',⟨b,g,i⟩,d⟩=>⟨S',i,b▸g▸d⟩
theorem zT{w:World}{t e:TypeId}{z v:Value}(p:gN Tryz.prog t=some (e,1))(c:gz Tryz.prog e=some [z])(n:v.oneCell'=true):(Instr.buildSlice t 1 #[(0,v)]).run Tryz.prog w=.ok (.slice (some ⟨w.heap.size,0,none⟩) 1 1) (w.alloc (.cells #[v] e)):=by
 obtain⟨m,i,j,o⟩:=jp p;unfold gz at c;simp only[j,M9,Nb]at c;obtain⟨a,g,l⟩:=c;have h:a.cells=#[z]:=by apply Pb;simpa using l
 have d:v.cells=#[v]:=pW n;have f:(zeroValue e).run Tryz.prog w=.ok a w:=by simp[zeroValue,typeInfo,j,g]
 have b:(sizeOf e).run Tryz.prog w=.ok 1 w:=by simp[sizeOf,typeInfo,j,o]
 have k:Instr.fill (fun x=>some (x*1,1)) ((Array.range (1*1)).map fun x=>a.cells[x%a.cells.size]!) [(0,v)]=some #[v]:=by
  rw[h];simp only[Instr.fill,d];rw[if_neg (by simp),show Array.range (1*1)=#[0] by decide];simp
 simp only[Instr.buildSlice,Sem.run_bind,run_underlying m,Result.andThen_ok,b,gt_iff_lt];rw[if_neg (by decide),if_neg (by decide)];simp only[Sem.run_bind,f,Result.andThen_ok,Sem.run_pure,k,newRow,newObj];rfl
theorem kj{w:World}{o:Oper}{T:Nat->Value}{t e:TypeId}{s:Nat}{z:Value}(c:o.op=.buildSlice t 1 #[(0,.tmp s)])(b:gN Tryz.prog t=some (e,1))(a:gz Tryz.prog e=some [z])(d:(T s).oneCell'=true):(execOp (dU T) o).run Tryz.prog w=.ok (.value (.slice (some ⟨w.heap.size,0,none⟩) 1 1)) (w.alloc (.cells #[T s] e)):=by
 have:=zT (w:=w) b a d;simp[execOp,c,dU,this]
theorem zU{w:World}{o:Oper}{T:Nat->Value}{f:FuncId}{b:Func}{c:Array TypeId}{p q s:Nat}(j:o.op=.call {callee:=.value (.func f),args:=#[.tmp p,.tmp q,.tmp s],argTypes:=c})(g:Tryz.prog.funcs[f]? =some b)(d:(b.name== "runtime.NumGoroutine")=false)(a:b.body.isNone=false):(execOp (dU T) o).run Tryz.prog w=.ok (.enter f #[T p,T q,T s]) w:=by
 have h:¬b.name= "runtime.NumGoroutine" :=by simpa using d
 have i:¬b.body=none:=fun e=>by rw[e]at a;cases a
 simp[execOp,j,resolve,dU,Deferred.ofValue,invoke,callFunc,g,h,i]
theorem r7{w:World}{o:Oper}{T:Nat->Value}{t:TypeId}{s b off:Nat}{u:Value}(d:o.op=.load t (.tmp s))(e:T s=.pointer (some ⟨b,off,none⟩))(c:jo Tryz.prog t=true)(a:w.cell? ⟨b,off,none⟩=some u):(execOp (dU T) o).run Tryz.prog w=.ok (.value u) w:=by
 have:=jq (P:=Tryz.prog) c a;simp[execOp,d,dU,e,this]
section
variable {w1:World} {G1:Nat->Prop} {Q:Exit->World->(Nat->Prop)->St->Prop} {ops:Array Oper} {rest:List Oper} {o:Oper} {n d:Nat} {sl:List (Nat×Tree)}
theorem fT{t e:TypeId}{s:Nat}{z:Value}(A:o.op=.buildSlice t 1 #[(0,.tmp s)])(r:o.guard=none)(m:o.dst=some d)(x:Nat.blt d n=true)(y:gN Tryz.prog t=some (e,1))(q:gz Tryz.prog e=some [z])(p:∀a w,Sim w1 (pln G1) ⟨n,sl,[],[]⟩ a w->(a.tmps.getD s undef).oneCell'=true)
  (k:∀a w,Sim w1 (pln G1) ⟨n,sl,[],[]⟩ a w->BOps ops rest Q (w.alloc (.cells #[a.tmps.getD s undef] e)) G1 ⟨n,(d,.sc (.slice (some ⟨w.heap.size,0,none⟩) 1 1))::sl,[],[]⟩):BOps ops (o::rest) Q w1 G1 ⟨n,sl,[],[]⟩:=by
 refine eS r fun a w f=>?_
 obtain⟨u,i,_⟩:=f.facts;have c:Below w.heap.size w (w.alloc (.cells #[a.tmps.getD s undef] e)):=(Below.refl _ _).alloc (L4 _) _;refine aC (v:=.slice (some ⟨w.heap.size,0,none⟩) 1 1) (W':=w.alloc (.cells #[a.tmps.getD s undef] e)) ?_ ⟨_,_,_,?_,k a w f⟩
 ·exact kj (T:=fun s=>a.tmps.getD s undef) A y q (p a w f)
 rw[m];exact fE (f.turn (u.below c (L4 _)) (fun g h=>⟨Mj (i g h).1 c.size,(i g h).2.of (c.block g (i g h).1)⟩) c.size fun b l j=>⟨c.block b l,j⟩) (by simpa[Nv]using x) (.pure (.sc _ .nil) .nil)
theorem lD{t e:TypeId}{s:Nat}{z:Value}(A:o.op=.buildSlice t 1 #[(0,.tmp s)])(r:o.guard=none)(p:o.dst=some d)(x:Nat.blt d n=true)(y:gN Tryz.prog t=some (e,1))(q:gz Tryz.prog e=some [z])(m:∀a w,Sim w1 (pln G1) ⟨n,sl,[],[]⟩ a w->(a.tmps.getD s undef).oneCell'=true/\bQ (a.tmps.getD s undef)=true)
  (k:∀a w,Sim w1 (pln G1) ⟨n,sl,[],[]⟩ a w->BOps ops rest Q (w.alloc (.cells #[a.tmps.getD s undef] e)) (fun b=>G1 b\/b=w.heap.size) ⟨n,(d,.sc (.slice (some ⟨w.heap.size,0,none⟩) 1 1))::sl,[],[]⟩):BOps ops (o::rest) Q w1 G1 ⟨n,sl,[],[]⟩:=by
 refine eS r fun a w c=>?_
 obtain⟨u,i,_⟩:=c.facts;have f:Below w.heap.size w (w.alloc (.cells #[a.tmps.getD s undef] e)):=(Below.refl _ _).alloc (L4 _) _;refine aC (v:=.slice (some ⟨w.heap.size,0,none⟩) 1 1) (W':=w.alloc (.cells #[a.tmps.getD s undef] e)) ?_ ⟨_,_,_,?_,k a w c⟩
 ·exact kj (T:=fun s=>a.tmps.getD s undef) A y q (m a w c).1
 rw[p];refine fE (c.turn (u.below f (L4 _)) (fun g h=>?_) f.size fun b l j=>⟨f.block b l,fun h=>h.elim j (by omega)⟩) (by simpa[Nv]using x) (.pure (.sc _ .nil) .nil);rcases h with h|rfl
 ·exact⟨Mj (i g h).1 f.size,(i g h).2.of (f.block g (i g h).1)⟩
 exact⟨by simp,cH (heap_alloc_new _ _) (by simpa using(m a w c).2)⟩
theorem lE{f:FuncId}{g:Func}{b:Array TypeId}{p q s:Nat}(u:o.op=.call {callee:=.value (.func f),args:=#[.tmp p,.tmp q,.tmp s],argTypes:=b})(t:o.guard=none)(l:o.dst=some d)(m:Tryz.prog.funcs[f]? =some g)(i:(g.name== "runtime.NumGoroutine")=false)(c:g.body.isNone=false)
  (h:∀a w,Sim w1 (pln G1) ⟨n,sl,[],[]⟩ a w->Calls Tryz.prog f #[a.tmps.getD p undef,a.tmps.getD q undef,a.tmps.getD s undef] w fun e w'=>∃v,e=.returned v/\∃k G2 j,Sim k (pln G2) j (a.put (some d) v) w'/\BOps ops rest Q k G2 j):BOps ops (o::rest) Q w1 G1 ⟨n,sl,[],[]⟩:=by
 refine eS t fun a w r=>?_
 rw[l];exact cP (f:=f) (args:=#[a.tmps.getD p undef,a.tmps.getD q undef,a.tmps.getD s undef]) (zU (T:=fun s=>a.tmps.getD s undef) u m i c) (h a w r)
theorem Sim.put1{a:Act}{w:World}{v:Value}{t:Tree}(h:Sim w1 (pln G1) ⟨n,sl,[],[]⟩ a w)(g:d<n)(j:FT (en w (pln G1) [] [] []) [v] [t]):Sim w1 (pln G1) ⟨n,(d,t)::sl,[],[]⟩ (a.put (some d) v) w:=by
 obtain⟨bx,rv,b,f,c,e⟩:=h;obtain rfl:bx=[]:=Mr b.nb;obtain rfl:rv=[]:=Mr b.nr;refine⟨[],[],b,by rw[dY];exact f,by rw[dg];exact c,fun i=>?_⟩;rw[gD a (some d) v n f (by simpa[dM]using g)];show FT _ _ [look ((d,t)::sl) i]
 simp only[MK,cZ];split
 ·exact j
 exact e i
theorem nW{t:TypeId}{s b off:Nat}{u:Value}(r:o.op=.load t (.tmp s))(i:o.guard=none)(g:o.dst=some d)(m:Nat.blt d n=true)(h:look sl s=.sc (.pointer (some ⟨b,off,none⟩)))(q:jo Tryz.prog t=true)(l:b<w1.heap.size)(p:w1.cell? ⟨b,off,none⟩=some u)(k:BOps ops rest Q w1 G1 ⟨n,(d,.sc u)::sl,[],[]⟩):BOps ops (o::rest) Q w1 G1 ⟨n,sl,[],[]⟩:=by
 refine eS i fun a w c=>?_
 obtain⟨_,_,f,_⟩:=c.facts;have j:=c.lit h;have e:w.cell? ⟨b,off,none⟩=some u:=by rw[<-p];exact World.cell?_of_block (f.block b l)
 refine aC (v:=u) (W':=w) ?_ ⟨_,_,_,?_,k⟩
 ·exact r7 (T:=fun s=>a.tmps.getD s undef) r j q e
 rw[g];exact c.put1 (by simpa[Nv]using m) (.pure (.sc _ .nil) .nil)
theorem Sim.later{a:Act}{w w':World}(h:Sim w1 (pln G1) ⟨n,sl,[],[]⟩ a w)(d:Below w.heap.size w w'):Sim w1 (pln G1) ⟨n,sl,[],[]⟩ a w':=by
 obtain⟨bx,rv,e,f,b,c⟩:=h;exact⟨bx,rv,e.later d,f,b,fun i=>(c i).later d⟩
theorem zV{w:World}{o:Oper}{T:Nat->Value}{f g:FuncId}{b:Func}{c:Array TypeId}{p q:Nat}(k:o.op=.call {callee:=.value (.func f),args:=#[.tmp p,.tmp q,.func g],argTypes:=c})(h:Tryz.prog.funcs[f]? =some b)(d:(b.name== "runtime.NumGoroutine")=false)(a:b.body.isNone=false):(execOp (dU T) o).run Tryz.prog w=.ok (.enter f #[T p,T q,Hd g]) w:=by
 have i:¬b.name= "runtime.NumGoroutine" :=by simpa using d
 have j:¬b.body=none:=fun e=>by rw[e]at a;cases a
 simp[execOp,k,resolve,dU,Hd,Deferred.ofValue,invoke,callFunc,h,i,j]
theorem zW{f g:FuncId}{i:Func}{b:Array TypeId}{p q:Nat}{t:Tree}(B:o.op=.call {callee:=.value (.func f),args:=#[.tmp p,.tmp q,.func g],argTypes:=b})(x:o.guard=none)(m:o.dst=some d)(A:Nat.blt d n=true)(r:Tryz.prog.funcs[f]? =some i)(j:(i.name== "runtime.NumGoroutine")=false)(c:i.body.isNone=false)
  (h:∀a w,Sim w1 (pln G1) ⟨n,sl,[],[]⟩ a w->Calls Tryz.prog f #[a.tmps.getD p undef,a.tmps.getD q undef,Hd g] w fun e w'=>∃v,e=.returned v/\PT w' G1 [v] [t]/\Below w.heap.size w w') (k:BOps ops rest Q w1 G1 ⟨n,(d,t)::sl,[],[]⟩):BOps ops (o::rest) Q w1 G1 ⟨n,sl,[],[]⟩:=by
 refine eS x fun a w l=>?_
 rw[m];refine cP (f:=f) (args:=#[a.tmps.getD p undef,a.tmps.getD q undef,Hd g]) (zV (T:=fun s=>a.tmps.getD s undef) B r j c) ((h a w l).mono ?_);rintro e w' ⟨v,u,y,z⟩;exact⟨v,u,w1,G1,_,(l.later z).put1 (by simpa[Nv]using A) (FT.gg y),k⟩
theorem jR{w w':World}{o:Oper}{T:Nat->Value}{t:TypeId}{p q:Nat}{v x y:Value}(c:o.op=.call {callee:=.builtin .append,args:=#[.tmp p,.tmp q],argTypes:=#[t,t]})(b:T p=x)(a:T q=y)(d:(Builtin.append_ #[t,t] o.type #[x,y]).run Tryz.prog w=.ok v w'):(execOp (dU T) o).run Tryz.prog w=.ok (.value v) w':=by
 simp[execOp,c,resolve,dU,invoke,builtin,b,a,d]
theorem mv{w:World}{o:Oper}{T:Nat->Value}{ty:TypeId}{p q b off:Nat}{v y:Value}(s:o.op=.store ty (.tmp p) (.tmp q))(h:T p=.pointer (some ⟨b,off,none⟩))(l:T q=v)(g:(Tryz.prog.info? ty).map (·.size)=some 1)(f:v.oneCell'=true)(r:w.cell? ⟨b,off,none⟩=some y)(k:w.frozen? ⟨b,off,none⟩=false):(execOp (dU T) o).run Tryz.prog w=.ok .skip (w.setCell ⟨b,off,none⟩ v):=by
 have c:=run_storeCells_cells (P:=Tryz.prog) b off [v] 0 w (fun j e=>by
  have:j=0:=by simpa using e
  subst this;show(w.cell? ⟨b,off,none⟩).isSome=true
  rw[r];rfl) (fun j e=>by
  have:j=0:=by simpa using e
  subst this;exact k) (fun x n=>by rw[Mm.1 n];exact f)
 have d:v.cells=#[v]:=pW f;cases a:Tryz.prog.info? ty with
 |none=>simp[a]at g
 |some i=>
  have m:i.size=1:=by simpa[a]using g
  simp[execOp,s,dU,h,l,Instr.storeAt,Instr.sureAddr,storeVar,sizeOf,typeInfo,a,m,d]at c⊢;simp[c,World.setCells]
end
end Go.Proofs.YtfoejfohbkmmeaaGreatDoor
