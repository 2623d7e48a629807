import Derived.Test.YtfoejfohbkmmeaaGreatDoorK17
import Derived.Lib.SliceRun
set_option linter.defProp false
open Go.Proofs.Tryz
namespace Go.Proofs.YtfoejfohbkmmeaaGreatDoor
open Go.RowKit
open Lib renaming hid→J
section
variable {w0:World} {G0:Bse} {S:St} {o:Oper}
def oi{W:World}{G:Nat->Prop}:∀{l:List UInt8} {xs:List Value},PT W G xs (ak l)->xs=bZ l
 |[],xs,h=>by cases h;rfl
 |_::l,xs,h=>by
  cases h with
  |sc v h=>rw[oi (l:=l) h];rfl
def yf{W:World}{G:Nat->Prop}{v:Value}{l:List UInt8}(h:PT W G [v] [.sl (ak l)]):∃A c,v=.slice A l.length c/\At W W.heap.size A (bZ l):=by
 obtain⟨A,c,a,f,k,m,d⟩:=PT.slice h;rw[aA]at a f d;refine⟨A,c,a,λj=>?_⟩;obtain⟨b,off,xs,rfl,g,_,i,e⟩:=d (by rwa[eR]at j);rw[kG]at e;rw[<-oi e];exact⟨b,off,Z,g,i⟩
def eH{x:Operand}{l:List UInt8}(b:o.op=.convert 22 9 x)(g:S.ev x=.sl (ak l)):OpOK o S (.sc (.string ⟨l.toArray⟩)):=by
 intro w0 G0 bx rv w T h f;obtain⟨A,c,d,e⟩:=yf (bP f g (by rw[b];simp[Op.operands])).isSl;refine aE (v:=.string ⟨l.toArray⟩) (W':=w) ?_ ⟨.pure (.sc _ .nil) .nil,Below.refl _ _⟩;have a:=tV c e;simp only[en]at a;simp[execOp,b,d,a]
def vt{x y:Operand}{t u e:TypeId}{k:Nat}{R:Row}{s:ByteArray}(G:o.op=.call {callee:=.builtin .append,args:=#[x,y],argTypes:=#[t,u]})(Z:cF S.n o.dst=true)(ht:kI prog t=some (R.e,R.sz,1))(Y:(prog.info? R.e).bind (·.zero)=some (.int .u8 0))(hu:prog.underlying u=some .string)(hx:S.ev x=.own k)(C:S.rs[k]? =some (some R))(hy:S.ev y=sT s)(B:R.sz=1)(h3:R.es.length+s.size<=1073741824):
  lM w0 G0 o S ({S.kill k with rs:=S.rs.set k (some (⟨R.e,R.sz,R.es++ak s.data.toList,false⟩:Row))}.put o.dst (.own k)):=by
 rintro a w ⟨bx,rv,Q,K,E,j⟩;have U:=bP (op:=o.op) (T:=λs=>a.tmps.getD s undef) (S:=S) (λs _=>j s) hx (by rw[G];simp[Op.operands,Call.operands]);have W:=(bP (op:=o.op) (T:=λs=>a.tmps.getD s undef) (S:=S) (λs _=>j s) hy (by rw[G];simp[Op.operands,Call.operands])).isSc;generalize (λs=>a.tmps.getD s undef)=T at U W⊢;obtain⟨X,xs,b,I,J,F⟩:=gT Q C U;obtain⟨L,⟨i,z,N,r,q,D,a1,a0⟩,V⟩:=qw ht;have M:z=.int .u8 0:=by
  rw[N,Sp,r]at Y;exact Sw Y
 subst M;rw[B]at b q;obtain⟨v',w',hr,H,d,m,p⟩:=Jb (P:=prog) w 0 t u o.type R.e i L hu N r q D (dG T x) R.es.length xs b s O (Rg _) F;refine aE (v:=v') (W':=w') ?_ (uC (R':=⟨R.e,R.sz,R.es++ak s.data.toList,false⟩) (xs:=xs++bZ s.data.toList) Q K E j Z X C d m (by
  show w'.ownsRow _ _ R.sz _ (R.es++ak s.data.toList).length _
  rw[Q4,aA,B,show s.data.toList.length=s.size by simp];exact H) ?_ ⟨J.1.append (by rw[B];exact aP _),λh=>by cases h⟩ p)
 ·simp only[execOp,G,resolve,invoke,builtin,Sem.run_bind,Sem.run_pure,Result.andThen_ok,Tk,Sb,TD,W,hr]
 have f:=n7 (G0:=G0) (bx:=bx) (w:=w) (w':=w') (v':=v') (R':=⟨R.e,R.sz,R.es++ak s.data.toList,false⟩) X C d (λg A=>by
  rcases m with h|h
  ·exact .inl (h▸A)
  rw[h]at A;injection A with A;exact .inr O)
 rw[jO,kG];refine(I.mono d.size f).append ?_;have:∀l:List UInt8,PT w' (GG G0 bx (rv.set k v') (S.rs.set k (some ⟨R.e,R.sz,R.es++ak s.data.toList,false⟩))) (bZ l) (ak l):=λl=>by
  induction l with
  |nil=>exact .nil
  |cons c l ih=>exact .sc _ ih
 exact this _
def lQ{ops:Array Oper}{a:List Oper}{Q:Exit->St->Prop}{n d k:Nat}{sl sl':List (Nat×Tree)}{bs bs':List (TypeId×List Tree)}{rs rs':List (Option Row)}{x y:Operand}{t u:TypeId}{R:Row}{s:ByteArray}(q:o.op=.call {callee:=.builtin .append,args:=#[x,y],argTypes:=#[t,u]})(l:o.guard=none)(g:o.dst=some d)(m:Nat.blt d n=true)(r:kI prog t=some (R.e,R.sz,1))(A:(prog.info? R.e).bind (·.zero)=some (.int .u8 0))(v:prog.underlying u=some .string)(w:St.ev ⟨n,sl,bs,rs⟩ x=.own k)(j:rs[k]? =some (some R))(z:St.ev ⟨n,sl,bs,rs⟩ y=sT s)(h:R.sz=1)(i:R.es.length+s.size<=1073741824)(f:sl.map (λp=>(p.1,fk k p.2))=sl')(b:bs.map (λp=>(p.1,p.2.map (iH k)))=bs')(c:rs.set k (some ⟨R.e,R.sz,R.es++ak s.data.toList,false⟩)=rs')
  (K:AOps w0 G0 ops a Q ⟨n,(d,.own k)::sl',bs',rs'⟩):AOps w0 G0 ops (o::a) Q ⟨n,sl,bs,rs⟩:=by
 subst f b c;refine dA l (vt (S:=⟨n,sl,bs,rs⟩) (e:=t) q (by rw[g];simpa[cF,R5]using m) r A v w j z h i) ?_;rw[g];exact K
def G8{ty:TypeId}{h:List Value}(p:o.op=.alloc ty)(k:cF S.n o.dst=true)(c:ij prog ty=some h)(m:h.all bR=true):lM w0 G0 o S ({S with bs:=S.bs++[(ty,h.map Tree.sc)]}.put o.dst (.box S.bs.length 0)):=by
 rintro a w ⟨bx,rv,j,b,d,f⟩;unfold ij at c;simp only[TH,R9]at c;obtain⟨i,l,z,c,rfl⟩:=c;have e:=j.addBox (ty:=ty) (us:=z.cells.toList) (cs:=z.cells.toList.map Tree.sc) (.of (Jj _ _ _)) m;refine aE (v:=.pointer (some ⟨w.heap.size,0,none⟩)) (W':=w.alloc (.cells z.cells ty)) ?_ ⟨bx++[w.heap.size],rv,?_,by rw[ee,eu,b],by rw[df,d],?_⟩
 ·have g:(zeroValue ty).run prog w=.ok z w:=by simp[zeroValue,typeInfo,l,c]
  simp[execOp,p,Instr.alloc,newVar,newRow,newObj,Sem.run,g]
 ·rw[dJ,cj];simpa using e
 rw[cj];intro i;rw[gA a o.dst _ S.n b k,dh];split
 ·exact .box _ _ _ (by show(bx++[w.heap.size])[S.bs.length]? =_;rw[<-j.nb];simp) .nil
 exact mb _ (f i)
def qW{ops:Array Oper}{a:List Oper}{Q:Exit->St->Prop}{n d b:Nat}{sl:List (Nat×Tree)}{bs bs':List (TypeId×List Tree)}{rs:List (Option Row)}{ty:TypeId}{e:List Value}{cs:List Tree}(m:o.op=.alloc ty)(j:o.guard=none)(f:o.dst=some d)(l:Nat.blt d n=true)(p:ij prog ty=some e)(g:e.all bR=true)(i:e.map Tree.sc=cs)(h:bs.length=b)(c:bs++[(ty,cs)]=bs')
  (k:AOps w0 G0 ops a Q ⟨n,(d,.box b 0)::sl,bs',rs⟩):AOps w0 G0 ops (o::a) Q ⟨n,sl,bs,rs⟩:=by
 subst i h c;refine dA j (G8 (S:=⟨n,sl,bs,rs⟩) m (by rw[f];simpa[cF,R5]using l) p g) ?_;rw[f];exact k
end
def CtE(f:FuncId)(args:List Tree)(P:Tree->Prop):Prop:=(∃fn,prog.funcs[f]? =some fn/\(fn.name== "runtime.NumGoroutine")=false/\fn.body.isNone=false)/\∀(G:Nat->Prop) (w:World) (vs:List Value),Env w->(∀g,G g->g<w.heap.size/\NoDigB w g)->PT w G vs args->
 Calls prog f vs.toArray w λe w'=>∃v r,P r/\e=.returned v/\PT w' G [v] [r]/\Below w.heap.size w w'
def QJ(o:Oper)(S:St)(P:Tree->Prop):Prop:=∀(w0:World) (G0:Bse) (bx:List Nat) (rv:List Value) (w:World) (T:Nat->Value),Mem w0 G0 S.bs S.rs bx rv w->
 (∀s,(fd o.op).contains s=true->FT (en w G0 bx rv S.rs) [T s] [S.get s])->OpRuns prog o T w λv w'=>∃t,P t/\FT (en w' G0 bx rv S.rs) [v] [t]/\Below w.heap.size w w'
section
variable {w0:World} {G0:Bse} {ops:Array Oper} {rest:List Oper} {Q:Exit->St->Prop} {o:Oper} {n:Nat} {sl:List (Nat×Tree)} {bs:List (TypeId×List Tree)} {rs:List (Option Row)} {S:St}
def mo{f:FuncId}{xs:Array Operand}{a:Array TypeId}{ts:List Tree}{P:Tree->Prop}(j:o.op=.call {callee:=.value (.func f),args:=xs,argTypes:=a})(b:CtE f ts P)(y:xs.toList.map S.ev=ts)(u:ts.all Tree.plain=true):QJ o S P:=by
 intro w0 G0 bx rv w T i s;have h:=ka (S:=S) s xs.toList (λx A=>by rw[j];simp only[Op.operands,Call.operands];simp;exact .inr (by simpa using A));rw[y]at h;obtain⟨⟨d,n,p,g⟩,b⟩:=b;have c:=b (GG G0 bx rv S.rs) w _ i.env i.ok (h.plains u);refine cW (f:=f) (args:=(xs.toList.map (dG T)).toArray) ?_ (c.mono ?_)
 ·have k:¬d.name= "runtime.NumGoroutine" :=by simpa using p
  have l:¬d.body=none:=λe=>by rw[e]at g;cases g
  have m:(xs.toList.map (dG T)).toArray=xs.map (dG T):=TR F;rw[m];simp[execOp,j,resolve,dG,Deferred.ofValue,invoke,callFunc,n,k,l]
 rintro e w' ⟨v,r,q,rfl,z,t⟩;exact⟨v,Z,r,q,.pure z .nil,t⟩
def lG{d:Nat}(P:Tree->Prop)(u:o.guard=none)(l:o.dst=some d)(x:Nat.blt d n=true)(h:QJ o ⟨n,sl,bs,rs⟩ P)(k:∀t,P t->AOps w0 G0 ops rest Q ⟨n,(d,t)::sl,bs,rs⟩):AOps w0 G0 ops (o::rest) Q ⟨n,sl,bs,rs⟩:=by
 rintro a w ⟨bx,rv,m,c,e,b⟩;have p:=h w0 G0 bx rv w (λs=>a.tmps.getD s undef) m λs _=>b s
 have f:cF n o.dst=true:=by rw[l];simpa[cF,R5]using x
 refine fj (by simp[Region.wanted,u]) λK q=>?_
 refine Oper.wp_mono ?_ (p.wp (Q:=Dx w0 G0 Q));rintro z w' ⟨v,rfl,t,r,y,j⟩;refine q _ _ (k t r _ _ ⟨bx,rv,m.later j,by rw[ee];exact c,by rw[df,e],?_⟩);have:=jx (S:=⟨n,sl,bs,rs⟩) (o:=o) (t:=t) (rs:=rs) (w':=w') c f (λ_ _ h=>h.later j) b y;intro i;have g:=this i;rw[l]at g⊢;exact g
def CtE.of{f:FuncId}{d:Func}{c:Code}{args:List Tree}{P:Tree->Prop}{n:Nat}{k:List ResultVar}(A:prog.funcs[f]? =some d)(z:d.body=some c)(o:(d.name== "runtime.NumGoroutine")=false)(T:d.ntmps=n)(B:Nat.ble args.length n=true)(Q:d.results.toList=k)
  (h:∀w0 G0,AWP w0 (pln G0) c (λe S=>∃r,P r/\Md k r e S) ⟨n,iI 0 args,[],[]⟩):CtE f args P:=by
 refine⟨⟨d,A,o,by rw[z];rfl⟩,λG w vs K L E=>?_⟩;have C:=E.length;have B:args.length<=n:=by simpa using B
 refine calls_of_wp A z (wp_mono (h w G _ w ⟨[],[],oP K L,?_,Z,λi=>?_⟩) ?_)
 ·simp;omega
 ·show FT _ _ [look (iI 0 args) i]
  rw[kt,if_pos (Rg _),TW];cases R:args[i]? with
  |none=>exact .any _ .nil
  |some t=>
   obtain⟨u,H,y⟩:=E.get i t R;have O:=(Q6.1 H).1;have I:(vs.toArray++Array.replicate (d.ntmps-vs.toArray.size) undef).getD i undef=u:=by
    rw[RU,Tc (by simpa using O),SO,H];rfl
   rw[I];refine .pure (y.mono (Q3 _) λb _ g=>⟨Z,λh=>?_⟩) .nil;rcases h with h|h
   ·exact g h
   simp[cJ]at h
 rintro e a w' ⟨S',⟨r,M,N,ts,q,rfl,p⟩,bx,rv,D,_,l,s⟩;obtain⟨us,j,m⟩:=gV D s (Q▸q);have key:a.defers=[]/\∃v,(results d a.tmps).run prog w'=.ok v w'/\(λe w'=>∃v r,P r/\e=Ending.returned v/\PT w' G [v] [r]/\Below w.heap.size w w') (.returned v) w':=by
  refine⟨l,if h:us.toArray.size=1 then us.toArray[0]else .tuple us.toArray,?_,_,ll ts,M,Z,?_,D.below.below⟩
  ·unfold results;rw[Sem.run_bind,SR,Sem.run_map];exact congrArg (λx:Result (List Value)=>(x.andThen λa w'=>Result.ok a.toArray w').andThen λa w'=>Sem.run prog (pure (if h:a.size=1 then a[0]else Value.tuple a)) w') j
  have J:FT (en w' (pln G) bx rv S'.rs) [if h:us.toArray.size=1 then us.toArray[0]else .tuple us.toArray] [ll ts]:=by
   match us,ts,m with
   |[],[],_=>exact .tup [] [] .nil .nil
   |[u],[t],h=>exact h
   |u::u'::us,t::t'::ts,h=>
    rw[dif_neg F];exact .tup _ _ h .nil
  exact(J.plain p).mono (Q3 _) λb _ g=>⟨Z,λh=>g (.inl h)⟩
 rcases N with rfl|rfl
 ·exact key
 exact key
end
def nl{x y:Operand}(a b:Nat)(c:0<b)(w:World):(do eqGuard .rem 3 x y (.int .i64 (a:Nat)) (.int .i64 (b:Nat));binOp .rem 3 (.int .i64 (a:Nat)) (.int .i64 (b:Nat)):Sem Value).run prog w=.ok (.int .i64 ((a%b:Nat):Int)) w:=by
 go_simp;rw[if_neg O,Te O]
def uf{x y:Operand}(a b:Nat)(e:0<b)(c:a<9223372036854775808)(w:World):(do eqGuard .quo 3 x y (.int .i64 (a:Nat)) (.int .i64 (b:Nat));binOp .quo 3 (.int .i64 (a:Nat)) (.int .i64 (b:Nat)):Sem Value).run prog w=.ok (.int .i64 ((a/b:Nat):Int)) w:=by
 have key:IntKind.i64.wrap ((a:Int)/(b:Int))=((a/b:Nat):Int):=by
  have d:a/b<=a:=Ti a b;rw[show((a:Int)/(b:Int))=((a/b:Nat):Int) by simp,RZ];generalize a/b=q at*;omega
 clear c;go_simp;omega
def G9(n:Int):bits .and .i64 n 65535=n%65536:=by
 have a:(BitVec.ofInt 64 65535).toNat=2^16-1:=I
 have key:(BitVec.ofInt 64 n&&& BitVec.ofInt 64 65535).toNat=(n%((2^64:Nat):Int)).toNat%2^16:=by
  rw[BitVec.toNat_and,BitVec.toNat_ofInt,a,Tj]
 show IntKind.i64.wrap ((BitVec.ofInt 64 n&&& BitVec.ofInt 64 65535).toNat:Nat)=n%65536
 rw[key,RZ];omega
def J9(n:Int):bits .and .i64 n 7=n%8:=by
 have a:(BitVec.ofInt 64 7).toNat=2^3-1:=I
 have key:(BitVec.ofInt 64 n&&& BitVec.ofInt 64 7).toNat=(n%((2^64:Nat):Int)).toNat%2^3:=by
  rw[BitVec.toNat_and,BitVec.toNat_ofInt,a,Tj]
 show IntKind.i64.wrap ((BitVec.ofInt 64 n&&& BitVec.ofInt 64 7).toNat:Nat)=n%8
 rw[key,RZ];omega
def yg{x y:Operand}(a:Int)(w:World):(do eqGuard .and 3 x y (.int .i64 a) (.int .i64 65535);binOp .and 3 (.int .i64 a) (.int .i64 65535):Sem Value).run prog w=.ok (.int .i64 (((a%65536).toNat:Nat):Int)) w:=by
 have key:bits .and .i64 a 65535=(((a%65536).toNat:Nat):Int):=by rw[G9];omega
 go_simp
def vu{x y:Operand}(a:Nat)(w:World):(do eqGuard .and 3 x y (.int .i64 (a:Nat)) (.int .i64 7);binOp .and 3 (.int .i64 (a:Nat)) (.int .i64 7):Sem Value).run prog w=.ok (.int .i64 ((a%8:Nat):Int)) w:=by
 have key:bits .and .i64 (a:Int) 7=((a%8:Nat):Int):=by rw[J9];omega
 go_simp
def kf{x y:Operand}(a k:Nat)(b:k<64)(w:World):(do eqGuard .shr 3 x y (.int .i64 (a:Nat)) (.int .u64 (k:Nat));binOp .shr 3 (.int .i64 (a:Nat)) (.int .u64 (k:Nat)):Sem Value).run prog w=.ok (.int .i64 ((a/2^k:Nat):Int)) w:=by
 simp[eqGuard,binOp,Op.shift,IntKind.bits]
def FV{L:Nat}{o:Oper}{n d k:Nat}{sl:List (Nat×Tree)}{bs:List (TypeId×List Tree)}{rs rs':List (Option Row)}{t e:TypeId}{x y:Operand}{m sz a:Nat}{z:List Value}{K J:IntKind}{w v:Int}{zt:Tree}(i:o.op=.makeSlice t x y)(A:o.dst=some d)(D:Nat.blt d n=true)(E:kI prog t=some (e,sz,a))(I:ij prog e=some z)(G:St.ev ⟨n,sl,bs,rs⟩ x=.sc (.int K w))(H:St.ev ⟨n,sl,bs,rs⟩ y=.sc (.int J v))(h:w=m)(g:v=m)(q:zt.cells=z.map eg)(C:m<=1073741824)(f:Nat.ble a 100000=true)(B:rs.length=k)(j:rs++[some ⟨e,sz,List.replicate m zt,true⟩]=rs'):xz L o ⟨n,sl,bs,rs⟩ id (.own k) bs rs':=by
 subst B j;intro w0 G0 S M r u c b;dsimp only at r u c;have l:=nR b (by rw[i];simp[Op.operands]) G F;have p:=nR b (by rw[i];simp[Op.operands]) H F;refine⟨_,Fu (S:=S) i (by rw[A,r];simpa[cF,R5]using D) E I l p h g q C f,by rw[eu],by rw[dJ,u],by rw[cj];dsimp only;rw[c],λs=>?_⟩;rw[dh,c];rfl
def om{D:Nat}{o:Oper}{n:Nat}{sl:List (Nat×Tree)}{bs:List (TypeId×List Tree)}{rs rs':List (Option Row)}{ty:TypeId}{x y:Operand}{k off j:Nat}{R:Row}{t:Tree}(f:o.op=.store ty x y)(a:o.dst=none)(C:St.ev ⟨n,sl,bs,rs⟩ x=.elp k off)(u:rs[k]? =some (some R))(b:off=j*R.sz)(v:j<R.es.length)(B:St.ev ⟨n,sl,bs,rs⟩ y=t)(m:t.oneA=true)(q:t.cells.all Tree.one=true)(r:t.cells.all Tree.noDig=true)(z:t.cells.all Tree.plain0=true)(A:(prog.info? ty).map (·.size)=some R.sz)(w:t.cells.length=R.sz)(g:rs.set k (some ⟨R.e,R.sz,R.es.set j t,R.tt⟩)=rs'):xz D o ⟨n,sl,bs,rs⟩ id .any bs rs':=by
 subst g;intro w0 G0 S E p l d c;dsimp only at p l d;have h:=nR c (by rw[f];simp[Op.operands]) C F;have i:=nR c (by rw[f];simp[Op.operands]) B (by rintro rfl;simp[Tree.oneA,Tree.one]at m);refine⟨_,qC (S:=S) f a h (by rw[d];exact u) b v i m q r z A w,Z,l,by dsimp only;rw[d],λs=>?_⟩;rw[a,if_neg F];rfl
section
variable {w0:World} {G0:Bse} {S:St} {o:Oper}
def yh{t e:TypeId}{m g d:Nat}{x:Operand}{u:TypeId}{es:List Tree}(f:o.op=.binOp .eql t x (.const (.slice none g d)) u)(p:gQ prog t=some (e,m))(s:S.ev x=.sl es):QJ o S (λr=>∃b:Bool,(b=true->es=[])/\r=bT b):=by
 intro w0 G0 bx rv w T z n;obtain⟨q,_⟩:=lj p;obtain⟨A,c,i,_,_,y,j⟩:=(bP n s (by rw[f];simp[Op.operands])).isSl.slice;refine aE (v:=.bool A.isNone) (W':=w) ?_ ⟨_,⟨A.isNone,λh=>?_,Z⟩,.pure (.sc _ .nil) .nil,Below.refl _ _⟩
 ·simp only[execOp,f,i];rw[Sem.run_bind];have:=Lib.run_eql_slice_nil (P:=prog) w t e A es.length c g d q;simp only[dG,eqGuard];simp[this]
 cases A with
 |none=>
  cases es with
  |nil=>rfl
  |cons a l=>
   obtain⟨b,off,xs,k,_⟩:=j F;cases k
 |some a=>cases h
def Ha{t e:TypeId}{sz by_:Nat}(ho:o.op=.buildSlice t 0 #[])(hd:cF S.n o.dst=true)(ht:kI prog t=some (e,sz,by_)):lM w0 G0 o S ({S with rs:=S.rs++[some (⟨e,sz,[],true⟩:Row)]}.put o.dst (.own S.rs.length)):=by
 rintro a w ⟨bx,rv,hmm,hsz,hdf,hsl⟩;obtain⟨hu,⟨i,z,hi,hz',hsi,hbi,hzs,hzd⟩,hpos⟩:=qw ht;have hown:=World.ownsRow_lit (base:=w.heap.size) (e:=e) (size:=sz) w #[] 0 (Q3 _) (by simp only[maxLen];omega) F;have hb:Below w.heap.size w (w.alloc (.cells #[] e)):=(Below.refl _ _).alloc (Q3 _) _;have hnd:∀g,(Value.slice (some ⟨w.heap.size,0,none⟩) 0 0).ownBlock=some g->NoDigB (w.alloc (.cells #[] e)) g:=λg hg=>by
  injection hg with hg
  subst hg;exact cU (heap_alloc_new w _) Z
 obtain⟨m1,m2⟩:=hmm.addRow (R:=⟨e,sz,[],true⟩) (v:=.slice (some ⟨w.heap.size,0,none⟩) 0 0) hb (by simpa using hown) .nil ⟨λx hx=>(by cases hx),λ_ A n c e=>(by cases e;rfl)⟩ hnd;refine aE (v:=.slice (some ⟨w.heap.size,0,none⟩) 0 0) (W':=w.alloc (.cells #[] e)) ?_ (mX hsz hdf hd hmm.nr m1 ⟨_,_,_,Z⟩ (λi=>m2 [_] [_] (hsl i)) Z);have hs':(sizeOf e).run prog w=.ok i.size w:=by simp[sizeOf,typeInfo,hi]
 have hrun:(Instr.buildSlice t 0 #[]).run prog w=.ok (.slice (some ⟨w.heap.size,0,none⟩) 0 0) (w.alloc (.cells #[] e)):=by
  simp[Instr.buildSlice,run_underlying hu,hs',Instr.fill,newRow,newObj];rw[show(Array.map (λ_=>(default:Value)) (Array.range 0))=#[]from by simp];rfl
 simp[execOp,ho,hrun]
end
def ji{w0:World}{G0:Bse}{o:Oper}{ops:Array Oper}{a:List Oper}{Q:Exit->St->Prop}{n d k:Nat}{sl:List (Nat×Tree)}{bs:List (TypeId×List Tree)}{rs rs':List (Option Row)}{t e:TypeId}{sz b:Nat}(j:o.op=.buildSlice t 0 #[])(g:o.guard=none)(f:o.dst=some d)(i:Nat.blt d n=true)(l:kI prog t=some (e,sz,b))(h:rs.length=k)(c:rs++[some ⟨e,sz,[],true⟩]=rs')(K:AOps w0 G0 ops a Q ⟨n,(d,.own k)::sl,bs,rs'⟩):AOps w0 G0 ops (o::a) Q ⟨n,sl,bs,rs⟩:=by
 subst h c;refine dA g (Ha (S:=⟨n,sl,bs,rs⟩) j (by rw[f];simpa[cF,R5]using i) l) ?_;rw[f];exact K
def MO(f:FuncId):Value:=dG (λ_=>undef) (.func f)
section
variable {S:St} {o:Oper}
def BG{f:FuncId}{s:Nat}{xs:Array Operand}{b:Array TypeId}{ts:List Tree}{r:Tree}(g:o.op=.call {callee:=.value (.tmp s),args:=xs,argTypes:=b})(A:S.ev (.tmp s)=.sc (MO f))(c:Ct f ts r)(B:xs.toList.map S.ev=ts)(z:ts.all Tree.plain=true):OpOK o S r:=by
 intro w0 G0 bx rv w T m k;have l:=ka (S:=S) k xs.toList (λx C=>by rw[g];simp only[Op.operands,Call.operands];simp;exact .inr (by simpa using C));rw[B]at l;have h:=(bP k A (by rw[g];simp[Op.operands,Call.operands])).isSc;have a:T s=MO f:=h;unfold MO dG at a;obtain⟨⟨i,t,u,j⟩,c⟩:=c;have d:=c (GG G0 bx rv S.rs) w _ m.env m.ok (l.plains z);refine cW (f:=f) (args:=(xs.toList.map (dG T)).toArray) ?_ (d.mono ?_)
 ·have n:¬i.name= "runtime.NumGoroutine" :=by simpa using u
  have p:¬i.body=none:=λe=>by rw[e]at j;cases j
  have q:(xs.toList.map (dG T)).toArray=xs.map (dG T):=TR F;rw[q];simp[execOp,g,resolve,a,dG,Deferred.ofValue,invoke,callFunc,t,n,p]
 rintro e w' ⟨v,rfl,h,y⟩;exact⟨v,Z,.pure h .nil,y⟩
end
