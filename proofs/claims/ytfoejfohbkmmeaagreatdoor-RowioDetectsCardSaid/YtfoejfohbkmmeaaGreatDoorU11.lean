import Derived.Test.YtfoejfohbkmmeaaGreatDoorU10
import Derived.Test.YtfoejfohbkmmeaaGreatDoorU04
import Derived.Test.YtfoejfohbkmmeaaGreatDoorU08
import Derived.Test.YtfoejfohbkmmeaaGreatDoorU00
import Derived.Laws.BitsLemmas
import Derived.Test.YtfoejfohbkmmeaaGreatDoorU09
import Derived.Lib.SliceRun
namespace Go.Proofs.YtfoejfohbkmmeaaGreatDoor
open Go.RowKit
open Lib renaming hid→J
section
variable {w0:World} {G0:Nat->Prop} {S:St} {o:Oper}
theorem p9{W:World}{G:Nat->Prop}:∀{l:List UInt8} {xs:List Value},PT W G xs (bg l)->xs=bH l
 |[],xs,h=>by cases h;rfl
 |_::l,xs,h=>by
  cases h with
  |sc v h=>rw[p9 (l:=l) h];rfl
theorem CB{W:World}{G:Nat->Prop}{v:Value}{l:List UInt8}(h:PT W G [v] [.sl (bg l)]):∃A c,v=.slice A l.length c/\At W W.heap.size A (bH l):=by
 obtain⟨A,c,e,j,k,m,a⟩:=PT.slice h;rw[a7]at e j a;refine⟨A,c,e,fun i=>?_⟩;obtain⟨b,off,xs,rfl,f,_,g,d⟩:=a (by rwa[eO]at i);rw[kW]at d;rw[<-p9 d];exact⟨b,off,Z,f,g⟩
theorem pA{x:Operand}{l:List UInt8}(b:o.op=.convert 22 9 x)(d:S.ev x=.sl (bg l)):OpOK o S (.sc (.string ⟨l.toArray⟩)):=by
 intro w0 G0 bx rv w T h f;obtain⟨A,c,e,g⟩:=CB (bI f d (by rw[b];simp[Op.operands])).isSl;refine aq (v:=.string ⟨l.toArray⟩) (W':=w) ?_ ⟨.pure (.sc _ .nil) .nil,Below.refl _ _⟩;have a:=qO c g;simp only[en]at a;simp[execOp,b,e,a]
theorem ze{x y:Operand}{t u e:TypeId}{k:Nat}{R:Row}{s:ByteArray}(J:o.op=.call {callee:=.builtin .append,args:=#[x,y],argTypes:=#[t,u]})(hd:cT S.n o.dst=true)(ht:lM Tryz.prog t=some (R.e,R.sz,1))(O:(Tryz.prog.info? R.e).bind (·.zero)=some (.int .u8 0))(Y:Tryz.prog.underlying u=some .string)(Z:S.ev x=.own k)(B:S.rs[k]? =some (some R))(hy:S.ev y=sT s)(D:R.sz=1)(h3:R.es.length+s.size<=1073741824):
  n5 w0 G0 o S ({S.kill k with rs:=S.rs.set k (some (⟨R.e,R.sz,R.es++bg s.data.toList,false⟩:Row))}.put o.dst (.own k)):=by
 rintro a w ⟨bx,rv,L,G,F,d⟩;have U:=bI (op:=o.op) (T:=fun s=>a.tmps.getD s undef) (S:=S) (fun s _=>d s) Z (by rw[J];simp[Op.operands,Call.operands]);have X:=(bI (op:=o.op) (T:=fun s=>a.tmps.getD s undef) (S:=S) (fun s _=>d s) hy (by rw[J];simp[Op.operands,Call.operands])).isSc;generalize (fun s=>a.tmps.getD s undef)=T at U X⊢;obtain⟨W,xs,b,M,C,K⟩:=jn L B U;obtain⟨H,⟨i,z,Q,m,p,I,a1,a0⟩,V⟩:=qQ ht;have E:z=.int .u8 0:=by
  rw[Q,Nc,m]at O;exact Nt O
 subst E;rw[D]at b p;obtain⟨v',w',hr,N,f,q,r⟩:=Ea (P:=Tryz.prog) w w0.heap.size t u o.type R.e i H Y Q m p I (cA T x) R.es.length xs b s (by omega) L.below.size K;refine aq (v:=v') (W':=w') ?_ (wJ (R':=⟨R.e,R.sz,R.es++bg s.data.toList,false⟩) (xs:=xs++bH s.data.toList) L G F d hd W B f q (by
  show w'.ownsRow _ _ R.sz _ (R.es++bg s.data.toList).length _
  rw[Mc,a7,D,show s.data.toList.length=s.size by simp];exact N) ?_ ⟨C.1.append (by rw[D];exact lU _),fun h=>by cases h⟩ r)
 ·simp only[execOp,J,resolve,invoke,builtin,Sem.run_bind,Sem.run_pure,Result.andThen_ok,Nf,MX,ND,X,hr]
 have j:=n8 (G0:=G0) (bx:=bx) (w:=w) (w':=w') (v':=v') (R':=⟨R.e,R.sz,R.es++bg s.data.toList,false⟩) W B f (fun g A=>by
  rcases q with h|h
  ·exact .inl (h▸A)
  rw[h]at A;injection A with A;exact .inr (by omega))
 rw[iF,kW];refine(M.mono f.size j).append ?_;have:∀l:List UInt8,PT w' (GG G0 bx (rv.set k v') (S.rs.set k (some ⟨R.e,R.sz,R.es++bg s.data.toList,false⟩))) (bH l) (bg l):=fun l=>by
  induction l with
  |nil=>exact .nil
  |cons c l ih=>exact .sc _ ih
 exact this _
theorem j6{ops:Array Oper}{a:List Oper}{Q:Exit->St->Prop}{n d k:Nat}{sl sl':List (Nat×Tree)}{bs bs':List (TypeId×List Tree)}{rs rs':List (Option Row)}{x y:Operand}{t u:TypeId}{R:Row}{s:ByteArray}(l:o.op=.call {callee:=.builtin .append,args:=#[x,y],argTypes:=#[t,u]})(w:o.guard=none)(g:o.dst=some d)(i:Nat.blt d n=true)(m:lM Tryz.prog t=some (R.e,R.sz,1))(h:(Tryz.prog.info? R.e).bind (·.zero)=some (.int .u8 0))(q:Tryz.prog.underlying u=some .string)(r:St.ev ⟨n,sl,bs,rs⟩ x=.own k)(z:rs[k]? =some (some R))(v:St.ev ⟨n,sl,bs,rs⟩ y=sT s)(A:R.sz=1)(j:R.es.length+s.size<=1073741824)(c:sl.map (fun p=>(p.1,lI k p.2))=sl')(b:bs.map (fun p=>(p.1,p.2.map (gZ k)))=bs')(f:rs.set k (some ⟨R.e,R.sz,R.es++bg s.data.toList,false⟩)=rs')
  (K:AOps w0 G0 ops a Q ⟨n,(d,.own k)::sl',bs',rs'⟩):AOps w0 G0 ops (o::a) Q ⟨n,sl,bs,rs⟩:=by
 subst c b f;refine eD w (ze (S:=⟨n,sl,bs,rs⟩) (e:=t) l (by rw[g];simpa[cT,Nn]using i) m h q r z v A j) ?_;rw[g];exact K
theorem CC{ty:TypeId}{h:List Value}(m:o.op=.alloc ty)(p:cT S.n o.dst=true)(b:gc Tryz.prog ty=some h)(l:h.all bL=true):n5 w0 G0 o S ({S with bs:=S.bs++[(ty,h.map Tree.sc)]}.put o.dst (.box S.bs.length 0)):=by
 rintro a w ⟨bx,rv,j,c,d,e⟩;unfold gc at b;simp only[Ot,Na]at b;obtain⟨i,k,z,b,rfl⟩:=b;have g:=j.addBox (ty:=ty) (us:=z.cells.toList) (cs:=z.cells.toList.map Tree.sc) (.of (Ei _ _ _)) l;refine aq (v:=.pointer (some ⟨w.heap.size,0,none⟩)) (W':=w.alloc (.cells z.cells ty)) ?_ ⟨bx++[w.heap.size],rv,?_,by rw[dB,eo,c],by rw[cH,d],?_⟩
 ·have f:(zeroValue ty).run Tryz.prog w=.ok z w:=by simp[zeroValue,typeInfo,k,b]
  simp[execOp,m,Instr.alloc,newVar,newRow,newObj,Sem.run,f]
 ·rw[dC,ch];simpa using g
 rw[ch];intro i;rw[ga a o.dst _ S.n c p,dk];split
 ·exact .box _ _ _ (by show(bx++[w.heap.size])[S.bs.length]? =_;rw[<-j.nb];simp) .nil
 exact kg _ (e i)
theorem vC{ops:Array Oper}{a:List Oper}{Q:Exit->St->Prop}{n d b:Nat}{sl:List (Nat×Tree)}{bs bs':List (TypeId×List Tree)}{rs:List (Option Row)}{ty:TypeId}{e:List Value}{cs:List Tree}(i:o.op=.alloc ty)(l:o.guard=none)(f:o.dst=some d)(h:Nat.blt d n=true)(g:gc Tryz.prog ty=some e)(p:e.all bL=true)(j:e.map Tree.sc=cs)(m:bs.length=b)(c:bs++[(ty,cs)]=bs')
  (k:AOps w0 G0 ops a Q ⟨n,(d,.box b 0)::sl,bs',rs⟩):AOps w0 G0 ops (o::a) Q ⟨n,sl,bs,rs⟩:=by
 subst j m c;refine eD l (CC (S:=⟨n,sl,bs,rs⟩) i (by rw[f];simpa[cT,Nn]using h) g p) ?_;rw[f];exact k
end
def CtE(f:FuncId)(args:List Tree)(P:Tree->Prop):Prop:=(∃fn,Tryz.prog.funcs[f]? =some fn/\(fn.name== "runtime.NumGoroutine")=false/\fn.body.isNone=false)/\∀(G:Nat->Prop) (w:World) (vs:List Value),Env w->(∀g,G g->g<w.heap.size/\NoDigB w g)->PT w G vs args->
 Calls Tryz.prog f vs.toArray w fun e w'=>∃v r,P r/\e=.returned v/\PT w' G [v] [r]/\Below w.heap.size w w'
def Lv(o:Oper)(S:St)(P:Tree->Prop):Prop:=∀(w0:World) (G0:Nat->Prop) (bx:List Nat) (rv:List Value) (w:World) (T:Nat->Value),Mem w0 G0 S.bs S.rs bx rv w->
 (∀s,(dN o.op).contains s=true->FT (en w G0 bx rv S.rs) [T s] [S.get s])->OpRuns Tryz.prog o T w fun v w'=>∃t,P t/\FT (en w' G0 bx rv S.rs) [v] [t]/\Below w.heap.size w w'
section
variable {w0:World} {G0:Nat->Prop} {ops:Array Oper} {rest:List Oper} {Q:Exit->St->Prop} {o:Oper} {n:Nat} {sl:List (Nat×Tree)} {bs:List (TypeId×List Tree)} {rs:List (Option Row)} {S:St}
theorem kk{f:FuncId}{xs:Array Operand}{b:Array TypeId}{ts:List Tree}{P:Tree->Prop}(h:o.op=.call {callee:=.value (.func f),args:=xs,argTypes:=b})(c:CtE f ts P)(p:xs.toList.map S.ev=ts)(s:ts.all Tree.plain=true):Lv o S P:=by
 intro w0 G0 bx rv w T i t;have g:=n3 (S:=S) t xs.toList (fun x k=>by rw[h];simp only[Op.operands,Call.operands];simp;exact .inr (by simpa using k));rw[p]at g;obtain⟨⟨j,l,u,d⟩,c⟩:=c;have a:=c (GG G0 bx rv S.rs) w _ i.env i.ok (g.plains s);refine bJ (f:=f) (args:=(xs.toList.map (cA T)).toArray) ?_ (a.mono ?_)
 ·have q:¬j.name= "runtime.NumGoroutine" :=by simpa using u
  have m:¬j.body=none:=fun e=>by rw[e]at d;cases d
  have y:(xs.toList.map (cA T)).toArray=xs.map (cA T):=OW (by simp);rw[y];simp[execOp,h,resolve,cA,Deferred.ofValue,invoke,callFunc,l,q,m]
 rintro e w' ⟨v,r,n,rfl,z,A⟩;exact⟨v,Z,r,n,.pure z .nil,A⟩
theorem jP{d:Nat}(P:Tree->Prop)(x:o.guard=none)(l:o.dst=some d)(r:Nat.blt d n=true)(h:Lv o ⟨n,sl,bs,rs⟩ P)(k:∀t,P t->AOps w0 G0 ops rest Q ⟨n,(d,t)::sl,bs,rs⟩):AOps w0 G0 ops (o::rest) Q ⟨n,sl,bs,rs⟩:=by
 rintro a w ⟨bx,rv,j,c,e,b⟩;have y:=h w0 G0 bx rv w (fun s=>a.tmps.getD s undef) j fun s _=>b s
 have f:cT n o.dst=true:=by rw[l];simpa[cT,Nn]using r
 refine ec (by simp[Region.wanted,x]) fun K q=>?_
 refine Oper.wp_mono ?_ (y.wp (Q:=yW w0 G0 Q));rintro z w' ⟨v,rfl,t,p,u,g⟩;refine q _ _ (k t p _ _ ⟨bx,rv,j.later g,by rw[dB];exact c,by rw[cH,e],?_⟩);have:=gY (S:=⟨n,sl,bs,rs⟩) (o:=o) (t:=t) (rs:=rs) (w':=w') c f (fun _ _ h=>h.later g) b u;intro i;have m:=this i;rw[l]at m⊢;exact m
theorem CtE.of{f:FuncId}{d:Func}{c:Code}{args:List Tree}{P:Tree->Prop}{n:Nat}{o:List ResultVar}(K:Tryz.prog.funcs[f]? =some d)(q:d.body=some c)(C:(d.name== "runtime.NumGoroutine")=false)(Y:d.ntmps=n)(H:Nat.ble args.length n=true)(Q:d.results.toList=o)
  (h:∀w0 G0,AWP w0 G0 c (fun e S=>∃r,P r/\J3 o r e S) ⟨n,j5 0 args,[],[]⟩):CtE f args P:=by
 refine⟨⟨d,K,C,by rw[q];rfl⟩,fun G w vs M N I=>?_⟩;have J:=I.length;have H:args.length<=n:=by simpa using H
 refine calls_of_wp K q (wp_mono (h w G _ w ⟨[],[],⟨Below.refl _ _,M,N,Z,Z,fun i g z=>by simp at z,fun k v R p=>by simp at p,⟨Pb,fun k v R b p=>by simp at p,fun j k u v X R b _ p=>by simp at p⟩,fun b q=>by simp[cq]at q⟩,?_,Z,fun i=>?_⟩) ?_)
 ·simp;omega
 ·show FT _ _ [look (j5 0 args) i]
  rw[mB,if_pos (Mx _),O8];cases U:args[i]? with
  |none=>exact .any _ .nil
  |some t=>
   obtain⟨u,F,D⟩:=I.get i t U;have z:=(L7.1 F).1;have V:(vs.toArray++Array.replicate (d.ntmps-vs.toArray.size) undef).getD i undef=u:=by
    rw[MV,Oz (by simpa using z),NV,F];rfl
   rw[V];refine .pure (D.mono (L5 _) fun b _ l=>⟨Z,fun h=>?_⟩) .nil;rcases h with h|h
   ·exact l h
   simp[cq]at h
 rintro e a w' ⟨S',⟨r,T,W,ts,E,rfl,y⟩,bx,rv,L,_,A,s⟩;obtain⟨us,m,B⟩:=jK L s (Q▸E);have key:a.defers=[]/\∃v,(results d a.tmps).run Tryz.prog w'=.ok v w'/\(fun e w'=>∃v r,P r/\e=Ending.returned v/\PT w' G [v] [r]/\Below w.heap.size w w') (.returned v) w':=by
  refine⟨A,if h:us.toArray.size=1 then us.toArray[0]else .tuple us.toArray,?_,_,mA ts,T,Z,?_,L.below⟩
  ·unfold results;rw[Sem.run_bind,Ol,Sem.run_map];exact congrArg (fun x:Result (List Value)=>(x.andThen fun a w'=>Result.ok a.toArray w').andThen fun a w'=>Sem.run Tryz.prog (pure (if h:a.size=1 then a[0]else Value.tuple a)) w') m
  have O:FT (en w' G bx rv S'.rs) [if h:us.toArray.size=1 then us.toArray[0]else .tuple us.toArray] [mA ts]:=by
   match us,ts,B with
   |[],[],_=>exact .tup [] [] .nil .nil
   |[u],[t],h=>exact h
   |u::u'::us,t::t'::ts,h=>
    rw[dif_neg (by simp)];exact .tup _ _ h .nil
  exact(O.plain y).mono (L5 _) fun b _ l=>⟨Z,fun h=>l (.inl h)⟩
 rcases W with rfl|rfl
 ·exact key
 exact key
end
theorem mF{x y:Operand}(a b:Nat)(c:0<b)(w:World):(do eqGuard .rem 3 x y (.int .i64 (a:Nat)) (.int .i64 (b:Nat));binOp .rem 3 (.int .i64 (a:Nat)) (.int .i64 (b:Nat)):Sem Value).run Tryz.prog w=.ok (.int .i64 ((a%b:Nat):Int)) w:=by
 go_simp;rw[if_neg (by omega),OA (by omega)]
theorem Bs{x y:Operand}(a b:Nat)(e:0<b)(c:a<9223372036854775808)(w:World):(do eqGuard .quo 3 x y (.int .i64 (a:Nat)) (.int .i64 (b:Nat));binOp .quo 3 (.int .i64 (a:Nat)) (.int .i64 (b:Nat)):Sem Value).run Tryz.prog w=.ok (.int .i64 ((a/b:Nat):Int)) w:=by
 have key:IntKind.i64.wrap ((a:Int)/(b:Int))=((a/b:Nat):Int):=by
  have d:a/b<=a:=NY a b;rw[show((a:Int)/(b:Int))=((a/b:Nat):Int) by simp,Ns];generalize a/b=q at*;omega
 clear c;go_simp;omega
theorem CD(n:Int):bits .and .i64 n 65535=n%65536:=by
 have a:(BitVec.ofInt 64 65535).toNat=2^16-1:=by decide
 have key:(BitVec.ofInt 64 n&&& BitVec.ofInt 64 65535).toNat=(n%((2^64:Nat):Int)).toNat%2^16:=by
  rw[BitVec.toNat_and,BitVec.toNat_ofInt,a,On]
 show IntKind.i64.wrap ((BitVec.ofInt 64 n&&& BitVec.ofInt 64 65535).toNat:Nat)=n%65536
 rw[key,Ns];omega
theorem Ey(n:Int):bits .and .i64 n 7=n%8:=by
 have a:(BitVec.ofInt 64 7).toNat=2^3-1:=by decide
 have key:(BitVec.ofInt 64 n&&& BitVec.ofInt 64 7).toNat=(n%((2^64:Nat):Int)).toNat%2^3:=by
  rw[BitVec.toNat_and,BitVec.toNat_ofInt,a,On]
 show IntKind.i64.wrap ((BitVec.ofInt 64 n&&& BitVec.ofInt 64 7).toNat:Nat)=n%8
 rw[key,Ns];omega
theorem tY{x y:Operand}(a:Int)(w:World):(do eqGuard .and 3 x y (.int .i64 a) (.int .i64 65535);binOp .and 3 (.int .i64 a) (.int .i64 65535):Sem Value).run Tryz.prog w=.ok (.int .i64 (((a%65536).toNat:Nat):Int)) w:=by
 have key:bits .and .i64 a 65535=(((a%65536).toNat:Nat):Int):=by rw[CD];omega
 go_simp
theorem wV{x y:Operand}(a:Nat)(w:World):(do eqGuard .and 3 x y (.int .i64 (a:Nat)) (.int .i64 7);binOp .and 3 (.int .i64 (a:Nat)) (.int .i64 7):Sem Value).run Tryz.prog w=.ok (.int .i64 ((a%8:Nat):Int)) w:=by
 have key:bits .and .i64 (a:Int) 7=((a%8:Nat):Int):=by rw[Ey];omega
 go_simp
theorem iW{x y:Operand}(a k:Nat)(b:k<64)(w:World):(do eqGuard .shr 3 x y (.int .i64 (a:Nat)) (.int .u64 (k:Nat));binOp .shr 3 (.int .i64 (a:Nat)) (.int .u64 (k:Nat)):Sem Value).run Tryz.prog w=.ok (.int .i64 ((a/2^k:Nat):Int)) w:=by
 simp[eqGuard,binOp]
theorem Bt{o:Oper}{n d k:Nat}{sl:List (Nat×Tree)}{bs:List (TypeId×List Tree)}{rs rs':List (Option Row)}{t e:TypeId}{x y:Operand}{m sz a:Nat}{z:List Value}{E F:IntKind}{r v:Int}{zt:Tree}(l:o.op=.makeSlice t x y)(H:o.dst=some d)(B:Nat.blt d n=true)(G:lM Tryz.prog t=some (e,sz,a))(A:gc Tryz.prog e=some z)(C:St.ev ⟨n,sl,bs,rs⟩ x=.sc (.int E r))(D:St.ev ⟨n,sl,bs,rs⟩ y=.sc (.int F v))(p:r=m)(c:v=m)(q:zt.cells=z.map dg)(J:m<=1073741824)(h:Nat.ble a 100000=true)(I:rs.length=k)(g:rs++[some ⟨e,sz,List.replicate m zt,true⟩]=rs'):wS o ⟨n,sl,bs,rs⟩ id (.own k) bs rs':=by
 subst I g;intro w0 G0 S w u i b;dsimp only at w u i;have f:=og b (by rw[l];simp[Op.operands]) C (by simp);have j:=og b (by rw[l];simp[Op.operands]) D (by simp);refine⟨_,Br (S:=S) l (by rw[H,w];simpa[cT,Nn]using B) G A f j p c q J h,by rw[eo],by rw[dC,u],by rw[ch];dsimp only;rw[i],fun s=>?_⟩;rw[dk,i];rfl
theorem l6{o:Oper}{n:Nat}{sl:List (Nat×Tree)}{bs:List (TypeId×List Tree)}{rs rs':List (Option Row)}{ty:TypeId}{x y:Operand}{k off j:Nat}{R:Row}{t:Tree}(i:o.op=.store ty x y)(a:o.dst=none)(q:St.ev ⟨n,sl,bs,rs⟩ x=.elp k off)(r:rs[k]? =some (some R))(c:off=j*R.sz)(u:j<R.es.length)(w:St.ev ⟨n,sl,bs,rs⟩ y=t)(l:t.oneA=true)(B:t.cells.all Tree.one=true)(p:t.cells.all Tree.noDig=true)(A:t.cells.all Tree.plain0=true)(C:(Tryz.prog.info? ty).map (·.size)=some R.sz)(v:t.cells.length=R.sz)(f:rs.set k (some ⟨R.e,R.sz,R.es.set j t,R.tt⟩)=rs'):wS o ⟨n,sl,bs,rs⟩ id .any bs rs':=by
 subst f;intro w0 G0 S z m g b;dsimp only at z m g;have d:=og b (by rw[i];simp[Op.operands]) q (by simp);have h:=og b (by rw[i];simp[Op.operands]) w (by rintro rfl;simp[Tree.oneA,Tree.one]at l);refine⟨_,oi (S:=S) i a d (by rw[g];exact r) c u h l B p A C v,Z,m,by dsimp only;rw[g],fun s=>?_⟩;rw[a,if_neg (by simp)];rfl
section
variable {w0:World} {G0:Nat->Prop} {S:St} {o:Oper}
theorem tZ{t e:TypeId}{m f d:Nat}{x:Operand}{q:TypeId}{es:List Tree}(g:o.op=.binOp .eql t x (.const (.slice none f d)) q)(j:gE Tryz.prog t=some (e,m))(k:S.ev x=.sl es):Lv o S (fun r=>∃b:Bool,(b=true->es=[])/\r=bT b):=by
 intro w0 G0 bx rv w T z s;obtain⟨n,_⟩:=jI j;obtain⟨A,c,p,_,_,y,u⟩:=(bI s k (by rw[g];simp[Op.operands])).isSl.slice;refine aq (v:=.bool A.isNone) (W':=w) ?_ ⟨_,⟨A.isNone,fun h=>?_,Z⟩,.pure (.sc _ .nil) .nil,Below.refl _ _⟩
 ·simp only[execOp,g,p];rw[Sem.run_bind];have:=Lib.run_eql_slice_nil (P:=Tryz.prog) w t e A es.length c f d n;simp only[cA,eqGuard];simp[this]
 cases A with
 |none=>
  cases es with
  |nil=>rfl
  |cons a l=>
   obtain⟨b,off,xs,i,_⟩:=u (by simp);cases i
 |some a=>cases h
theorem CE{t e:TypeId}{sz by_:Nat}(ho:o.op=.buildSlice t 0 #[])(hd:cT S.n o.dst=true)(ht:lM Tryz.prog t=some (e,sz,by_)):n5 w0 G0 o S ({S with rs:=S.rs++[some (⟨e,sz,[],true⟩:Row)]}.put o.dst (.own S.rs.length)):=by
 rintro a w ⟨bx,rv,hmm,hsz,hdf,hsl⟩;obtain⟨hu,⟨i,z,hi,hz',hsi,hbi,hzs,hzd⟩,hpos⟩:=qQ ht;have hown:=World.ownsRow_lit (base:=w.heap.size) (e:=e) (size:=sz) w #[] 0 (L5 _) (by simp only[maxLen];omega) (by simp);have hb:Below w.heap.size w (w.alloc (.cells #[] e)):=(Below.refl _ _).alloc (L5 _) _;have hnd:∀g,(Value.slice (some ⟨w.heap.size,0,none⟩) 0 0).ownBlock=some g->NoDigB (w.alloc (.cells #[] e)) g:=fun g hg=>by
  injection hg with hg
  subst hg;exact cI (heap_alloc_new w _) Z
 obtain⟨m1,m2⟩:=hmm.addRow (R:=⟨e,sz,[],true⟩) (v:=.slice (some ⟨w.heap.size,0,none⟩) 0 0) hb (by simpa using hown) .nil ⟨fun x hx=>(by cases hx),fun _ A n c e=>(by cases e;rfl)⟩ hnd;refine aq (v:=.slice (some ⟨w.heap.size,0,none⟩) 0 0) (W':=w.alloc (.cells #[] e)) ?_ (vA hsz hdf hd hmm.nr m1 ⟨_,_,_,Z⟩ (fun i=>m2 [_] [_] (hsl i)) Z);have hs':(sizeOf e).run Tryz.prog w=.ok i.size w:=by simp[sizeOf,typeInfo,hi]
 have hrun:(Instr.buildSlice t 0 #[]).run Tryz.prog w=.ok (.slice (some ⟨w.heap.size,0,none⟩) 0 0) (w.alloc (.cells #[] e)):=by
  simp[Instr.buildSlice,run_underlying hu,hs',Instr.fill,newRow,newObj];rw[show(Array.map (fun _=>(default:Value)) (Array.range 0))=#[]from by simp];rfl
 simp[execOp,ho,hrun]
end
theorem om{w0:World}{G0:Nat->Prop}{o:Oper}{ops:Array Oper}{a:List Oper}{Q:Exit->St->Prop}{n d k:Nat}{sl:List (Nat×Tree)}{bs:List (TypeId×List Tree)}{rs rs':List (Option Row)}{t e:TypeId}{sz b:Nat}(i:o.op=.buildSlice t 0 #[])(l:o.guard=none)(f:o.dst=some d)(g:Nat.blt d n=true)(j:lM Tryz.prog t=some (e,sz,b))(h:rs.length=k)(c:rs++[some ⟨e,sz,[],true⟩]=rs')(K:AOps w0 G0 ops a Q ⟨n,(d,.own k)::sl,bs,rs'⟩):AOps w0 G0 ops (o::a) Q ⟨n,sl,bs,rs⟩:=by
 subst h c;refine eD l (CE (S:=⟨n,sl,bs,rs⟩) i (by rw[f];simpa[cT,Nn]using g) j) ?_;rw[f];exact K
def Gs(f:FuncId):Value:=cA (fun _=>undef) (.func f)
section
variable {S:St} {o:Oper}
theorem wW{f:FuncId}{s:Nat}{xs:Array Operand}{c:Array TypeId}{ts:List Tree}{r:Tree}(g:o.op=.call {callee:=.value (.tmp s),args:=xs,argTypes:=c})(C:S.ev (.tmp s)=.sc (Gs f))(d:Ct f ts r)(t:xs.toList.map S.ev=ts)(y:ts.all Tree.plain=true):OpOK o S r:=by
 intro w0 G0 bx rv w T l j;have k:=n3 (S:=S) j xs.toList (fun x n=>by rw[g];simp only[Op.operands,Call.operands];simp;exact .inr (by simpa using n));rw[t]at k;have h:=(bI j C (by rw[g];simp[Op.operands,Call.operands])).isSc;have a:T s=Gs f:=h;unfold Gs cA at a;obtain⟨⟨m,p,z,i⟩,d⟩:=d;have b:=d (GG G0 bx rv S.rs) w _ l.env l.ok (k.plains y);refine bJ (f:=f) (args:=(xs.toList.map (cA T)).toArray) ?_ (b.mono ?_)
 ·have u:¬m.name= "runtime.NumGoroutine" :=by simpa using z
  have q:¬m.body=none:=fun e=>by rw[e]at i;cases i
  have A:(xs.toList.map (cA T)).toArray=xs.map (cA T):=OW (by simp);rw[A];simp[execOp,g,resolve,a,cA,Deferred.ofValue,invoke,callFunc,p,u,q]
 rintro e w' ⟨v,rfl,h,B⟩;exact⟨v,Z,.pure h .nil,B⟩
end
end Go.Proofs.YtfoejfohbkmmeaaGreatDoor
