import Derived.Test.YtfoejfohbkmmeaaGreatDoorK34
set_option maxRecDepth 100000
set_option maxHeartbeats 4000000
set_option linter.defProp false
open Go.Proofs.Tryz
namespace Go.Proofs.YtfoejfohbkmmeaaGreatDoor
open Go.RowKit
open Lib renaming hid→J
section
variable {w0:World} {G0:Bse} {o:Oper} {S:St}
def CtO.ct{f:FuncId}{args es:List Tree}{e sz:Nat}(h:CtO f args e sz es):Ct f args (.sl es):=⟨h.1,λG w vs c a k=>(h.2 G w vs c a k).mono λx w' ⟨v,xs,g,j,l,_,_,d⟩=>
 ⟨v,g,vL a j (l.mono (Q3 _) λb _ i=>⟨Z,λh=>i (.inl h)⟩),d⟩⟩
def Lm{a:Act}{w':World}{bx:List Nat}{rv:List Value}{v:Value}{R:Row}{d:Nat}{S:St}{r:Value}(b:a.tmps.size=S.n)(e:a.defers=[])(h:cF S.n o.dst=true)(f:rv.length=S.rs.length)(k:Mem w0 G0 S.bs (S.rs++[some R]) bx (rv++[v]) w')(l:∃A n c,v=.slice A n c)(g:∀i,FT (en w' G0 bx (rv++[v]) (S.rs++[some R])) [a.tmps.getD i undef] [S.get i])(j:S.rs.length=d):
  Sim w0 G0 ({S with rs:=S.rs++[some R]}.put o.dst (.tup [.own d,.sc r])) (a.put o.dst (.tuple #[v,r])) w':=by
 subst j;refine⟨bx,rv++[v],by rw[dJ,cj];exact k,by rw[ee,eu];exact b,by rw[df,e],λi=>?_⟩;rw[cj];rw[gA a o.dst _ S.n b h,dh];split
 ·obtain⟨A,n,c,rfl⟩:=l;refine .tup [.slice A n c,r] _ (.own _ n c A ?_ (.pure (.sc r .nil) .nil)) .nil;show fX (rv++[_]) (S.rs++[some R]) S.rs.length=_
  unfold fX;rw[Ru (Q3 _),RW,Ru O,f,RW];rfl
 exact g i
def CtP(f:FuncId)(args:List Tree)(e sz:Nat)(es:List Tree)(r:Value):Prop:=(∃fn,prog.funcs[f]? =some fn/\(fn.name== "runtime.NumGoroutine")=false/\fn.body.isNone=false)/\∀(G:Nat->Prop) (w:World) (vs:List Value),Env w->(∀g,G g->g<w.heap.size/\NoDigB w g)->PT w G vs args->
 Calls prog f vs.toArray w λx w'=>∃v xs,x=.returned (.tuple #[v,r])/\w'.ownsRow w.heap.size e sz v es.length xs/\PT w' (λb=>G b\/v.ownBlock=some b) xs (flat es)/\Sized sz es/\(∀g,v.ownBlock=some g->NoDigB w' g)/\Below w.heap.size w w'
def CtP.ct{f:FuncId}{args es:List Tree}{e sz:Nat}{r:Value}(h:CtP f args e sz es r):Ct f args (.tup [.sl es,.sc r]):=⟨h.1,λG w vs c a k=>(h.2 G w vs c a k).mono λx w' ⟨v,xs,g,j,l,_,_,d⟩=>
 ⟨_,g,.tup [v,r] _ ((vL a j (l.mono (Q3 _) λb _ i=>⟨Z,λh=>i (.inl h)⟩)).cons (.sc r .nil)) .nil,d⟩⟩
def Ln{f:FuncId}{xs:Array Operand}{g:Array TypeId}{ts es:List Tree}{e sz:Nat}{r:Value}(u:o.op=.call {callee:=.value (.func f),args:=xs,argTypes:=g})(H:cF S.n o.dst=true)(j:CtP f ts e sz es r)(J:xs.toList.map S.ev=ts)(I:ts.all Tree.plain=true):lM w0 G0 o S ({S with rs:=S.rs++[some (⟨e,sz,es,false⟩:Row)]}.put o.dst (.tup [.own S.rs.length,.sc r])):=by
 rintro a w ⟨bx,rv,d,m,l,b⟩;have t:=ka (E:=en w G0 bx rv S.rs) (T:=λs=>a.tmps.getD s undef) (op:=o.op) (S:=S) (λs _=>b s) xs.toList (λx L=>by rw[u];simp only[Op.operands,Call.operands];simp;exact .inr (by simpa using L));rw[J]at t;obtain⟨⟨p,D,G,q⟩,j⟩:=j;have k:=j (GG G0 bx rv S.rs) w _ d.env d.ok (t.plains I);refine cW (f:=f) (args:=(xs.toList.map (dG λs=>a.tmps.getD s undef)).toArray) ?_ (k.mono ?_)
 ·have z:¬p.name= "runtime.NumGoroutine" :=by simpa using G
  have B:¬p.body=none:=λe=>by rw[e]at q;cases q
  have C:(xs.toList.map (dG λs=>a.tmps.getD s undef)).toArray=xs.map (dG λs=>a.tmps.getD s undef):=TR F;rw[C];simp[execOp,u,resolve,dG,Deferred.ofValue,invoke,callFunc,D,z,B]
 rintro x w' ⟨v,V,rfl,y,M,N,O,P⟩;obtain⟨Q,U⟩:=d.addRow (R:=⟨e,sz,es,false⟩) P y M ⟨N,λh=>by cases h⟩ O;obtain⟨A,c,K⟩:=ce y;exact⟨_,Z,Lm m l H d.nr Q ⟨A,_,c,K⟩ (λi=>U [_] [_] (b i)) Z⟩
def EQ{ops:Array Oper}{a:List Oper}{Q:Exit->St->Prop}{n d k:Nat}{sl:List (Nat×Tree)}{bs:List (TypeId×List Tree)}{rs rs':List (Option Row)}{f:FuncId}{xs:Array Operand}{b:Array TypeId}{ts es:List Tree}{e sz:Nat}{r:Value}(m:o.op=.call {callee:=.value (.func f),args:=xs,argTypes:=b})(i:o.guard=none)(g:o.dst=some d)(l:Nat.blt d n=true)(h:CtP f ts e sz es r)(q:xs.toList.map (St.ev ⟨n,sl,bs,rs⟩)=ts)(p:ts.all Tree.plain=true)(j:rs.length=k)(c:rs++[some ⟨e,sz,es,false⟩]=rs')(K:AOps w0 G0 ops a Q ⟨n,(d,.tup [.own k,.sc r])::sl,bs,rs'⟩):AOps w0 G0 ops (o::a) Q ⟨n,sl,bs,rs⟩:=by
 subst j c;refine dA i (Ln (S:=⟨n,sl,bs,rs⟩) m (by rw[g];simpa[cF,R5]using l) h q p) ?_;rw[g];exact K
def Ql(s s2:Nat)(e sz:Nat)(es:List Tree)(r:Value)(x:Exit)(S:St):Prop:=(x=.normal\/x=.ret)/\∃k tt,S.get s=.own k/\S.rs[k]? =some (some ⟨e,sz,es,tt⟩)/\S.get s2=.sc r
def CtP.of{f:FuncId}{d:Func}{c:Code}{args es:List Tree}{e sz n s L:Nat}{r:Value}(N:prog.funcs[f]? =some d)(M:d.body=some c)(E:(d.name== "runtime.NumGoroutine")=false)(hn:d.ntmps=n)(O:Nat.ble args.length n=true)(Y:d.results.toList=[.tmp s,.tmp L])
  (h:∀w0 G0,AWP w0 (pln G0) c (Ql s L e sz es r) ⟨n,iI 0 args,[],[]⟩):CtP f args e sz es r:=by
 refine⟨⟨d,N,E,by rw[M];rfl⟩,λG w vs U V Q=>?_⟩;have P:=Q.length;have O:args.length<=n:=by simpa using O
 refine calls_of_wp N M (wp_mono (h w G _ w ⟨[],[],oP U V,?_,Z,λi=>?_⟩) ?_)
 ·simp;omega
 ·show FT _ _ [look (iI 0 args) i]
  rw[kt,if_pos (Rg _),TW];cases ht:args[i]? with
  |none=>exact .any _ .nil
  |some t=>
   obtain⟨u,R,K⟩:=Q.get i t ht;have X:=(Q6.1 R).1;have A:(vs.toArray++Array.replicate (d.ntmps-vs.toArray.size) undef).getD i undef=u:=by
    rw[RU,Tc (by simpa using X),SO,R];rfl
   rw[A];refine .pure (K.mono (Q3 _) λb _ j=>⟨Z,λh=>?_⟩) .nil;rcases h with h|h
   ·exact j h
   simp[cJ]at h
 rintro x a w' ⟨S',⟨W,k,tt,hs,C,H⟩,bx,rv,z,_,B,I⟩;obtain⟨us,y,l⟩:=gV z I (Y▸(.cons hs (.cons H .nil):ResL S' [.tmp s,.tmp L] [.own k,.sc r]));obtain⟨u,m,rfl⟩:∃u m,us=[u,m]:=by
  match us,l with
  |[u,m],_=>exact⟨u,m,Z⟩
  |[],h=>cases h
  |[u],h=>have:=h.length;simp at this
  |u::u'::m::us,h=>have:=h.length;simp at this
 obtain⟨_,A,o⟩:=l.get 0 _ Z;obtain⟨_,T,p⟩:=l.get 1 _ Z;cases A;cases T;obtain rfl:=p.isSc;obtain⟨S,xs,q,F,J,D⟩:=gT z C o;have key:a.defers=[]/\∃v,(results d a.tmps).run prog w'=.ok v w'/\(λx w'=>∃v xs,x=Ending.returned (.tuple #[v,m])/\w'.ownsRow w.heap.size e sz v es.length xs/\PT w' (λb=>G b\/v.ownBlock=some b) xs (flat es)/\Sized sz es/\(∀g,v.ownBlock=some g->NoDigB w' g)/\Below w.heap.size w w') (.returned v) w':=by
  refine⟨B,.tuple #[u,m],?_,u,xs,Z,z.ownP S C q,?_,J.1,D,z.below.below⟩
  ·unfold results;rw[Sem.run_bind,SR,Sem.run_map];exact congrArg (λx:Result (List Value)=>(x.andThen λa w'=>Result.ok a.toArray w').andThen λa w'=>Sem.run prog (pure (if h:a.size=1 then a[0]else Value.tuple a)) w') y
  refine F.mono (Q3 _) λb _ j=>⟨Z,λh=>j ?_⟩
  rcases h with h|h
  ·exact .inl h
  exact .inr (be.2 (.inr ⟨k,_,_,S,C,h⟩))
 rcases W with rfl|rfl
 ·exact key
 exact key
end
def nN(k:IntKind)(j:Nat)(h:j<=k.bits)(i:∀n:Int,0<=n->n<2^j->k.wrap n=n)(a b:Nat)(e:a<2^j)(f:b<2^j):bits .xor k a b=((a^^^b:Nat):Int):=by
 have g:2^j<=2^k.bits:=Rx I h;have c:a%2^k.bits=a:=RC (Rh e g);have d:b%2^k.bits=b:=RC (Rh f g);simp only[bits,BitVec.ofInt_natCast,BitVec.toNat_xor,BitVec.toNat_ofNat,c,d];exact i _ (Int.natCast_nonneg _) (by exact_mod_cast Nat.xor_lt_two_pow e f)
def pi{x y:Operand}(a b:Nat)(c:a<4294967296)(d:b<4294967296)(w:World):(do eqGuard .xor 50 x y (.int .u32 (a:Nat)) (.int .u32 (b:Nat));binOp .xor 50 (.int .u32 (a:Nat)) (.int .u32 (b:Nat)):Sem Value).run prog w=.ok (.int .u32 ((a^^^b:Nat):Int)) w:=by
 have key:=nN .u32 32 I (λn e f=>by rw[SU];omega) a b c d;go_simp
def Lo{x y:Operand}(a b:Nat)(c:a<256)(d:b<256)(w:World):(do eqGuard .xor 5 x y (.int .u8 (a:Nat)) (.int .u8 (b:Nat));binOp .xor 5 (.int .u8 (a:Nat)) (.int .u8 (b:Nat)):Sem Value).run prog w=.ok (.int .u8 ((a^^^b:Nat):Int)) w:=by
 have key:=nN .u8 8 I (λn e f=>by rw[Uo];omega) a b c d;go_simp
def pj(a:Nat)(b:a<4294967296)(w:World):(Op.unary .xor (.int .u32 (a:Nat))).run prog w=.ok (.int .u32 ((a^^^4294967295:Nat):Int)) w:=by
 have key:=nN .u32 32 I (λn c d=>by rw[SU];omega) 4294967295 a I b;rw[Nat.xor_comm]at key;have key:bits .xor .u32 4294967295 (a:Int)=((a^^^4294967295:Nat):Int):=key;show(Sem.run prog (Op.intBits .xor .u32 4294967295 a) w)=_
 go_simp
def yR{x y:Operand}(a:Nat)(b:a<4294967296)(w:World):(do eqGuard .and 50 x y (.int .u32 (a:Nat)) (.int .u32 1);binOp .and 50 (.int .u32 (a:Nat)) (.int .u32 1):Sem Value).run prog w=.ok (.int .u32 ((a%2:Nat):Int)) w:=by
 have key:=(bits_nat .u32 32 I (λn c d=>by rw[SU];omega) a 1 b I).1;rw[Vz]at key;have key:bits .and .u32 (a:Int) 1=((a%2:Nat):Int):=key;go_simp
def ER{x y:Operand}(a:Nat)(b:a<18446744073709551616)(w:World):(do eqGuard .and 89 x y (.int .u64 (a:Nat)) (.int .u64 127);binOp .and 89 (.int .u64 (a:Nat)) (.int .u64 127):Sem Value).run prog w=.ok (.int .u64 ((a%128:Nat):Int)) w:=by
 have key:=bits_and_u64_nat a 127 b I;rw[show a&&& 127=a%128 from Tj a 7]at key;have key:bits .and .u64 (a:Int) 127=((a%128:Nat):Int):=key;go_simp
def Ij{x y:Operand}(a:Nat)(b:a<128)(w:World):(do eqGuard .or 5 x y (.int .u8 (a:Nat)) (.int .u8 128);binOp .or 5 (.int .u8 (a:Nat)) (.int .u8 128):Sem Value).run prog w=.ok (.int .u8 ((a+128:Nat):Int)) w:=by
 have key:bits .or .u8 (a:Int) 128=((a+128:Nat):Int):=by
  have:∀x:Fin 128,bits .or .u8 (x.val:Int) 128=((x.val+128:Nat):Int):=by decide+kernel
  exact this ⟨a,b⟩
 go_simp
def CK{x y:Operand}(a:Nat)(w:World):(do eqGuard .shr 89 x y (.int .u64 (a:Nat)) (.int .u64 7);binOp .shr 89 (.int .u64 (a:Nat)) (.int .u64 7):Sem Value).run prog w=.ok (.int .u64 ((a/128:Nat):Int)) w:=by
 simp[eqGuard,binOp,Op.shift,IntKind.bits];exact Uk _ I
def eQ{x y:Operand}(a k:Nat)(b:k<32)(w:World):(do eqGuard .shr 50 x y (.int .u32 (a:Nat)) (.int .u64 (k:Nat));binOp .shr 50 (.int .u32 (a:Nat)) (.int .u64 (k:Nat)):Sem Value).run prog w=.ok (.int .u32 ((a/2^k:Nat):Int)) w:=by
 simp[eqGuard,binOp,Op.shift,IntKind.bits];try omega
def ES{x y:Operand}(a k:Nat)(b:k<32)(w:World):(do eqGuard .shr 50 x y (.int .u32 (a:Nat)) (.int .i64 (k:Nat));binOp .shr 50 (.int .u32 (a:Nat)) (.int .i64 (k:Nat)):Sem Value).run prog w=.ok (.int .u32 ((a/2^k:Nat):Int)) w:=by
 simp[eqGuard,binOp,Op.shift,IntKind.bits];try omega
def lh{a:Nat}:(Tree.sc (.int .u8 (IntKind.u8.wrap (a:Int))))=.sc (.int .u8 ((a%256:Nat):Int)):=by
 rw[Uo];rfl
def Qm{a:Nat}(h:a<4294967296):(Tree.sc (.int .u32 (IntKind.u32.wrap (a:Int))))=.sc (.int .u32 ((a:Nat):Int)):=by
 rw[SU];congr 2;omega
def CL{x:Nat}(h:x<256):ak [UInt8.ofNat x]=[.sc (.int .u8 ((x:Nat):Int))]:=by
 have e:(UInt8.ofNat x).toNat=x:=by rw[Tl];exact RC h
 show [Tree.sc (.int .u8 ((UInt8.ofNat x).toNat:Nat))]=_
 rw[e]
def QS{a:Nat}(h:a<256):(Tree.sc (.int .u8 (IntKind.u8.wrap (a:Int))))=.sc (.int .u8 ((a:Nat):Int)):=by
 rw[Uo];congr 2;omega
section
variable {w0:World} {G0:Bse} {o:Oper} {S:St}
def Ik{t e:TypeId}{x:Operand}{v z:Value}{k:Nat}(u:o.op=.buildSlice t 1 #[(0,x)])(D:cF S.n o.dst=true)(E:gQ prog t=some (e,1))(J:kI prog t=some (e,1,k))(G:ij prog e=some [z])(r:S.ev x=.sc v)(y:v.oneCell'=true)(B:bR v=true):lM w0 G0 o S ({S with rs:=S.rs++[some (⟨e,1,[.sc v],true⟩:Row)]}.put o.dst (.own S.rs.length)):=by
 rintro a w ⟨bx,rv,d,q,l,j⟩;have b:=(bP (op:=o.op) (T:=λs=>a.tmps.getD s undef) (S:=S) (λs _=>j s) r (by rw[u];simp[Op.operands])).isSc;generalize (λs=>a.tmps.getD s undef)=T at b⊢;have f:=World.ownsRow_lit (base:=w.heap.size) (e:=e) (size:=1) w #[v] 1 (Q3 _) (by simp only[maxLen];omega) F;have C:Below w.heap.size w (w.alloc (.cells #[v] e)):=(Below.refl _ _).alloc (Q3 _) _;have p:∀g,(Value.slice (some ⟨w.heap.size,0,none⟩) 1 1).ownBlock=some g->NoDigB (w.alloc (.cells #[v] e)) g:=λg m=>by
  injection m with m
  subst m;exact cU (heap_alloc_new w _) (by simp[B])
 obtain⟨H,I⟩:=d.addRow (R:=⟨e,1,[.sc v],true⟩) (v:=.slice (some ⟨w.heap.size,0,none⟩) 1 1) C (by simpa using f) (.sc v .nil) ⟨λx r=>(by rw[Rs.1 r];rfl),λ_ A n c e=>(by cases e;rfl)⟩ p;refine aE (v:=.slice (some ⟨w.heap.size,0,none⟩) 1 1) (W':=w.alloc (.cells #[v] e)) ?_ (mX q l D d.nr H ⟨_,_,_,Z⟩ (λi=>I [_] [_] (j i)) Z);have h:=vw (w:=w) E G y;simp[execOp,u,b,h]
end
def rQ{w0:World}{G0:Bse}{o:Oper}{ops:Array Oper}{a:List Oper}{Q:Exit->St->Prop}{n d k:Nat}{sl:List (Nat×Tree)}{bs:List (TypeId×List Tree)}{rs rs':List (Option Row)}{t e:TypeId}{x:Operand}{v z:Value}{b:Nat}(p:o.op=.buildSlice t 1 #[(0,x)])(j:o.guard=none)(f:o.dst=some d)(m:Nat.blt d n=true)(i:gQ prog t=some (e,1))(q:kI prog t=some (e,1,b))(s:ij prog e=some [z])(r:St.ev ⟨n,sl,bs,rs⟩ x=.sc v)(g:v.oneCell'=true)(h:bR v=true)(l:rs.length=k)(c:rs++[some ⟨e,1,[.sc v],true⟩]=rs')(K:AOps w0 G0 ops a Q ⟨n,(d,.own k)::sl,bs,rs'⟩):AOps w0 G0 ops (o::a) Q ⟨n,sl,bs,rs⟩:=by
 subst l c;refine dA j (Ik (S:=⟨n,sl,bs,rs⟩) p (by rw[f];simpa[cF,R5]using m) i q s r g h) ?_;rw[f];exact K
def ET(l:List UInt8)(j:Nat)(c:UInt8):(ak l).set j (.sc (.int .u8 (c.toNat:Nat)))=ak (l.set j c):=by unfold ak;rw[Vx]
def CM(r:Nat):Nat:=if r%2=1 then(r/2)^^^2197175160 else r/2
def wM:Nat->Nat->Nat
 |0,r=>r
 |n+1,r=>wM n (CM r)
def CN:Nat->List UInt8->Nat
 |r,[]=>r
 |r,c::l=>CN (wM 8 (r^^^c.toNat)) l
def ft(l:List UInt8):Nat:=CN 4294967295 l^^^4294967295
def yS(r:Nat)(c:UInt8)(l:List UInt8):CN r (c::l)=CN (wM 8 (r^^^c.toNat)) l:=rfl
def yT(n r:Nat):wM (n+1) r=wM n (CM r):=rfl
def uo{r:Nat}(h:r<4294967296):CM r<4294967296:=by
 unfold CM;split
 ·exact Nat.xor_lt_two_pow (n:=32) O I
 omega
def pk{S:St}{o:Oper}{x:Operand}{s:ByteArray}(b:o.op=.convert 9 22 x)(m:S.ev x=sT s)(n:s.size<=9223372036854775807):OpOK o S (.sl (ak s.data.toList)):=by
 intro w0 G0 bx rv w T k f;have e:=(bP f m (by rw[b];simp[Op.operands])).isSc;have l:=Lib.run_convert_string_bytes (P:=prog) w 9 22 5 s underlying9 underlying22 underlying5;have g:=Joins.below_bytesWorld _ w 5 s (Q3 _);have h:=grownCap_le_maxLen w s.size 0 5 (by unfold maxLen;omega);have a:s.data.toList.length=s.size:=F
 unfold maxLen at h;refine aE (v:=.slice (some ⟨w.heap.size,0,none⟩) s.size (grownCap w s.size 0 5)) (W':=Lib.bytesWorld w 5 s) (by simp[execOp,b,e,l]) ⟨?_,g⟩;refine .pure ?_ .nil;have c:=PT.sl (W:=Lib.bytesWorld w 5 s) (G:=GG G0 bx rv S.rs) w.heap.size 0 (grownCap w s.size 0 5) s.data.toList.length (bZ s.data.toList) (ak s.data.toList) (by rw[Lib.bytesWorld_size];omega) (Dz k _ (Q3 _)) (λj u d=>?_) (by rw[aA]) (by rw[aA,a];exact grownCap_ge _ _ _ _) O (mE _) .nil
 ·rw[a]at c;exact c
 have i:j<s.data.toList.length:=by
  have:=(Q6.1 d).1;rwa[eR]at this
 rw[R4,Lib.bytesWorld_cell w 5 s j O,<-d];simp[bZ,Q2 i,List.getD]
def cZ(n:Nat):List UInt8:=if 128<=n then UInt8.ofNat (n%128+128)::cZ (n/128)else [UInt8.ofNat n]
termination_by n
decreasing_by omega
def CO:∀(k:Nat) {n:Nat},1<=k->n<128^k->(cZ n).length<=k
 |0,n,h,_=>O
 |k+1,n,_,h=>by
  rw[cZ];split
  ·next h1=>
   rw[RA]at h;have a:1<=k:=by
    cases k with
    |zero=>simp at h;omega
    |succ k=>omega
   have:=CO k (n:=n/128) a O;simp only[Q5];omega
  simp
def dz{n:Nat}(h:n<18446744073709551616):(cZ n).length<=10:=CO 10 I (Rh h I)
def oG(n:Nat):1<=(cZ n).length:=by
 rw[cZ];split<;>simp
def em(l:List UInt8):List UInt8:=cZ l.length++l
def gP(b:Bool):List UInt8:=cZ (if b then 1 else 0)
def rR(n sz:Nat):Nat->List UInt8->List UInt8
 |0,l=>l
 |k+1,l=>rR n sz k (l.set k (UInt8.ofNat ((aD n).getD ((sz-1-k)/4) 0/2^((sz-1-k)%4*8)%256)))
def nO(n:Nat):List UInt8:=rR n ((cR n+7)/8) ((cR n+7)/8) (List.replicate ((cR n+7)/8) 0)
def yU(n sz:Nat):∀(k:Nat) (l:List UInt8),(rR n sz k l).length=l.length
 |0,_=>rfl
 |k+1,l=>by rw[rR,yU n sz k,RO]
def wN(n:Nat):(nO n).length=(cR n+7)/8:=by unfold nO;rw[yU,TA]
def li(n:Nat):List UInt8:=em (nO n)
def mF(q:Rat):List UInt8:=(if q.num<0 then 1 else 0)::(li q.num.natAbs++li q.den)
def CP{d:Nat}(h:d<4294967296):Lib.bitLen d<=32:=by
 by_cases a:d=0
 ·subst a;decide
 have:=(Lib.bitLenAux_bounds 64 d O a).2.1;unfold Lib.bitLen;rcases RE 32 (Lib.bitLenAux 64 d)with b|b
 ·have c:2^32<=2^(Lib.bitLenAux 64 d-1):=Rx I O;omega
 exact b
def tH{l:List UInt8}{j x:Nat}(h:x<256):(ak l).set j (.sc (.int .u8 ((x:Nat):Int)))=ak (l.set j (UInt8.ofNat x)):=by
 have e:(UInt8.ofNat x).toNat=x:=by rw[Tl];exact RC h
 rw[<-ET,e]
def wO(n:Nat):cR n<=32*(aD n).length:=by
 unfold cR;split
 ·omega
 next h=>
 have b:0<(aD n).length:=rp.2 O;have a:(aD n).getD ((aD n).length-1) 0<4294967296:=by
  rw[Rr,Q2 O,RH];exact ck n _ (R6 _)
 have c:Lib.bitLen ((aD n).getD ((aD n).length-1) 0)<=32:=CP a;omega
def Nm(l:List V)(k:l.length<=65536)(b:l.all V.ok=true)(n:∀v∈l,v.rng):Ct 52 [.sl (l.map V.tree)] (.sl (ak (eJ l))):=⟨⟨_,func52,Z,Z⟩,λG w vs _ i m=>by
 obtain⟨u,rfl,d⟩:=eC m;obtain⟨A,c,rfl,a,_⟩:=qO d;refine(Jx A c l w a k n).mono ?_;rintro e w' ⟨v,rfl,f,_,j⟩;have g:=f b;refine⟨v,Z,?_,j⟩;have h:w'.ownsRow w.heap.size 5 1 v (ak (eJ l)).length (bZ (eJ l)):=by rw[aA];exact g
 exact vL i h (mE _)⟩
def pm(n:Nat)(l:n<18446744073709551616):CtO 51 [.sc (.int .u64 ((n:Nat):Int))] 5 1 (ak (cZ n)):=by
 refine CtO.of (n:=20) func51 Z Z Z Z Z λw0 G0=>?_
 refine C<|M 0 (t:=.sl []) Z (bz (.inr Z) bS)<|E<|C<|gc (k:=0) (e:=5) (sz:=1) (rs':=[some ⟨5,1,ak [],false⟩]) (.inr Z) Z Z Z Z Z<|E<|H<|aB<|aT (λo j=>∃(m:Nat) (a:List UInt8),(m<18446744073709551616/\a++cZ m=cZ n)/\o=m+1/\j=⟨20,[(0,.sc (.int .u64 ((m:Nat):Int))),(3,.own 0)],[],[some ⟨5,1,ak a,false⟩]⟩) 0 1 ⟨n,[],⟨l,Z⟩,Z,Z⟩ .rf ?_;rintro o j ⟨m,a,⟨q,b⟩,rfl,rfl⟩;have g:=congrArg List.length b;have p:=dz l;rw[Q4]at g;refine H<|C<|aI 1 Z Z Zy (B (GC m 128))<|E<|ay Z (λc=>?_) (λc=>?_)
 ·have h:=c;have i:cZ m=UInt8.ofNat (m%128+128)::cZ (m/128):=by rw[cZ,if_pos h]
  refine ar<|aB<|C<|M 2 (t:=.sc (.int .u64 ((m%128:Nat):Int))) Z (aC Z Z Z (λw=>ER m q w))<|M 0 (t:=.sc (.int .u8 ((m%128:Nat):Int))) Z (aj (bp Z b6 b7 Z) (QS O0))<|M 0 (t:=.sc (.int .u8 ((m%128+128:Nat):Int))) Z (aC Z Z Z (λw=>Ij (m%128) O0 w))<|M 0 (t:=.sl [.sc (.int .u8 ((m%128+128:Nat):Int))]) Z (aS Z aJ dd Z I1 I1 Z Z Z Z Z)<|a7 (bs':=[]) (rs':=[some ⟨5,1,ak (a++[UInt8.ofNat (m%128+128)]),false⟩]) Z Z Z Z aZ Z Z Z Z (by intro e d;simp only[Ri,RM,or_false]at d;subst d;rfl) (AllC.lit Z) (AllC.lit Z) (by simp only[aA,Q4,Q5,Ra];omega) Z Z Z (by rw[bg,CL O0];rfl)<|Y 1 Z<|am<|M 1 (t:=.sc (.int .u64 ((m/128:Nat):Int))) Z (aC Z Z Z (λw=>CK m w))<|Y 1 Z<|⟨_,_,?_,⟨m/128,(a++[UInt8.ofNat (m%128+128)]),?_,Z,Z⟩,.rf⟩
  ·omega
  exact⟨O0,by rw[<-b,i];simp⟩
 refine aX<|H ?_;have f:a++[UInt8.ofNat m]=cZ n:=by rw[<-b,cZ,if_neg O0]
 refine am<|M 2 (t:=.sc (.int .u8 ((m:Nat):Int))) Z (aj (bp Z b6 b7 Z) (QS O0))<|M 0 (t:=.sl [.sc (.int .u8 ((m:Nat):Int))]) Z (aS Z aJ dd Z I1 I1 Z Z Z Z Z)<|a7 (bs':=[]) (rs':=[some ⟨5,1,ak (a++[UInt8.ofNat m]),false⟩]) Z Z Z Z aZ Z Z Z Z (by intro e d;simp only[Ri,RM,or_false]at d;subst d;rfl) (AllC.lit Z) (AllC.lit Z) (by simp only[aA,Q4,Q5,Ra];omega) Z Z Z (by rw[bg,CL O0];rfl)<|Y 1 Z<|aQ<|⟨.inr Z,0,false,Z,by rw[f];rfl⟩
def uq(l:List UInt8)(b:l.length<=1000000000):CtO 49 [.sl (ak l)] 5 1 (ak (em l)):=by
 refine CtO.of (n:=9) func49 Z Z Z Z Z λw0 G0=>?_
 refine C<|M 0 (t:=.sl []) Z (bz (.inr Z) bS)<|E<|H ?_;have a:=dz (n:=l.length) O0;refine am<|M 1 Z (aU Z aJ Z)<|M 0 (t:=.sc (.int .u64 ((l.length:Nat):Int))) Z (aj (bp Z cf b6 Z) (jt O0))<|mY (k:=0) (rs':=[some ⟨5,1,ak (cZ l.length),false⟩]) Z Z Z Z (pm l.length O0) Z Z Z Z<|ax 1 Z<|a7 (bs':=[]) (rs':=[some ⟨5,1,ak ((cZ l.length)++l),false⟩]) Z Z Z Z aZ Z Z Z Z (aP _) (AllC.map _ _ λ_=>rfl) (AllC.map _ _ λ_=>rfl) (by simp only[aA,Q4,Q5,Ra];omega) Z Z Z (by simp only[bg];rfl)<|Y 1 Z<|aQ<|⟨.inr Z,0,false,Z,Z⟩
def Gj(b:Bool):Ct 50 [bT b] (.sl (ak (gP b))):=by
 refine Ct.of (n:=6) func50 Z Z Z Z Z λw0 G0=>?_
 refine C<|M 0 (t:=.sl []) Z (bz (.inr Z) bS)<|E<|H<|X 1 Z<|aK Z (λa=>?_) (λa=>?_)
 ·refine C<|M 0 Z (D Z ((pm 1 I1).ct) Z Z)<|Y 1 Z<|aM ⟨Z,Lf (by unfold gP;rw[a];rfl),Z⟩ Z
 refine ar<|C<|M 0 Z (D Z ((pm 0 I1).ct) Z Z)<|Y 1 Z<|aM ⟨Z,Lf (by unfold gP;rw[a];rfl),Z⟩ Z
def ur(n:Nat)(v:(aD n).length<=262144):Ct 111 [aY n] (.sl (ak (li n))):=by
 refine Ct.of (n:=36) func111 Z Z Z Z Z λw0 G0=>?_
 refine C<|M 0 (t:=.sl []) Z (bz (.inr Z) bS)<|E<|H ?_;obtain⟨sz,g⟩:∃z,(cR n+7)/8=z:=⟨_,Z⟩;have p:=wO n;have q:sz<=1048577:=O0
 refine am<|M 1 Z (D Z (kw n v) Z Z)<|a8 0 ((cR n)+7) Z Z Zy O0<|M 0 (t:=nI sz) Z (aj (aC Z Z Z (λw=>uf ((cR n)+7) 8 O0 O0 w)) (pM g))<|Y 1 Z<|C<|ax 1 Z<|DD (m:=sz) (zt:=.sc (.int .u8 0)) (k:=0) (rs':=[some ⟨5,1,ak (List.replicate sz 0),true⟩]) Z Z Z Z aZ dd Z Z (Z) (Z) Z O0 Z Z (by simp[ak])<|Y 1 Z<|H<|C<|M 1 (t:=nI sz) Z (aj (kF Z aJ Z Z) (by simp only[Rn,aA,TA]))<|Y 1 Z<|aB<|aT (λr o=>∃(i:Nat) (b:List UInt8),(i<=sz/\b.length=sz/\rR n sz (sz-i) b=nO n)/\r=sz-i/\o=⟨36,[(0,.sl ((aD n).map fS)),(3,nI sz),(4,.own 0),(13,nI sz),(14,nI i)],[],[some ⟨5,1,ak b,true⟩]⟩) 0 1 ⟨0,List.replicate sz 0,⟨Rg _,TA,by unfold nO;rw[g];rfl⟩,Z,Z⟩ .rf ?_;rintro r o ⟨i,b,⟨y,h,a⟩,rfl,rfl⟩;refine C<|aI 0 Z Z Zy (B (gF i sz))<|E<|H<|ay Z (λl=>?_) (λl=>?_)
 ·have x:=wO n;obtain⟨d,c⟩:∃d,(aD n)[i/4]? =some d:=⟨_,Q2 O0⟩;have s:d<4294967296:=ck n d (Q8 c);obtain⟨k,u⟩:∃k,sz-i=k+1:=⟨sz-i-1,O0⟩;rw[u,rR,show sz-1-k=i by omega,Rr,c,RH]at a;refine ar<|H<|aB<|X 2 Z<|am<|a8 2 (sz-1) Z Z Zy O0<|a8 1 ((sz-1)-i) Z Z Zy O0<|M 2 (t:=nI (i/4)) Z (aC Z Z Z (λw=>uf i 4 O0 O0 w))<|M 0 (t:=.ref [.sc (.int .u32 ((d:Nat):Int))]) Z (aO (fS d) Z bV Z Z Z (bd (f:=fS) c) (fz _) Z)<|M 2 (t:=nI (i%4)) Z (aC Z Z Z (λw=>nl i 4 O0 w))<|a8 0 ((i%4)*8) Z Z Zy O0<|M 0 (t:=.sc (.int .u32 ((d/2^((i%4)*8):Nat):Int))) Z (aC Z Z Z (λw=>ES d _ O0 w))<|M 0 (t:=.sc (.int .u8 ((d/2^((i%4)*8)%256:Nat):Int))) Z (aj (bp Z cA b7 Z) lh)<|M 0 (t:=.elp 0 ((sz-1)-i)) Z (eS (j:=(sz-1)-i) Z aJ Z Z Z Z Z (by rw[aA];omega) (ST _))<|jc (j:=(sz-1)-i) (rs':=[some ⟨5,1,ak (b.set (sz-1-i) (UInt8.ofNat (d/2^((i%4)*8)%256))),true⟩]) Z Z Z Z Z F0 (by rw[aA];omega) Z Z Z Z Z ky Z (by rw[<-tH (RJ _ I1)];rfl)<|E<|am<|a8 0 (i+1) Z Z Zy O0<|Y 1 Z<|⟨_,_,?_,⟨i+1,(b.set (sz-1-i) (UInt8.ofNat (d/2^((i%4)*8)%256))),?_,Z,Z⟩,.rf⟩
  ·omega
  exact⟨O0,by rw[RO];exact h,by rw[show sz-(i+1)=k by omega,show sz-1-i=k by omega];exact a⟩
 have e:b=nO n:=by rw[<-a,show sz-i=0 by omega];rfl
 refine dp 0 (bs':=[]) (rs':=[none]) Z Z Z Z<|aX<|C<|M 1 Z (D Z ((uq b O0).ct) Z Z)<|Y 1 Z<|aM ⟨Z,Lf (by unfold li;rw[e]),Z⟩ Z
def rS(n:Nat)(d:(aD n).length<=262144):(li n).length<=1048587:=by
 have a:=wO n;have b:=wN n;have c:=dz (n:=(nO n).length) O;unfold li em;rw[Q4];omega
def Nn(q:Rat)(b:Fit 262144 q):Ct 53 [dw q] (.sl (ak (mF q))):=by
 refine Ct.of (n:=22) func53 Z Z Z Z Z λw0 G0=>?_
 refine C<|M 1 (t:=.sl []) Z (bz (.inr Z) bS)<|E<|H ?_;have c:=rS _ b.num;have d:=rS _ b.den;refine am<|M 1 Z (D Z (qT q b) Z Z)<|Y 2 Z<|C<|rQ (v:=.int .u8 0) (k:=0) (rs':=[some ⟨5,1,ak [0],true⟩]) Z Z Z Z aJ aZ dd Z Z Z Z Z<|Y 1 Z<|H<|X 2 Z<|ay Z (λa=>?_) (λa=>?_)
 ·refine am<|M 1 (t:=.elp 0 0) Z (eS (j:=0) Z aJ Z Z Z Z Z I1 (ST _))<|jc (j:=0) (rs':=[some ⟨5,1,ak [1],true⟩]) Z Z Z Z Z F0 I1 Z Z Z Z Z ky Z Z<|E<|C<|M 3 Z (D Z (ur _ b.num) Z Z)<|a7 (bs':=[(65,(bj q)),(65,(bj q))]) (rs':=[some ⟨5,1,ak ([1]++li q.num.natAbs),false⟩]) Z Z Z Z aZ Z Z Z Z (aP _) (AllC.map _ _ λ_=>rfl) (AllC.map _ _ λ_=>rfl) (by simp only[aA,Q4,Q5,Ra];omega) Z Z Z (by simp only[bg];rfl)<|Y 1 Z<|C<|M 3 Z (D Z (ur _ b.den) Z Z)<|a7 (bs':=[(65,(bj q)),(65,(bj q))]) (rs':=[some ⟨5,1,ak (([1]++li q.num.natAbs)++li q.den),false⟩]) Z Z Z Z aZ Z Z Z Z (aP _) (AllC.map _ _ λ_=>rfl) (AllC.map _ _ λ_=>rfl) (by simp only[aA,Q4,Q5,Ra];omega) Z Z Z (by simp only[bg];rfl)<|Y 1 Z<|dp 0 (bs':=[(65,(bj q)),(65,(bj q))]) (rs':=[none]) Z Z Z Z<|aM ⟨Z,Lf (by unfold mF;rw[if_pos a];simp),Z⟩ Z
 refine ar<|C<|M 3 Z (D Z (ur _ b.num) Z Z)<|a7 (bs':=[(65,(bj q)),(65,(bj q))]) (rs':=[some ⟨5,1,ak ([0]++li q.num.natAbs),false⟩]) Z Z Z Z aZ Z Z Z Z (aP _) (AllC.map _ _ λ_=>rfl) (AllC.map _ _ λ_=>rfl) (by simp only[aA,Q4,Q5,Ra];omega) Z Z Z (by simp only[bg];rfl)<|Y 1 Z<|C<|M 3 Z (D Z (ur _ b.den) Z Z)<|a7 (bs':=[(65,(bj q)),(65,(bj q))]) (rs':=[some ⟨5,1,ak (([0]++li q.num.natAbs)++li q.den),false⟩]) Z Z Z Z aZ Z Z Z Z (aP _) (AllC.map _ _ λ_=>rfl) (AllC.map _ _ λ_=>rfl) (by simp only[aA,Q4,Q5,Ra];omega) Z Z Z (by simp only[bg];rfl)<|Y 1 Z<|dp 0 (bs':=[(65,(bj q)),(65,(bj q))]) (rs':=[none]) Z Z Z Z<|aM ⟨Z,Lf (by unfold mF;rw[if_neg a];simp),Z⟩ Z
def dR{l:List UInt8}{j:Nat}{c:UInt8}(h:l[j]? =some c):(ak l)[j]? =some (.sc (.int .u8 ((c.toNat:Nat):Int))):=by
 unfold ak;rw[RK,h];rfl
def jv(c:Nat):List UInt8:=[UInt8.ofNat (c/2^24%256),UInt8.ofNat (c/2^16%256),UInt8.ofNat (c/2^8%256),UInt8.ofNat (c%256)]
def mG{x:Nat}(h:x<256):(UInt8.ofNat x).toNat=x:=by rw[Tl];exact RC h
def oH(c:Nat):ak (jv c)=[.sc (.int .u8 ((c/2^24%256:Nat):Int)),.sc (.int .u8 ((c/2^16%256:Nat):Int)),.sc (.int .u8 ((c/2^8%256:Nat):Int)),.sc (.int .u8 ((c%256:Nat):Int))]:=by
 show [Tree.sc (.int .u8 ((UInt8.ofNat (c/2^24%256)).toNat:Nat)),.sc (.int .u8 ((UInt8.ofNat (c/2^16%256)).toNat:Nat)),.sc (.int .u8 ((UInt8.ofNat (c/2^8%256)).toNat:Nat)),.sc (.int .u8 ((UInt8.ofNat (c%256)).toNat:Nat))]=_
 rw[mG (RJ _ I),mG (RJ _ I),mG (RJ _ I),mG (RJ _ I)]
def QT(a b:List UInt8):((bs a).toList==(bs b).toList)=decide (a=b):=by
 rw[Lib.toList_data,Lib.toList_data,eW,eW,TE,beq_iff_eq,decide_eq_true_eq]
def Il(l:List UInt8)(F:l.length<=4611686018427387904):Ct 176 [.sc (.int .u32 ((0:Nat):Int)),.sl (ak l)] (.sc (.int .u32 ((ft l:Nat):Int))):=by
 refine Ct.of (n:=35) func176 Z Z Z Z Z λw0 G0=>?_
 refine X 1 Z<|C<|M 1 (t:=.sc (.int .u32 ((4294967295:Nat):Int))) Z (aj (dm Z Z (λw=>pj 0 I1 w)) (pM I1))<|Y 1 Z<|H<|C<|M 1 Z (aU Z aJ Z)<|Y 1 Z<|aB<|aT (λp f=>∃(j:Nat) (x:Nat),(j<=l.length/\x<4294967296/\CN x (l.drop j)=CN 4294967295 l)/\p=l.length-j/\f=⟨35,[(5,.sc (.int .u32 ((x:Nat):Int))),(11,.sl (ak l)),(12,nI l.length),(13,nI j)],[],[]⟩) 0 0 ⟨0,4294967295,⟨Rg _,I1,Z⟩,Z,Z⟩ .rf ?_;rintro p f ⟨j,x,⟨A,s,b⟩,rfl,rfl⟩;refine C<|aI 0 Z Z Zy (B (gF j l.length))<|E<|H<|ay Z (λh=>?_) (λh=>?_)
 ·obtain⟨c,i⟩:∃c,l[j]? =some c:=⟨_,Q2 h⟩;have r:l.drop j=c::l.drop (j+1):=by
   obtain⟨g,u⟩:=Q6.1 i;rw[Re g,u]
  rw[r,yS]at b;have v:c.toNat<256:=c.toNat_lt;refine ar<|H<|aB<|C<|M 0 (t:=.ref [.sc (.int .u8 ((c.toNat:Nat):Int))]) Z (aO (.sc (.int .u8 ((c.toNat:Nat):Int))) Z aJ Z Z Z (dR i) (aP _) Z)<|Y 2 Z<|C<|M 2 (t:=.sc (.int .u32 ((c.toNat:Nat):Int))) Z (aj (bp Z b7 cA Z) (Qm O0))<|M 0 (t:=.sc (.int .u32 ((x^^^c.toNat:Nat):Int))) Z (aC Z Z Z (λw=>pi x c.toNat s O0 w))<|Y 1 Z<|X 1 Z<|aB<|aT (λp f=>∃(k:Nat) (y:Nat),(k<=8/\y<4294967296/\wM (8-k) y=wM 8 (x^^^c.toNat))/\p=8-k/\f=⟨35,[(5,.sc (.int .u32 ((y:Nat):Int))),(11,.sl (ak l)),(12,nI l.length),(13,nI j),(21,nI k)],[],[]⟩) 0 0 ⟨0,x^^^c.toNat,⟨Rg _,Nat.xor_lt_two_pow (n:=32) s O0,Z⟩,Z,Z⟩ .rf ?_;rintro p f ⟨k,y,⟨D,o,a⟩,rfl,rfl⟩;refine C<|aI 0 Z Z Zy (B (gF k 8))<|E<|H<|ay Z (λq=>?_) (λq=>?_)
  ·obtain⟨m,z⟩:∃m,8-k=m+1:=⟨7-k,O0⟩;rw[z,yT]at a;refine ar<|H<|aB<|C<|M 1 (t:=.sc (.int .u32 ((y%2:Nat):Int))) Z (aC Z Z Z (λw=>yR y o w))<|Y 1 Z<|C<|M 1 (t:=.sc (.int .u32 ((y/2:Nat):Int))) Z (aC Z Z Z (λw=>wd y o w))<|Y 1 Z<|C<|aI 1 Z Z Zy (B (gL (y%2) 1))<|E<|ay Z (λe=>?_) (λe=>?_)
   ·have g:CM y=y/2^^^2197175160:=if_pos e;have d:=uo o;rw[g]at a d;refine am<|M 1 (t:=.sc (.int .u32 (((y/2)^^^2197175160:Nat):Int))) Z (aC Z Z Z (λw=>pi (y/2) 2197175160 O0 I1 w))<|Y 1 Z<|am<|a8 0 (k+1) Z Z Zy O0<|Y 1 Z<|⟨_,_,?_,⟨k+1,(y/2)^^^2197175160,?_,Z,Z⟩,.rf⟩
    ·omega
    exact⟨O0,d,by rw[show 8-(k+1)=m by omega];exact a⟩
   have g:CM y=y/2:=if_neg e;have d:=uo o;rw[g]at a d;refine ar<|am<|a8 0 (k+1) Z Z Zy O0<|Y 1 Z<|⟨_,_,?_,⟨k+1,y/2,?_,Z,Z⟩,.rf⟩
   ·omega
   exact⟨O0,d,by rw[show 8-(k+1)=m by omega];exact a⟩
  rw[show 8-k=0 by omega]at a;have a:y=wM 8 (x^^^c.toNat):=a;rw[<-a]at b;refine aX<|am<|a8 0 (j+1) Z Z Zy O0<|Y 1 Z<|⟨_,_,?_,⟨j+1,y,?_,Z,Z⟩,.rf⟩
  ·omega
  exact⟨O0,o,b⟩
 refine aX<|C<|M 1 (t:=.sc (.int .u32 ((x^^^4294967295:Nat):Int))) Z (dm Z Z (λw=>pj x s w))<|Y 1 Z<|aM ⟨Z,pM (by unfold ft;rw[<-b,Rc O0];rfl),Z⟩ Z
def Lp(l:List UInt8)(a:l.length<=4611686018427387904):Ct 112 [.sl (ak l)] (.sc (.int .u32 ((ft l:Nat):Int))):=by
 refine Ct.of (n:=5) func112 Z Z Z Z Z λw0 G0=>?_
 refine X 1 Z<|C<|M 1 Z (D Z (Il l a) Z Z)<|Y 1 Z<|aM ⟨Z,Z,Z⟩ Z
def O3(l:List UInt8)(a:l.length<=4611686018427387904):Ct 54 [.sl (ak l)] (.sl (ak (jv (ft l)))):=by
 refine Ct.of (n:=18) func54 Z Z Z Z Z λw0 G0=>?_
 refine C<|M 0 (t:=.sl []) Z (bz (.inr Z) bS)<|E<|C<|M 1 Z (D Z (Lp l a) Z Z)<|Y 1 Z<|C<|M 1 (t:=.sc (.int .u32 ((ft l/2^24:Nat):Int))) Z (aC Z Z Z (λw=>eQ (ft l) 24 I1 w))<|M 0 (t:=.sc (.int .u8 ((ft l/2^24%256:Nat):Int))) Z (aj (bp Z cA b7 Z) lh)<|M 1 (t:=.sc (.int .u32 ((ft l/2^16:Nat):Int))) Z (aC Z Z Z (λw=>eQ (ft l) 16 I1 w))<|M 0 (t:=.sc (.int .u8 ((ft l/2^16%256:Nat):Int))) Z (aj (bp Z cA b7 Z) lh)<|M 1 (t:=.sc (.int .u32 ((ft l/2^8:Nat):Int))) Z (aC Z Z Z (λw=>eQ (ft l) 8 I1 w))<|M 0 (t:=.sc (.int .u8 ((ft l/2^8%256:Nat):Int))) Z (aj (bp Z cA b7 Z) lh)<|M 1 (t:=.sc (.int .u8 ((ft l%256:Nat):Int))) Z (aj (bp Z cA b7 Z) lh)<|M 0 (t:=.sl [.sc (.int .u8 ((ft l/2^24%256:Nat):Int)),.sc (.int .u8 ((ft l/2^16%256:Nat):Int)),.sc (.int .u8 ((ft l/2^8%256:Nat):Int)),.sc (.int .u8 ((ft l%256:Nat):Int))]) Z (aS Z aJ dd Z I1 I1 Z Z Z Z Z)<|Y 1 Z<|aM ⟨Z,congrArg Tree.sl (oH _).symm,Z⟩ Z
def sS(a b:List UInt8):Ct 61 [.sl (ak a),.sl (ak b)] (bT (decide (a=b))):=by
 refine Ct.of (n:=10) func61 Z Z Z Z Z λw0 G0=>?_
 refine X 1 Z<|C<|M 1 (t:=sT (bs a)) Z (eH Z Z)<|M 1 (t:=sT (bs b)) Z (eH Z Z)<|aI 0 (t:=bT (decide (a=b))) Z Z Zy (B (QT a b))<|Y 1 Z<|aM ⟨Z,Z,Z⟩ Z
section
variable {w0:World} {G0:Bse} {o:Oper} {S:St}
def Im{f:FuncId}{x:Operand}{t:Array TypeId}{k:Nat}{l m:List UInt8}{R:Row}(U:o.op=.call {callee:=.value (.func f),args:=#[x],argTypes:=t})(hd:cF S.n o.dst=true)(B:CtO f [.sl (ak l)] 5 1 (ak m))(hx:S.ev x=.own k)(hR:S.rs[k]? =some (some R))(E:R.es=ak l):lM w0 G0 o S ({S with rs:=S.rs++[some (⟨5,1,ak m,false⟩:Row)]}.put o.dst (.own S.rs.length)):=by
 rintro a w ⟨bx,rv,q,L,D,r⟩;have J:=bP (op:=o.op) (T:=λs=>a.tmps.getD s undef) (S:=S) (λs _=>r s) hx (by rw[U];simp[Op.operands,Call.operands]);generalize hT:(λs=>a.tmps.getD s undef)=T at J⊢;obtain⟨hv,xs,d,p,a0,I⟩:=gT q hR J;generalize N:dG T x=v at hv d p I J;rw[E]at d p;have K:PT w (λb=>GG G0 bx rv S.rs b/\v.ownBlock≠some b) [v] [.sl (ak l)]:=by
  rcases d.2 with⟨rfl,H⟩|⟨g,z,cur,rfl,hb,F,H,G,hs,ht⟩
  ·rw[Rj H];exact bS _ _
  refine .sl g 0 z _ xs (ak l) (RQ.1 F).1 (λh=>h.2 Z) (λj u hu=>?_) Z H (by unfold maxLen at G;omega) (p.mono (Q3 _) λb _ hG=>⟨Z,λh=>hG h.1⟩) .nil;have:=World.ownsRow.cells d (g:=g) Z j u hu;rw[show(⟨g,0,none⟩:Addr).add j=⟨g,0+j,none⟩from Addr.add_lit ..]at this;exact this
 obtain⟨⟨P,h1,h2,Q⟩,B⟩:=B;have C:=B _ w [v] q.env (λg F=>q.ok g F.1) K;refine cW (f:=f) (args:=[v].toArray) ?_ (C.mono ?_)
 ·have X:¬P.name= "runtime.NumGoroutine" :=by simpa using h2
  have Y:¬P.body=none:=λe=>by rw[e]at Q;cases Q
  simp[execOp,U,resolve,dG,Deferred.ofValue,invoke,callFunc,h1,X,Y];exact N
 rintro y w' ⟨v',ys,rfl,V,W,k3,k4,k5⟩;have O:PT w' (λb=>GG G0 bx rv S.rs b\/v'.ownBlock=some b) ys (flat (ak m)):=by
  rw[kG]at W;rw[oi W];exact mE m
 obtain⟨m1,m2⟩:=q.addRow (R:=⟨5,1,ak m,false⟩) k5 V O ⟨k3,λh=>by cases h⟩ k4;obtain⟨A,c,M⟩:=ce V;exact⟨v',Z,mX L D hd q.nr m1 ⟨A,_,c,M⟩ (λi=>m2 [_] [_] (r i)) Z⟩
def EU{w:World}{a b c d:Int}:(Instr.buildSlice 22 4 #[(0,.int .u8 a),(1,.int .u8 b),(2,.int .u8 c),(3,.int .u8 d)]).run prog w=.ok (.slice (some ⟨w.heap.size,0,none⟩) 4 4) (w.alloc (.cells #[.int .u8 a,.int .u8 b,.int .u8 c,.int .u8 d] 5)):=by
 go_simp
def Io{x y z u:Operand}{a b c d:Nat}(k:o.op=.buildSlice 22 4 #[(0,x),(1,y),(2,z),(3,u)])(I:cF S.n o.dst=true)(p:S.ev x=.sc (.int .u8 (a:Nat)))(K:S.ev y=.sc (.int .u8 (b:Nat)))(L:S.ev z=.sc (.int .u8 (c:Nat)))(J:S.ev u=.sc (.int .u8 (d:Nat))):lM w0 G0 o S ({S with rs:=S.rs++[some (⟨5,1,[.sc (.int .u8 (a:Nat)),.sc (.int .u8 (b:Nat)),.sc (.int .u8 (c:Nat)),.sc (.int .u8 (d:Nat))],true⟩:Row)]}.put o.dst (.own S.rs.length)):=by
 rintro s w ⟨bx,rv,j,B,q,f⟩;have D:=(bP (op:=o.op) (T:=λi=>s.tmps.getD i undef) (S:=S) (λs _=>f s) p (by rw[k];simp[Op.operands])).isSc;have E:=(bP (op:=o.op) (T:=λi=>s.tmps.getD i undef) (S:=S) (λs _=>f s) K (by rw[k];simp[Op.operands])).isSc;have F:=(bP (op:=o.op) (T:=λi=>s.tmps.getD i undef) (S:=S) (λs _=>f s) L (by rw[k];simp[Op.operands])).isSc;have G:=(bP (op:=o.op) (T:=λi=>s.tmps.getD i undef) (S:=S) (λs _=>f s) J (by rw[k];simp[Op.operands])).isSc;generalize (λi=>s.tmps.getD i undef)=T at D E F G⊢;obtain⟨C,m⟩:∃C:Array Value,#[.int .u8 (a:Nat),.int .u8 (b:Nat),.int .u8 (c:Nat),.int .u8 (d:Nat)]=C:=⟨_,Z⟩;have l:=World.ownsRow_lit (base:=w.heap.size) (e:=5) (size:=1) w C 4 (Q3 _) (by simp only[maxLen];omega) (by rw[<-m];rfl);have H:Below w.heap.size w (w.alloc (.cells C 5)):=(Below.refl _ _).alloc (Q3 _) _;have t:∀g,(Value.slice (some ⟨w.heap.size,0,none⟩) 4 4).ownBlock=some g->NoDigB (w.alloc (.cells C 5)) g:=λg r=>by
  injection r with r
  subst r;exact cU (heap_alloc_new w _) (by rw[<-m];rfl)
 obtain⟨M,N⟩:=j.addRow (R:=⟨5,1,[.sc (.int .u8 (a:Nat)),.sc (.int .u8 (b:Nat)),.sc (.int .u8 (c:Nat)),.sc (.int .u8 (d:Nat))],true⟩) (v:=.slice (some ⟨w.heap.size,0,none⟩) 4 4) H l (by rw[<-m];exact .sc _ (.sc _ (.sc _ (.sc _ .nil)))) ⟨λx p=>(by simp only[Ri,To,or_false]at p;rcases p with rfl|rfl|rfl|rfl<;>rfl),λ_ A n c e=>(by cases e;rfl)⟩ t;refine aE (v:=.slice (some ⟨w.heap.size,0,none⟩) 4 4) (W':=w.alloc (.cells C 5)) ?_ (mX B q I j.nr M ⟨_,_,_,Z⟩ (λi=>N [_] [_] (f i)) Z);have h:=EU (w:=w) (a:=(a:Nat)) (b:=(b:Nat)) (c:=(c:Nat)) (d:=(d:Nat));rw[m]at h;simp[execOp,k,D,E,F,G,h]
end
def CQ{w0:World}{G0:Bse}{o:Oper}{ops:Array Oper}{a:List Oper}{Q:Exit->St->Prop}{n d k j:Nat}{sl:List (Nat×Tree)}{bs:List (TypeId×List Tree)}{rs rs':List (Option Row)}{f:FuncId}{x:Operand}{b:Array TypeId}{l m:List UInt8}{R:Row}(s:o.op=.call {callee:=.value (.func f),args:=#[x],argTypes:=b})(p:o.guard=none)(g:o.dst=some d)(r:Nat.blt d n=true)(i:CtO f [.sl (ak l)] 5 1 (ak m))(t:St.ev ⟨n,sl,bs,rs⟩ x=.own k)(h:rs[k]? =some (some R))(c:R.es=ak l)(q:rs.length=j)(e:rs++[some ⟨5,1,ak m,false⟩]=rs')(K:AOps w0 G0 ops a Q ⟨n,(d,.own j)::sl,bs,rs'⟩):AOps w0 G0 ops (o::a) Q ⟨n,sl,bs,rs⟩:=by
 subst q e;refine dA p (Im (S:=⟨n,sl,bs,rs⟩) s (by rw[g];simpa[cF,R5]using r) i t h c) ?_;rw[g];exact K
def AP{w0:World}{G0:Bse}{o:Oper}{ops:Array Oper}{f:List Oper}{Q:Exit->St->Prop}{n e k:Nat}{sl:List (Nat×Tree)}{bs:List (TypeId×List Tree)}{rs rs':List (Option Row)}{x y z u:Operand}{a b c d:Nat}(m:o.op=.buildSlice 22 4 #[(0,x),(1,y),(2,z),(3,u)])(i:o.guard=none)(h:o.dst=some e)(l:Nat.blt e n=true)(q:St.ev ⟨n,sl,bs,rs⟩ x=.sc (.int .u8 (a:Nat)))(r:St.ev ⟨n,sl,bs,rs⟩ y=.sc (.int .u8 (b:Nat)))(s:St.ev ⟨n,sl,bs,rs⟩ z=.sc (.int .u8 (c:Nat)))(p:St.ev ⟨n,sl,bs,rs⟩ u=.sc (.int .u8 (d:Nat)))(j:rs.length=k)(g:rs++[some ⟨5,1,[.sc (.int .u8 (a:Nat)),.sc (.int .u8 (b:Nat)),.sc (.int .u8 (c:Nat)),.sc (.int .u8 (d:Nat))],true⟩]=rs')(K:AOps w0 G0 ops f Q ⟨n,(e,.own k)::sl,bs,rs'⟩):AOps w0 G0 ops (o::f) Q ⟨n,sl,bs,rs⟩:=by
 subst j g;refine dA i (Io (S:=⟨n,sl,bs,rs⟩) m (by rw[h];simpa[cF,R5]using l) q r s p) ?_;rw[h];exact K
