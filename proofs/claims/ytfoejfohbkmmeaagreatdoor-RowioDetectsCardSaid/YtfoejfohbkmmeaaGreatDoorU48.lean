import Derived.Test.YtfoejfohbkmmeaaGreatDoorU26
import Derived.Test.YtfoejfohbkmmeaaGreatDoorU00
import Derived.Test.YtfoejfohbkmmeaaGreatDoorU46
import Derived.Test.YtfoejfohbkmmeaaGreatDoorU21
import Derived.Test.YtfoejfohbkmmeaaGreatDoorU18
import Derived.Test.YtfoejfohbkmmeaaGreatDoorU08
set_option maxRecDepth 100000
set_option maxHeartbeats 4000000
namespace Go.Proofs.YtfoejfohbkmmeaaGreatDoor
open Go.RowKit
open Lib renaming hid→J
section
variable {w0:World} {G0:Nat->Prop} {o:Oper} {S:St}
theorem CtO.ct{f:FuncId}{args es:List Tree}{e sz:Nat}(h:CtO f args e sz es):Ct f args (.sl es):=⟨h.1,fun G w vs d a j=>(h.2 G w vs d a j).mono fun _ _ ⟨v,_,k,g,i,_,_,l⟩=>
 ⟨v,k,Jl a g (i.mono (L5 _) fun _ _ c=>⟨Z,fun h=>c (.inl h)⟩),l⟩⟩
theorem Sk{a:Act}{w':World}{bx:List Nat}{rv:List Value}{v:Value}{R:Row}{d:Nat}{S:St}{r:Value}(b:a.tmps.size=S.n)(e:a.defers=[])(l:cT S.n o.dst=true)(g:rv.length=S.rs.length)(k:Mem w0 G0 S.bs (S.rs++[some R]) bx (rv++[v]) w')(j:∃A n c,v=.slice A n c)(f:∀i,FT (en w' G0 bx (rv++[v]) (S.rs++[some R])) [a.tmps.getD i undef] [S.get i])(h:S.rs.length=d):
  Sim w0 G0 ({S with rs:=S.rs++[some R]}.put o.dst (.tup [.own d,.sc r])) (a.put o.dst (.tuple #[v,r])) w':=by
 subst h;refine⟨bx,rv++[v],by rw[dC,ch];exact k,by rw[dB,eo];exact b,by rw[cH,e],fun i=>?_⟩;rw[ch];rw[ga a o.dst _ S.n b l,dk];split
 ·obtain⟨A,n,c,rfl⟩:=j;refine .tup [.slice A n c,r] _ (.own _ n c A ?_ (.pure (.sc r .nil) .nil)) .nil;show fh (rv++[_]) (S.rs++[some R]) S.rs.length=_
  unfold fh;rw[Mw (L5 _),M4,Mw (by omega),g,M4];rfl
 exact f i
def CtP(f:FuncId)(args:List Tree)(e sz:Nat)(es:List Tree)(r:Value):Prop:=(∃fn,Tryz.prog.funcs[f]? =some fn/\(fn.name== "runtime.NumGoroutine")=false/\fn.body.isNone=false)/\∀(G:Nat->Prop) (w:World) (vs:List Value),Env w->(∀g,G g->g<w.heap.size/\NoDigB w g)->PT w G vs args->
 Calls Tryz.prog f vs.toArray w fun x w'=>∃v xs,x=.returned (.tuple #[v,r])/\w'.ownsRow w.heap.size e sz v es.length xs/\PT w' (fun b=>G b\/v.ownBlock=some b) xs (flat es)/\Sized sz es/\(∀g,v.ownBlock=some g->NoDigB w' g)/\Below w.heap.size w w'
theorem Sl{f:FuncId}{xs:Array Operand}{k:Array TypeId}{ts es:List Tree}{e sz:Nat}{r:Value}(u:o.op=.call {callee:=.value (.func f),args:=xs,argTypes:=k})(I:cT S.n o.dst=true)(l:CtP f ts e sz es r)(H:xs.toList.map S.ev=ts)(N:ts.all Tree.plain=true):n5 w0 G0 o S ({S with rs:=S.rs++[some (⟨e,sz,es,false⟩:Row)]}.put o.dst (.tup [.own S.rs.length,.sc r])):=by
 rintro a w ⟨bx,rv,d,m,j,b⟩;have t:=n3 (E:=en w G0 bx rv S.rs) (T:=fun s=>a.tmps.getD s undef) (op:=o.op) (S:=S) (fun s _=>b s) xs.toList (fun x B=>by rw[u];simp only[Op.operands,Call.operands];simp;exact .inr (by simpa using B));rw[H]at t;obtain⟨⟨y,D,O,p⟩,l⟩:=l;have g:=l (GG G0 bx rv S.rs) w _ d.env d.ok (t.plains N);refine bJ (f:=f) (args:=(xs.toList.map (cA fun s=>a.tmps.getD s undef)).toArray) ?_ (g.mono ?_)
 ·have M:¬y.name= "runtime.NumGoroutine" :=by simpa using O
  have F:¬y.body=none:=fun e=>by rw[e]at p;cases p
  have P:(xs.toList.map (cA fun s=>a.tmps.getD s undef)).toArray=xs.map (cA fun s=>a.tmps.getD s undef):=OW (by simp);rw[P];simp[execOp,u,resolve,cA,Deferred.ofValue,invoke,callFunc,D,M,F]
 rintro x w' ⟨v,U,rfl,q,G,K,C,J⟩;obtain⟨z,L⟩:=d.addRow (R:=⟨e,sz,es,false⟩) J q G ⟨K,fun h=>by cases h⟩ C;obtain⟨A,c,Q⟩:=cc q;exact⟨_,Z,Sk m j I d.nr z ⟨A,_,c,Q⟩ (fun i=>L [_] [_] (b i)) Z⟩
theorem RH{ops:Array Oper}{a:List Oper}{Q:Exit->St->Prop}{n d k:Nat}{sl:List (Nat×Tree)}{bs:List (TypeId×List Tree)}{rs rs':List (Option Row)}{f:FuncId}{xs:Array Operand}{b:Array TypeId}{ts es:List Tree}{e sz:Nat}{r:Value}(j:o.op=.call {callee:=.value (.func f),args:=xs,argTypes:=b})(q:o.guard=none)(g:o.dst=some d)(h:Nat.blt d n=true)(m:CtP f ts e sz es r)(l:xs.toList.map (St.ev ⟨n,sl,bs,rs⟩)=ts)(p:ts.all Tree.plain=true)(i:rs.length=k)(c:rs++[some ⟨e,sz,es,false⟩]=rs')(K:AOps w0 G0 ops a Q ⟨n,(d,.tup [.own k,.sc r])::sl,bs,rs'⟩):AOps w0 G0 ops (o::a) Q ⟨n,sl,bs,rs⟩:=by
 subst i c;refine eD q (Sl (S:=⟨n,sl,bs,rs⟩) j (by rw[g];simpa[cT,Nn]using h) m l p) ?_;rw[g];exact K
def SI(s s2:Nat)(e sz:Nat)(es:List Tree)(r:Value)(x:Exit)(S:St):Prop:=(x=.normal\/x=.ret)/\∃k tt,S.get s=.own k/\S.rs[k]? =some (some ⟨e,sz,es,tt⟩)/\S.get s2=.sc r
theorem CtP.of{f:FuncId}{d:Func}{c:Code}{args es:List Tree}{e sz n s O:Nat}{r:Value}(V:Tryz.prog.funcs[f]? =some d)(B:d.body=some c)(J:(d.name== "runtime.NumGoroutine")=false)(hn:d.ntmps=n)(Q:Nat.ble args.length n=true)(hr:d.results.toList=[.tmp s,.tmp O])
  (h:∀w0 G0,AWP w0 G0 c (SI s O e sz es r) ⟨n,j5 0 args,[],[]⟩):CtP f args e sz es r:=by
 refine⟨⟨d,V,J,by rw[B];rfl⟩,fun G w vs W Y T=>?_⟩;have U:=T.length;have Q:args.length<=n:=by simpa using Q
 refine calls_of_wp V B (wp_mono (h w G _ w ⟨[],[],⟨Below.refl _ _,W,Y,Z,Z,fun i g F=>by simp at F,fun k v R p=>by simp at p,⟨Pb,fun k v R b p=>by simp at p,fun j k u v X R b _ p=>by simp at p⟩,fun b B=>by simp[cq]at B⟩,?_,Z,fun i=>?_⟩) ?_)
 ·simp;omega
 ·show FT _ _ [look (j5 0 args) i]
  rw[mB,if_pos (Mx _),O8];cases ht:args[i]? with
  |none=>exact .any _ .nil
  |some t=>
   obtain⟨u,P,K⟩:=T.get i t ht;have F:=(L7.1 P).1;have I:(vs.toArray++Array.replicate (d.ntmps-vs.toArray.size) undef).getD i undef=u:=by
    rw[MV,Oz (by simpa using F),NV,P];rfl
   rw[I];refine .pure (K.mono (L5 _) fun b _ o=>⟨Z,fun h=>?_⟩) .nil;rcases h with h|h
   ·exact o h
   simp[cq]at h
 rintro x a w' ⟨S',⟨he,k,tt,hs,S,E⟩,bx,rv,M,_,H,C⟩;obtain⟨us,z,m⟩:=jK M C (hr▸(.cons hs (.cons E .nil):ResL S' [.tmp s,.tmp O] [.own k,.sc r]));obtain⟨u,l,rfl⟩:∃u l,us=[u,l]:=by
  match us,m with
  |[u,l],_=>exact⟨u,l,Z⟩
  |[],h=>cases h
  |[u],h=>have:=h.length;simp at this
  |u::u'::l::us,h=>have:=h.length;simp at this
 obtain⟨_,I,A⟩:=m.get 0 _ rfl;obtain⟨_,e2,q⟩:=m.get 1 _ rfl;cases I;cases e2;obtain rfl:=q.isSc;obtain⟨p,xs,y,N,D,L⟩:=jn M S A;have key:a.defers=[]/\∃v,(results d a.tmps).run Tryz.prog w'=.ok v w'/\(fun x w'=>∃v xs,x=Ending.returned (.tuple #[v,l])/\w'.ownsRow w.heap.size e sz v es.length xs/\PT w' (fun b=>G b\/v.ownBlock=some b) xs (flat es)/\Sized sz es/\(∀g,v.ownBlock=some g->NoDigB w' g)/\Below w.heap.size w w') (.returned v) w':=by
  refine⟨H,.tuple #[u,l],?_,u,xs,Z,y,?_,D.1,L,M.below⟩
  ·unfold results;rw[Sem.run_bind,Ol,Sem.run_map];exact congrArg (fun x:Result (List Value)=>(x.andThen fun a w'=>Result.ok a.toArray w').andThen fun a w'=>Sem.run Tryz.prog (pure (if h:a.size=1 then a[0]else Value.tuple a)) w') z
  refine N.mono (L5 _) fun b _ o=>⟨Z,fun h=>o ?_⟩
  rcases h with h|h
  ·exact .inl h
  exact .inr (aX.2 (.inr ⟨k,_,_,p,S,h⟩))
 rcases he with rfl|rfl
 ·exact key
 exact key
end
theorem QC(k:IntKind)(j:Nat)(i:j<=k.bits)(h:∀n:Int,0<=n->n<2^j->k.wrap n=n)(a b:Nat)(e:a<2^j)(g:b<2^j):bits .xor k a b=((a^^^b:Nat):Int):=by
 have f:2^j<=2^k.bits:=MP (by decide) i;have c:a%2^k.bits=a:=NZ (Mp e f);have d:b%2^k.bits=b:=NZ (Mp g f);simp only[bits,BitVec.ofInt_natCast,BitVec.toNat_xor,BitVec.toNat_ofNat,c,d];exact h _ (Int.natCast_nonneg _) (by exact_mod_cast Nat.xor_lt_two_pow e g)
theorem Q6{x y:Operand}(a b:Nat)(c:a<4294967296)(d:b<4294967296)(w:World):(do eqGuard .xor 50 x y (.int .u32 (a:Nat)) (.int .u32 (b:Nat));binOp .xor 50 (.int .u32 (a:Nat)) (.int .u32 (b:Nat)):Sem Value).run Tryz.prog w=.ok (.int .u32 ((a^^^b:Nat):Int)) w:=by
 have key:=QC .u32 32 (by decide) (fun n f e=>by rw[IntKind.wrap_u32];omega) a b c d;go_simp
theorem Sm{x y:Operand}(a b:Nat)(c:a<256)(d:b<256)(w:World):(do eqGuard .xor 5 x y (.int .u8 (a:Nat)) (.int .u8 (b:Nat));binOp .xor 5 (.int .u8 (a:Nat)) (.int .u8 (b:Nat)):Sem Value).run Tryz.prog w=.ok (.int .u8 ((a^^^b:Nat):Int)) w:=by
 have key:=QC .u8 8 (by decide) (fun n f e=>by rw[IntKind.wrap_u8];omega) a b c d;go_simp
theorem Q7(a:Nat)(b:a<4294967296)(w:World):(Op.unary .xor (.int .u32 (a:Nat))).run Tryz.prog w=.ok (.int .u32 ((a^^^4294967295:Nat):Int)) w:=by
 have key:=QC .u32 32 (by decide) (fun n c d=>by rw[IntKind.wrap_u32];omega) 4294967295 a (by decide) b;rw[Nat.xor_comm]at key;have key:bits .xor .u32 4294967295 (a:Int)=((a^^^4294967295:Nat):Int):=key;show(Sem.run Tryz.prog (Op.intBits .xor .u32 4294967295 a) w)=_
 go_simp
theorem Q8{x y:Operand}(a:Nat)(b:a<4294967296)(w:World):(do eqGuard .and 50 x y (.int .u32 (a:Nat)) (.int .u32 1);binOp .and 50 (.int .u32 (a:Nat)) (.int .u32 1):Sem Value).run Tryz.prog w=.ok (.int .u32 ((a%2:Nat):Int)) w:=by
 have key:=(bits_nat .u32 32 (by decide) (fun n c d=>by rw[IntKind.wrap_u32];omega) a 1 b (by decide)).1;rw[Nat.and_one_is_mod]at key;have key:bits .and .u32 (a:Int) 1=((a%2:Nat):Int):=key;go_simp
theorem RI{x y:Operand}(a:Nat)(b:a<18446744073709551616)(w:World):(do eqGuard .and 89 x y (.int .u64 (a:Nat)) (.int .u64 127);binOp .and 89 (.int .u64 (a:Nat)) (.int .u64 127):Sem Value).run Tryz.prog w=.ok (.int .u64 ((a%128:Nat):Int)) w:=by
 have key:=bits_and_u64_nat a 127 b (by decide);rw[show a&&& 127=a%128 from On a 7]at key;have key:bits .and .u64 (a:Int) 127=((a%128:Nat):Int):=key;go_simp
theorem R2{x y:Operand}(a:Nat)(b:a<128)(w:World):(do eqGuard .or 5 x y (.int .u8 (a:Nat)) (.int .u8 128);binOp .or 5 (.int .u8 (a:Nat)) (.int .u8 128):Sem Value).run Tryz.prog w=.ok (.int .u8 ((a+128:Nat):Int)) w:=by
 have key:bits .or .u8 (a:Int) 128=((a+128:Nat):Int):=by
  have:∀x:Fin 128,bits .or .u8 (x.val:Int) 128=((x.val+128:Nat):Int):=by decide+kernel
  exact this ⟨a,b⟩
 go_simp
theorem Sn{x y:Operand}(a:Nat)(w:World):(do eqGuard .shr 89 x y (.int .u64 (a:Nat)) (.int .u64 7);binOp .shr 89 (.int .u64 (a:Nat)) (.int .u64 7):Sem Value).run Tryz.prog w=.ok (.int .u64 ((a/128:Nat):Int)) w:=by
 simp[eqGuard,binOp,Op.shift,IntKind.bits];exact PM _ (by decide)
theorem H2{x y:Operand}(a k:Nat)(b:k<32)(w:World):(do eqGuard .shr 50 x y (.int .u32 (a:Nat)) (.int .u64 (k:Nat));binOp .shr 50 (.int .u32 (a:Nat)) (.int .u64 (k:Nat)):Sem Value).run Tryz.prog w=.ok (.int .u32 ((a/2^k:Nat):Int)) w:=by
 simp[eqGuard,binOp];try omega
theorem RJ{x y:Operand}(a k:Nat)(b:k<32)(w:World):(do eqGuard .shr 50 x y (.int .u32 (a:Nat)) (.int .i64 (k:Nat));binOp .shr 50 (.int .u32 (a:Nat)) (.int .i64 (k:Nat)):Sem Value).run Tryz.prog w=.ok (.int .u32 ((a/2^k:Nat):Int)) w:=by
 simp[eqGuard,binOp];try omega
theorem So{x y:Operand}(k:Nat)(a:k<8)(w:World):(do eqGuard .shl 5 x y (.int .u8 1) (.int .u64 (k:Nat));binOp .shl 5 (.int .u8 1) (.int .u64 (k:Nat)):Sem Value).run Tryz.prog w=.ok (.int .u8 ((2^k:Nat):Int)) w:=by
 have:k=0\/k=1\/k=2\/k=3\/k=4\/k=5\/k=6\/k=7:=by omega
 rcases this with rfl|rfl|rfl|rfl|rfl|rfl|rfl|rfl<;>simp[eqGuard,binOp,IntKind.wrap_u8]
theorem Ri{a:Nat}:(Tree.sc (.int .u8 (IntKind.u8.wrap (a:Int))))=.sc (.int .u8 ((a%256:Nat):Int)):=by
 rw[IntKind.wrap_u8];rfl
theorem SK{a:Nat}(h:a<4294967296):(Tree.sc (.int .u32 (IntKind.u32.wrap (a:Int))))=.sc (.int .u32 ((a:Nat):Int)):=by
 rw[IntKind.wrap_u32];congr 2;omega
theorem SE{x:Nat}(h:x<256):bg [UInt8.ofNat x]=[.sc (.int .u8 ((x:Nat):Int))]:=by
 have e:(UInt8.ofNat x).toNat=x:=by rw[O6];exact NZ h
 show [Tree.sc (.int .u8 ((UInt8.ofNat x).toNat:Nat))]=_
 rw[e]
theorem SN{a:Nat}(h:a<256):(Tree.sc (.int .u8 (IntKind.u8.wrap (a:Int))))=.sc (.int .u8 ((a:Nat):Int)):=by
 rw[IntKind.wrap_u8];congr 2;omega
section
variable {w0:World} {G0:Nat->Prop} {o:Oper} {S:St}
theorem R3{t e:TypeId}{x:Operand}{v z:Value}{k:Nat}(u:o.op=.buildSlice t 1 #[(0,x)])(D:cT S.n o.dst=true)(G:gE Tryz.prog t=some (e,1))(_:lM Tryz.prog t=some (e,1,k))(B:gc Tryz.prog e=some [z])(l:S.ev x=.sc v)(C:v.oneCell'=true)(F:bL v=true):n5 w0 G0 o S ({S with rs:=S.rs++[some (⟨e,1,[.sc v],true⟩:Row)]}.put o.dst (.own S.rs.length)):=by
 rintro a w ⟨bx,rv,f,q,m,b⟩;have j:=(bI (op:=o.op) (T:=fun s=>a.tmps.getD s undef) (S:=S) (fun s _=>b s) l (by rw[u];simp[Op.operands])).isSc;generalize (fun s=>a.tmps.getD s undef)=T at j⊢;have d:=World.ownsRow_lit (base:=w.heap.size) (e:=e) (size:=1) w #[v] 1 (L5 _) (by simp only[maxLen];omega) (by simp);have H:Below w.heap.size w (w.alloc (.cells #[v] e)):=(Below.refl _ _).alloc (L5 _) _;have r:∀g,(Value.slice (some ⟨w.heap.size,0,none⟩) 1 1).ownBlock=some g->NoDigB (w.alloc (.cells #[v] e)) g:=fun g p=>by
  injection p with p
  subst p;exact cI (heap_alloc_new w _) (by simp[F])
 obtain⟨y,E⟩:=f.addRow (R:=⟨e,1,[.sc v],true⟩) (v:=.slice (some ⟨w.heap.size,0,none⟩) 1 1) H (by simpa using d) (.sc v .nil) ⟨fun x l=>(by rw[Ml.1 l];rfl),fun _ A n c e=>(by cases e;rfl)⟩ r;refine aq (v:=.slice (some ⟨w.heap.size,0,none⟩) 1 1) (W':=w.alloc (.cells #[v] e)) ?_ (vA q m D f.nr y ⟨_,_,_,Z⟩ (fun i=>E [_] [_] (b i)) Z);have h:=zf (w:=w) G B C;simp[execOp,u,j,h]
end
theorem Rj{w0:World}{G0:Nat->Prop}{o:Oper}{ops:Array Oper}{a:List Oper}{Q:Exit->St->Prop}{n d k:Nat}{sl:List (Nat×Tree)}{bs:List (TypeId×List Tree)}{rs rs':List (Option Row)}{t e:TypeId}{x:Operand}{v z:Value}{b:Nat}(j:o.op=.buildSlice t 1 #[(0,x)])(p:o.guard=none)(f:o.dst=some d)(h:Nat.blt d n=true)(q:gE Tryz.prog t=some (e,1))(l:lM Tryz.prog t=some (e,1,b))(g:gc Tryz.prog e=some [z])(m:St.ev ⟨n,sl,bs,rs⟩ x=.sc v)(r:v.oneCell'=true)(s:bL v=true)(i:rs.length=k)(c:rs++[some ⟨e,1,[.sc v],true⟩]=rs')(K:AOps w0 G0 ops a Q ⟨n,(d,.own k)::sl,bs,rs'⟩):AOps w0 G0 ops (o::a) Q ⟨n,sl,bs,rs⟩:=by
 subst i c;refine eD p (R3 (S:=⟨n,sl,bs,rs⟩) j (by rw[f];simpa[cT,Nn]using h) q l g m r s) ?_;rw[f];exact K
theorem RK(l:List UInt8)(j:Nat)(c:UInt8):(bg l).set j (.sc (.int .u8 (c.toNat:Nat)))=bg (l.set j c):=by unfold bg;rw[List.map_set]
def QA(r:Nat):Nat:=if r%2=1 then(r/2)^^^2197175160 else r/2
def QW:Nat->Nat->Nat
 |0,r=>r
 |n+1,r=>QW n (QA r)
def Q3:Nat->List UInt8->Nat
 |r,[]=>r
 |r,c::l=>Q3 (QW 8 (r^^^c.toNat)) l
def H8(l:List UInt8):Nat:=Q3 4294967295 l^^^4294967295
theorem R4(r:Nat)(c:UInt8)(l:List UInt8):Q3 r (c::l)=Q3 (QW 8 (r^^^c.toNat)) l:=rfl
theorem R5(n r:Nat):QW (n+1) r=QW n (QA r):=rfl
theorem QG{r:Nat}(h:r<4294967296):QA r<4294967296:=by
 unfold QA;split
 ·exact Nat.xor_lt_two_pow (n:=32) (by omega) (by decide)
 omega
theorem RV:∀(n:Nat) {r:Nat},r<4294967296->QW n r<4294967296
 |0,_,h=>h
 |n+1,_,h=>RV n (QG h)
theorem SJ(c:UInt8):c.toNat<4294967296:=Nat.lt_trans c.toNat_lt (by decide)
theorem RW:∀(l:List UInt8) {r:Nat},r<4294967296->Q3 r l<4294967296
 |[],_,h=>h
 |c::l,_,h=>RW l (RV 8 (Nat.xor_lt_two_pow (n:=32) h (SJ c)))
theorem Sp(l:List UInt8):H8 l<4294967296:=Nat.xor_lt_two_pow (n:=32) (RW l (by decide)) (by decide)
theorem SO(a b c:Nat):a^^^(b^^^c)=b^^^(a^^^c):=by rw[<-Nat.xor_assoc,Nat.xor_comm a,Nat.xor_assoc]
theorem Rs(a b:Nat):QA (a^^^b)=QA a^^^QA b:=by
 unfold QA;have h:=@Nat.xor_mod_two_eq_one a b
 rw[Nat.xor_div_two];by_cases c:a%2=1<;>by_cases d:b%2=1
 ·rw[if_neg (by rw[h];simp[c,d]),if_pos c,if_pos d,Nat.xor_assoc,SO 2197175160,Nat.xor_self,Nat.xor_zero]
 ·rw[if_pos (by rw[h];simp[c,d]),if_pos c,if_neg d,Nat.xor_assoc,Nat.xor_assoc,Nat.xor_comm (b/2)]
 ·rw[if_pos (by rw[h];simp[c,d]),if_neg c,if_pos d,Nat.xor_assoc]
 rw[if_neg (by rw[h];simp[c,d]),if_neg c,if_neg d]
def f5(l:List UInt8)(p:Nat):Bool:=(l.getD (p/8) 0).toNat.testBit (p%8)
def E2(f:Nat->Bool):Nat->Nat->Nat->Nat
 |_,0,r=>r
 |k,n+1,r=>E2 f (k+1) n (QA (r^^^(f k).toNat))
theorem QM(f:Nat->Bool):∀(n m k r:Nat),E2 f k (n+m) r=E2 f (k+n) m (E2 f k n r)
 |0,m,k,r=>by rw[M0];rfl
 |n+1,m,k,r=>by
  rw[show n+1+m=(n+m)+1 by omega];show E2 f (k+1) (n+m) _=_
  rw[QM f n m (k+1),show k+1+n=k+(n+1) by omega];rfl
theorem QE{f g:Nat->Bool}:∀(n k j r:Nat),(∀i,i<n->f (k+i)=g (j+i))->E2 f k n r=E2 g j n r
 |0,_,_,_,_=>rfl
 |n+1,k,j,r,h=>by
  have a:=h 0 (by omega);rw[No,No]at a;show E2 f (k+1) n _=E2 g (j+1) n _
  rw[a];exact QE n (k+1) (j+1) _ fun i b=>by
   have:=h (i+1) (by omega);rwa[show k+(i+1)=k+1+i by omega,show j+(i+1)=j+1+i by omega]at this
theorem Rt(f g:Nat->Bool):∀(n k a b:Nat),E2 f k n a^^^E2 g k n b=E2 (fun p=>f p^^g p) k n (a^^^b)
 |0,_,_,_=>rfl
 |n+1,k,a,b=>by
  show E2 f (k+1) n _^^^E2 g (k+1) n _=E2 _ (k+1) n _
  rw[Rt f g n (k+1),<-Rs];have e:(f k^^g k).toNat=(f k).toNat^^^(g k).toNat:=by cases f k<;>cases g k<;>rfl
  rw[e];congr 2;rw[Nat.xor_assoc,Nat.xor_assoc,SO (f k).toNat]
theorem Q9:∀(n c r:Nat),c<2^n->QW n (r^^^c)=E2 (fun p=>c.testBit p) 0 n r
 |0,c,r,h=>by
  obtain rfl:c=0:=by simpa using h
  rw[Nat.xor_zero];rfl
 |n+1,c,r,h=>by
  have f:=Q9 n (c/2) (QA (r^^^(c.testBit 0).toNat)) (by rw[MM]at h;omega);show QW n (QA (r^^^c))=E2 _ 1 n _
  have e:c=(c.testBit 0).toNat^^^(2*(c/2)):=by
   rw[Nat.testBit_zero];rcases Nat.mod_two_eq_zero_or_one c with a|a
   ·simp[a];omega
   rw[a];have g:(1:Nat)^^^(2*(c/2))=2*(c/2)+1:=by
    have:=Nat.two_pow_add_eq_or_of_lt (i:=1) (b:=1) (by decide) (c/2);apply Nat.eq_of_testBit_eq;intro i;cases i with
    |zero=>rw[Nat.testBit_xor];simp[Nat.testBit_zero]
    |succ i=>rw[Nat.testBit_xor,Nat.testBit_succ,Nat.testBit_succ,Nat.testBit_succ];simp[show(2*(c/2)+1)/2=c/2 by omega]
   simp only[decide_true,Bool.toNat_true];omega
  have d:QA (r^^^c)=QA (r^^^(c.testBit 0).toNat)^^^(c/2):=by
   conv=>lhs;rw[e]
   rw[<-Nat.xor_assoc,Rs _ (2*(c/2))];congr 1;unfold QA;rw[if_neg (by omega)];omega
  rw[d,f];refine QE n 0 1 _ fun i _=>?_
  rw[M0,Nat.testBit_div_two,NW]
theorem QT:∀(l:List UInt8) (r:Nat),Q3 r l=E2 (f5 l) 0 (8*l.length) r
 |[],_=>rfl
 |c::l,r=>by
  have b:8*(c::l).length=8+8*l.length:=by rw[Mb];omega
  have e:E2 (f5 (c::l)) 0 8 r=QW 8 (r^^^c.toNat):=by
   refine Eq.trans ?_ (Q9 8 c.toNat r c.toNat_lt).symm;refine QE 8 0 0 r fun i a=>?_
   unfold f5;rw[M0,Oa a,NZ a];rfl
  have f:∀s,E2 (f5 (c::l)) 8 (8*l.length) s=E2 (f5 l) 0 (8*l.length) s:=fun s=>by
   refine QE _ 8 0 _ fun i _=>?_
   unfold f5;rw[show(8+i)/8=i/8+1 by omega,show(8+i)%8=i%8 by omega,M0,List.getD_cons_succ]
  have d:=QM (f5 (c::l)) 8 (8*l.length) 0 r;rw[b,d,e,M0,f];exact QT l _
theorem Ra{f:Nat->Bool}:∀(n k:Nat),(∀i,i<n->f (k+i)=false)->E2 f k n 0=0
 |0,_,_=>rfl
 |n+1,k,h=>by
  have a:=h 0 (by omega);rw[No]at a;show E2 f (k+1) n _=0
  rw[a];exact Ra n (k+1) fun i b=>by
   have:=h (i+1) (by omega);rwa[show k+(i+1)=k+1+i by omega]at this
theorem R6{r:Nat}(a:r<4294967296)(h:QA r=0):r=0:=by
 unfold QA at h;split at h
 ·have b:r/2=2197175160:=by
   have:=congrArg (· ^^^2197175160) h;simpa[Nat.xor_assoc]using this
  omega
 omega
theorem Rb{f:Nat->Bool}:∀(n k:Nat) {r:Nat},r<4294967296->(∀i,i<n->f (k+i)=false)->E2 f k n r=0->r=0
 |0,_,_,_,_,h=>h
 |n+1,k,r,hr,hf,h=>by
  have a:=hf 0 (by omega);rw[No]at a;have b:E2 f (k+1) n (QA (r^^^(f k).toNat))=0:=h;rw[a,show r^^^false.toNat=r from Nat.xor_zero r]at b;exact R6 hr (Rb n (k+1) (QG hr) (fun i c=>by
   have:=hf (i+1) (by omega);rwa[show k+(i+1)=k+1+i by omega]at this) b)
def QX(f:Nat->Bool):Nat->Nat->Nat
 |_,0=>0
 |k,n+1=>(f k).toNat+2*QX f (k+1) n
theorem RX(f:Nat->Bool):∀n k,QX f k n<2^n
 |0,_=>Nat.one_pos
 |n+1,k=>by
  have:=RX f n (k+1);have a:(f k).toNat<=1:=by cases f k<;>decide
  rw[QX,MM];omega
theorem Rc{f:Nat->Bool}:∀(n k:Nat),QX f k n=0->∀i,i<n->f (k+i)=false
 |0,_,_,i,hi=>by omega
 |n+1,k,h,i,hi=>by
  rw[QX]at h;cases i with
  |zero=>
   rw[No];cases a:f k with
   |false=>rfl
   |true=>rw[a]at h;simp at h
  |succ i=>
   have:=Rc (f:=f) n (k+1) (by omega) i (by omega);rwa[show k+(i+1)=k+1+i by omega]
theorem Sq{a:Nat}(h:a<2147483648):2147483648<=a^^^2197175160:=by
 rcases MI (a^^^2197175160) 2147483648 with b|b
 ·have:=Nat.xor_lt_two_pow (n:=31) b h;rw[Nat.xor_comm a,Nat.xor_assoc,Nat.xor_self]at this;exact absurd this (by decide)
 exact b
theorem Ru{f:Nat->Bool}:∀(n k:Nat) {r:Nat},n<=32->r<4294967296->E2 f k n r=0->r=QX f k n
 |0,_,_,_,_,h=>h
 |n+1,k,r,hn,hr,h=>by
  have j:(f k).toNat<=1:=by cases f k<;>decide
  have d:r^^^(f k).toNat<4294967296:=Nat.xor_lt_two_pow (n:=32) hr (by omega);have b:=Ru n (k+1) (by omega) (QG d) h;have e:QX f (k+1) n<2147483648:=Mp (RX f n (k+1)) (MP (n:=2) (by decide) (show n<=31 by omega));have g:r^^^(f k).toNat=2*QX f (k+1) n:=by
   unfold QA at b;split at b
   ·have:=Sq (a:=(r^^^(f k).toNat)/2) (by omega);omega
   omega
  have c:r=2*QX f (k+1) n^^^(f k).toNat:=by rw[<-g,Nat.xor_assoc,Nat.xor_self,Nat.xor_zero]
  rw[QX];rw[c];cases f k with
  |false=>simp
  |true=>
   apply Nat.eq_of_testBit_eq;intro i;cases i with
   |zero=>rw[Nat.testBit_xor];simp[Nat.testBit_zero]
   |succ i=>
    rw[Nat.testBit_xor,Nat.testBit_succ,Nat.testBit_succ,Nat.testBit_succ];simp[show(1+2*QX f (k+1) n)/2=QX f (k+1) n by omega]
theorem Rv{a b:List UInt8}{s bits:Nat}(f:a.length=b.length)(z:s+32<=8*a.length)(l:bits<4294967296)(u:bits≠0)(h:∀p,f5 b p=(f5 a p^^(decide (s<=p)&&decide (p<s+32)&&bits.testBit (p-s)))):H8 a≠H8 b:=by
 intro t;have v:Q3 4294967295 a=Q3 4294967295 b:=by
  have:=congrArg (· ^^^4294967295) t;simpa[H8,Nat.xor_assoc]using this
 have c:=Rt (f5 a) (f5 b) (8*a.length) 0 4294967295 4294967295;rw[<-QT,f,<-QT,v,Nat.xor_self,Nat.xor_self]at c;rw[<-f]at c;obtain⟨m,q⟩:∃m,8*a.length=s+(32+m):=⟨8*a.length-(s+32),by omega⟩;have d:∀p,(f5 a p^^f5 b p)=(decide (s<=p)&&decide (p<s+32)&&bits.testBit (p-s)):=fun p=>by rw[h p,<-Bool.xor_assoc,Bool.xor_self,Bool.false_xor]
 rw[q,QM,Ra s 0 (fun i g=>by
  show(f5 a _^^f5 b _)=false
  rw[d,M0,decide_eq_false (by omega)];rfl),QM]at c
 have o:=Rb m _ (r:=E2 _ (0+s) 32 0) ?_ (fun i _=>?_) c.symm
 ·have w:=Ru 32 _ (L5 _) (by decide) o;have j:=Rc 32 _ w.symm;refine u (Nat.eq_of_testBit_eq fun i=>?_);rw[Nat.zero_testBit];by_cases g:i<32
  ·have:=j i g;have e:(f5 a (0+s+i)^^f5 b (0+s+i))=false:=this;rw[d,decide_eq_true (by omega),decide_eq_true (by omega),show 0+s+i-s=i by omega]at e;simpa using e
  exact Nat.testBit_lt_two_pow (Mp l (MP (n:=2) (by decide) (show 32<=i by omega)))
 ·have:∀n k r,r<4294967296->E2 (fun p=>f5 a p^^f5 b p) k n r<4294967296:=by
   intro n;induction n with
   |zero=>exact fun _ _ h=>h
   |succ n ih=>
    intro k r y;refine ih (k+1) _ (QG (Nat.xor_lt_two_pow (n:=32) y ?_));have:∀x:Bool,x.toNat<2^32:=by decide
    exact this _
  exact this _ _ _ (by decide)
 show(f5 a _^^f5 b _)=false
 rw[d,decide_eq_false (show¬(0+s+32+i<s+32) by omega)];simp
def EJ(n:Nat):List UInt8:=if 128<=n then UInt8.ofNat (n%128+128)::EJ (n/128)else [UInt8.ofNat n]
termination_by n
decreasing_by omega
theorem Rw:∀(k:Nat) {n:Nat},1<=k->n<128^k->(EJ n).length<=k
 |0,n,h,_=>by omega
 |k+1,n,_,h=>by
  rw[EJ];split
  ·next h1=>
   rw[MM]at h;have a:1<=k:=by
    cases k with
    |zero=>simp at h;omega
    |succ k=>omega
   have:=Rw k (n:=n/128) a (by omega);simp only[Mb];omega
  simp
theorem g9{n:Nat}(h:n<18446744073709551616):(EJ n).length<=10:=Rw 10 (by decide) (Mp h (by decide))
theorem QN(n:Nat):1<=(EJ n).length:=by
 rw[EJ];split<;>simp
def Pl(l:List UInt8):List UInt8:=EJ l.length++l
def Qk(b:Bool):List UInt8:=EJ (if b then 1 else 0)
def Re(n sz:Nat):Nat->List UInt8->List UInt8
 |0,l=>l
 |k+1,l=>Re n sz k (l.set k (UInt8.ofNat ((ay n).getD ((sz-1-k)/4) 0/2^((sz-1-k)%4*8)%256)))
def RL(n:Nat):List UInt8:=Re n ((c8 n+7)/8) ((c8 n+7)/8) (List.replicate ((c8 n+7)/8) 0)
theorem Rf(n sz:Nat):∀(k:Nat) (l:List UInt8),(Re n sz k l).length=l.length
 |0,_=>rfl
 |k+1,l=>by rw[Re,Rf n sz k,MU]
theorem Sr(n:Nat):(RL n).length=(c8 n+7)/8:=by unfold RL;rw[Rf,Ok]
def QY(n:Nat):List UInt8:=Pl (RL n)
def Rk(q:Rat):List UInt8:=(if q.num<0 then 1 else 0)::(QY q.num.natAbs++QY q.den)
theorem Rx{d:Nat}(h:d<4294967296):Lib.bitLen d<=32:=by
 by_cases a:d=0
 ·subst a;decide
 have:=(Lib.bitLenAux_bounds 64 d (by omega) a).2.1;unfold Lib.bitLen;rcases MI 32 (Lib.bitLenAux 64 d)with b|b
 ·have c:2^32<=2^(Lib.bitLenAux 64 d-1):=MP (by decide) (by omega);omega
 exact b
theorem QV{l:List UInt8}{j x:Nat}(h:x<256):(bg l).set j (.sc (.int .u8 ((x:Nat):Int)))=bg (l.set j (UInt8.ofNat x)):=by
 have e:(UInt8.ofNat x).toNat=x:=by rw[O6];exact NZ h
 rw[<-RK,e]
theorem Q1(n:Nat):c8 n<=32*(ay n).length:=by
 unfold c8;split
 ·omega
 next h=>
 have b:0<(ay n).length:=re.2 (by omega);have a:(ay n).getD ((ay n).length-1) 0<4294967296:=by
  rw[Mm,L4 (by omega),MK];exact bY n _ (MY _)
 have c:Lib.bitLen ((ay n).getD ((ay n).length-1) 0)<=32:=Rx a;omega
theorem SA(l:List V)(d:l.length<=65536)(b:l.all V.ok=true)(n:∀v∈l,v.rng):Ct 52 [.sl (l.map V.tree)] (.sl (bg (fE l))):=⟨⟨_,Tryz.func52,Z,Z⟩,fun G w vs _ j i=>by
 obtain⟨u,rfl,k⟩:=cR i;obtain⟨A,c,rfl,a,_⟩:=qX k;refine(EN A c l w a d n).mono ?_;rintro e w' ⟨v,rfl,g,_,f⟩;have h:=g b;refine⟨v,Z,?_,f⟩;have m:w'.ownsRow w.heap.size 5 1 v (bg (fE l)).length (bH (fE l)):=by rw[a7];exact h
 exact Jl j m (u5 _)⟩
theorem QH(n:Nat)(j:n<18446744073709551616):CtO 51 [.sc (.int .u64 ((n:Nat):Int))] 5 1 (bg (EJ n)):=by
 refine CtO.of (n:=20) Tryz.func51 Z Z Z Z Z fun w0 G0=>?_
 refine ab<|ae<|af (t:=.sl []) Z Z Z (cW (.inr Z) dI)<|ag<|ab<|ae<|g7 (k:=0) (e:=5) (sz:=1) (rs':=[some ⟨5,1,bg [],false⟩]) (.inr Z) Z Z Z Z Z<|ag<|ab<|aE<|aW (fun l o=>∃(m:Nat) (a:List UInt8),(m<18446744073709551616/\a++EJ m=EJ n)/\l=m+1/\o=⟨20,[(0,.sc (.int .u64 ((m:Nat):Int))),(3,.own 0)],[],[some ⟨5,1,bg a,false⟩]⟩) 0 1 ⟨n,[],⟨j,Z⟩,Z,Z⟩ ⟨Z,Z,Z,.cons Z Z (.cons Z Z .nil),Z⟩ ?_;rintro l o ⟨m,a,⟨p,b⟩,rfl,rfl⟩;have d:=congrArg List.length b;have q:=g9 j;rw[Mc]at d;refine ab<|ab<|ae<|aa 1 Z<|af (t:=bT (decide (128<=m))) Z Z Z (ah (ai Z Z Z Zy) (av (IJ m 128)))<|ag<|aF Z (fun c=>?_) (fun c=>?_)
 ·have i:=c;have h:EJ m=UInt8.ofNat (m%128+128)::EJ (m/128):=by rw[EJ,if_pos i]
  refine ax<|aE<|ab<|ae<|aa 2 rfl<|af (t:=.sc (.int .u64 ((m%128:Nat):Int))) rfl rfl rfl (ai rfl rfl rfl (fun w=>RI m p w))<|af (t:=.sc (.int .u8 ((m%128:Nat):Int))) rfl rfl rfl (ah (k7 rfl nB Dp rfl) (SN (by omega)))<|af (t:=.sc (.int .u8 ((m%128+128:Nat):Int))) rfl rfl rfl (ai rfl rfl rfl (fun w=>R2 (m%128) (by omega) w))<|af (t:=.sl [.sc (.int .u8 ((m%128+128:Nat):Int))]) rfl rfl rfl (a6 rfl df jm rfl (by decide) (by decide) rfl rfl rfl rfl rfl)<|cD (bs':=[]) (rs':=[some ⟨5,1,bg (a++[UInt8.ofNat (m%128+128)]),false⟩]) rfl rfl rfl rfl eS rfl rfl rfl rfl (by intro e f;simp only[Mi,Nr,or_false]at f;subst f;rfl) (AllC.lit rfl) (AllC.lit rfl) (by simp only[a7,Mb,Mo];omega) rfl rfl rfl (by rw[fq,SE (by omega)];rfl)<|aa 1 rfl<|ag<|ae<|aa 1 rfl<|af (t:=.sc (.int .u64 ((m/128:Nat):Int))) rfl rfl rfl (ai rfl rfl rfl (fun w=>Sn m w))<|aa 1 rfl<|ag<|⟨_,_,?_,⟨m/128,(a++[UInt8.ofNat (m%128+128)]),?_,rfl,rfl⟩,⟨rfl,rfl,rfl,.cons rfl rfl (.cons rfl rfl .nil),rfl⟩⟩
  ·omega
  exact⟨by omega,by rw[<-b,h];simp⟩
 refine aZ<|ab ?_;have g:a++[UInt8.ofNat m]=EJ n:=by rw[<-b,EJ,if_neg (by omega)]
 refine ae<|aa 2 rfl<|af (t:=.sc (.int .u8 ((m:Nat):Int))) rfl rfl rfl (ah (k7 rfl nB Dp rfl) (SN (by omega)))<|af (t:=.sl [.sc (.int .u8 ((m:Nat):Int))]) rfl rfl rfl (a6 rfl df jm rfl (by decide) (by decide) rfl rfl rfl rfl rfl)<|cD (bs':=[]) (rs':=[some ⟨5,1,bg (a++[UInt8.ofNat m]),false⟩]) rfl rfl rfl rfl eS rfl rfl rfl rfl (by intro e f;simp only[Mi,Nr,or_false]at f;subst f;rfl) (AllC.lit rfl) (AllC.lit rfl) (by simp only[a7,Mb,Mo];omega) rfl rfl rfl (by rw[fq,SE (by omega)];rfl)<|aa 1 rfl<|ag<|aC<|⟨.inr rfl,0,false,rfl,by rw[g];rfl⟩
theorem QZ(l:List UInt8)(b:l.length<=1000000000):CtO 49 [.sl (bg l)] 5 1 (bg (Pl l)):=by
 refine CtO.of (n:=9) Tryz.func49 Z Z Z Z Z fun w0 G0=>?_
 refine ab<|ae<|af (t:=.sl []) Z Z Z (cW (.inr Z) dI)<|ag<|ab ?_;have a:=g9 (n:=l.length) (by omega);refine ae<|aa 1 Z<|af (t:=nI l.length) Z Z Z (ah (bd Z df Z) (by simp only[a7]))<|af (t:=.sc (.int .u64 ((l.length:Nat):Int))) Z Z Z (ah (k7 Z mR nB Z) (KA (by omega)))<|IS (k:=0) (rs':=[some ⟨5,1,bg (EJ l.length),false⟩]) Z Z Z Z (QH l.length (by omega)) Z Z Z Z<|aa 1 Z<|cD (bs':=[]) (rs':=[some ⟨5,1,bg ((EJ l.length)++l),false⟩]) Z Z Z Z eS Z Z Z Z (lU _) (AllC.map _ _ fun _=>rfl) (AllC.map _ _ fun _=>rfl) (by simp only[a7];omega) Z Z Z (by simp only[fq];rfl)<|aa 1 Z<|ag<|aC<|⟨.inr Z,0,false,Z,Z⟩
theorem RY(b:Bool):Ct 50 [bT b] (.sl (bg (Qk b))):=by
 refine Ct.of (n:=6) Tryz.func50 Z Z Z Z Z fun w0 G0=>?_
 refine ab<|ae<|af (t:=.sl []) Z Z Z (cW (.inr Z) dI)<|ag<|ab<|ab<|aj 1 Z<|aH Z (fun a=>?_) (fun a=>?_)
 ·refine ab<|ae<|af Z Z Z (ar Z ((QH 1 (by decide)).ct) Z Z)<|aa 1 Z<|ag<|aC<|⟨.inr Z,_,.cons Z .nil,LV (by unfold Qk;rw[a];rfl),Z⟩
 refine ax<|ab<|ae<|af Z Z Z (ar Z ((QH 0 (by decide)).ct) Z Z)<|aa 1 Z<|ag<|aC<|⟨.inr Z,_,.cons Z .nil,LV (by unfold Qk;rw[a];rfl),Z⟩
theorem Q0(n:Nat)(s:(ay n).length<=262144):Ct 111 [aM n] (.sl (bg (QY n))):=by
 refine Ct.of (n:=36) Tryz.func111 Z Z Z Z Z fun w0 G0=>?_
 refine ab<|ae<|af (t:=.sl []) Z Z Z (cW (.inr Z) dI)<|ag<|ab ?_;obtain⟨sz,g⟩:∃z,(c8 n+7)/8=z:=⟨_,rfl⟩;have q:=Q1 n;have o:sz<=1048577:=by omega
 refine ae<|aa 1 Z<|af Z Z Z (ar Z (pL n s) Z Z)<|af (t:=nI ((c8 n)+7)) Z Z Z (ah (ai Z Z Z Zy) (bu (by omega)))<|af (t:=nI sz) Z Z Z (ah (ai Z Z Z (fun w=>Bs ((c8 n)+7) 8 (by omega) (by omega) w)) (F1 g))<|aa 1 Z<|ag<|ab<|ae<|aa 1 Z<|IR (m:=sz) (zt:=.sc (.int .u8 0)) (k:=0) (rs':=[some ⟨5,1,bg (List.replicate sz 0),true⟩]) Z Z Z Z eS jm Z Z (rfl) (rfl) Z (by omega) Z Z (by simp[bg])<|aa 1 Z<|ag<|ab<|ab<|ae<|aa 1 Z<|af (t:=nI sz) Z Z Z (ah (yX Z df Z Z) (by simp only[a7,Ok]))<|aa 1 Z<|ag<|aE<|aW (fun p r=>∃(i:Nat) (b:List UInt8),(i<=sz/\b.length=sz/\Re n sz (sz-i) b=RL n)/\p=sz-i/\r=⟨36,[(0,.sl ((ay n).map o4)),(3,nI sz),(4,.own 0),(13,nI sz),(14,nI i)],[],[some ⟨5,1,bg b,true⟩]⟩) 0 1 ⟨0,List.replicate sz 0,⟨Mx _,Ok,by unfold RL;rw[g];rfl⟩,Z,Z⟩ ⟨Z,Z,Z,.cons Z Z (.cons Z Z (.cons Z Z (.cons Z Z (.cons Z Z .nil)))),Z⟩ ?_;rintro p r ⟨i,b,⟨y,h,a⟩,rfl,rfl⟩;refine ab<|ae<|af (t:=bT (decide (i<sz))) Z Z Z (ah (ai Z Z Z Zy) (av (iu i sz)))<|ag<|ab<|aF Z (fun l=>?_) (fun l=>?_)
 ·have v:=Q1 n;obtain⟨d,c⟩:∃d,(ay n)[i/4]? =some d:=⟨_,L4 (by omega)⟩;have x:d<4294967296:=bY n d (L9 c);obtain⟨k,u⟩:∃k,sz-i=k+1:=⟨sz-i-1,by omega⟩;rw[u,Re,show sz-1-k=i by omega,Mm,c,MK]at a;refine ax<|ab<|aE<|ab<|aj 2 Z<|ae<|aa 2 Z<|af (t:=nI (sz-1)) Z Z Z (ah (ai Z Z Z Zy) (bu (by omega)))<|aa 1 Z<|af (t:=nI ((sz-1)-i)) Z Z Z (ah (ai Z Z Z Zy) (bu (by omega)))<|aa 2 Z<|af (t:=nI (i/4)) Z Z Z (ai Z Z Z (fun w=>Bs i 4 (by omega) (by omega) w))<|af (t:=.ref [.sc (.int .u32 ((d:Nat):Int))]) Z Z Z (aQ (o4 d) Z dw Z Z Z (bf (f:=o4) c) (nK _) Z)<|aa 2 Z<|af (t:=nI (i%4)) Z Z Z (ai Z Z Z (fun w=>mF i 4 (by omega) w))<|af (t:=nI ((i%4)*8)) Z Z Z (ah (ai Z Z Z Zy) (bu (by omega)))<|af (t:=.sc (.int .u32 ((d/2^((i%4)*8):Nat):Int))) Z Z Z (ai Z Z Z (fun w=>RJ d _ (by omega) w))<|af (t:=.sc (.int .u8 ((d/2^((i%4)*8)%256:Nat):Int))) Z Z Z (ah (k7 Z Aq Dp Z) Ri)<|af (t:=.elp 0 ((sz-1)-i)) Z Z Z (gK (j:=(sz-1)-i) Z df Z Z Z Z Z (by rw[a7];omega) (Oh _))<|Et (j:=(sz-1)-i) (rs':=[some ⟨5,1,bg (b.set (sz-1-i) (UInt8.ofNat (d/2^((i%4)*8)%256))),true⟩]) Z Z Z Z Z (by simp) (by rw[a7];omega) Z Z Z Z Z uL Z (by rw[<-QV (Ni _ (by decide))];rfl)<|ag<|ae<|af (t:=nI (i+1)) Z Z Z (ah (ai Z Z Z Zy) (bu (by omega)))<|aa 1 Z<|ag<|⟨_,_,?_,⟨i+1,(b.set (sz-1-i) (UInt8.ofNat (d/2^((i%4)*8)%256))),?_,Z,Z⟩,⟨Z,Z,Z,.cons Z Z (.cons Z Z (.cons Z Z (.cons Z Z (.cons Z Z .nil)))),Z⟩⟩
  ·omega
  exact⟨by omega,by rw[MU];exact h,by rw[show sz-(i+1)=k by omega,show sz-1-i=k by omega];exact a⟩
 have e:b=RL n:=by rw[<-a,show sz-i=0 by omega];rfl
 refine fD 0 (bs':=[]) (rs':=[none]) Z Z Z Z<|aZ<|ab<|ae<|aa 1 Z<|af Z Z Z (ar Z ((QZ b (by omega)).ct) Z Z)<|aa 1 Z<|ag<|aC<|⟨.inr Z,_,.cons Z .nil,LV (by unfold QY;rw[e]),Z⟩
theorem QO(n:Nat)(a:(ay n).length<=262144):(QY n).length<=1048587:=by
 have d:=Q1 n;have c:=Sr n;have b:=g9 (n:=(RL n).length) (by omega);unfold QY Pl;rw[Mc];omega
theorem SB(q:Rat)(a:Fit 262144 q):Ct 53 [dp q] (.sl (bg (Rk q))):=by
 refine Ct.of (n:=22) Tryz.func53 Z Z Z Z Z fun w0 G0=>?_
 refine ab<|ae<|aa 1 Z<|af (t:=.sl []) Z Z Z (cW (.inr Z) dI)<|ag<|ab ?_;have d:=QO _ a.num;have c:=QO _ a.den;refine ae<|aa 1 Z<|af Z Z Z (ar Z (su q a) Z Z)<|aa 2 Z<|ag<|ab<|ae<|Rj (v:=.int .u8 0) (k:=0) (rs':=[some ⟨5,1,bg [0],true⟩]) Z Z Z Z df eS jm Z Z Z Z Z<|aa 1 Z<|ag<|ab<|ab<|aj 2 Z<|aF Z (fun b=>?_) (fun b=>?_)
 ·refine ae<|aa 1 Z<|af (t:=.elp 0 0) Z Z Z (gK (j:=0) Z df Z Z Z Z Z (by decide) (Oh _))<|Et (j:=0) (rs':=[some ⟨5,1,bg [1],true⟩]) Z Z Z Z Z (by simp) (by decide) Z Z Z Z Z uL Z Z<|ag<|ab<|ae<|aa 3 Z<|af Z Z Z (ar Z (Q0 _ a.num) Z Z)<|cD (bs':=[(65,(aU q)),(65,(aU q))]) (rs':=[some ⟨5,1,bg ([1]++QY q.num.natAbs),false⟩]) Z Z Z Z eS Z Z Z Z (lU _) (AllC.map _ _ fun _=>rfl) (AllC.map _ _ fun _=>rfl) (by simp only[a7,Mb,Mo];omega) Z Z Z (by simp only[fq];rfl)<|aa 1 Z<|ag<|ab<|ae<|aa 3 Z<|af Z Z Z (ar Z (Q0 _ a.den) Z Z)<|cD (bs':=[(65,(aU q)),(65,(aU q))]) (rs':=[some ⟨5,1,bg (([1]++QY q.num.natAbs)++QY q.den),false⟩]) Z Z Z Z eS Z Z Z Z (lU _) (AllC.map _ _ fun _=>rfl) (AllC.map _ _ fun _=>rfl) (by simp only[a7,Mc,Mb,Mo];omega) Z Z Z (by simp only[fq];rfl)<|aa 1 Z<|ag<|fD 0 (bs':=[(65,(aU q)),(65,(aU q))]) (rs':=[none]) Z Z Z Z<|aC<|⟨.inr Z,_,.cons Z .nil,LV (by unfold Rk;rw[if_pos b];simp),Z⟩
 refine ax<|ab<|ae<|aa 3 Z<|af Z Z Z (ar Z (Q0 _ a.num) Z Z)<|cD (bs':=[(65,(aU q)),(65,(aU q))]) (rs':=[some ⟨5,1,bg ([0]++QY q.num.natAbs),false⟩]) Z Z Z Z eS Z Z Z Z (lU _) (AllC.map _ _ fun _=>rfl) (AllC.map _ _ fun _=>rfl) (by simp only[a7,Mb,Mo];omega) Z Z Z (by simp only[fq];rfl)<|aa 1 Z<|ag<|ab<|ae<|aa 3 Z<|af Z Z Z (ar Z (Q0 _ a.den) Z Z)<|cD (bs':=[(65,(aU q)),(65,(aU q))]) (rs':=[some ⟨5,1,bg (([0]++QY q.num.natAbs)++QY q.den),false⟩]) Z Z Z Z eS Z Z Z Z (lU _) (AllC.map _ _ fun _=>rfl) (AllC.map _ _ fun _=>rfl) (by simp only[a7,Mc,Mb,Mo];omega) Z Z Z (by simp only[fq];rfl)<|aa 1 Z<|ag<|fD 0 (bs':=[(65,(aU q)),(65,(aU q))]) (rs':=[none]) Z Z Z Z<|aC<|⟨.inr Z,_,.cons Z .nil,LV (by unfold Rk;rw[if_neg b];simp),Z⟩
end Go.Proofs.YtfoejfohbkmmeaaGreatDoor
