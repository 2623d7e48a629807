import Derived.Test.YtfoejfohbkmmeaaGreatDoorB34
import Derived.Lib.SlBytesConst
import Derived.Test.YtfoejfohbkmmeaaGreatDoorB00
import Derived.Test.YtfoejfohbkmmeaaGreatDoorB06
import Derived.Test.YtfoejfohbkmmeaaGreatDoorB21
import Derived.Test.YtfoejfohbkmmeaaGreatDoorB19
import Derived.Test.YtfoejfohbkmmeaaGreatDoorB32
import Derived.Test.YtfoejfohbkmmeaaGreatDoorB11
set_option maxRecDepth 100000
set_option maxHeartbeats 4000000
namespace Go.Proofs.YtfoejfohbkmmeaaGreatDoor
open Go.RowKit
open Lib renaming hid→J
theorem lC{W:World}{G:Nat->Prop}:∀l:List UInt8,PT W G (bL l) (flat (am l))
 |[]=>.nil
 |c::l=>.sc _ (lC l)
theorem rQ{w0:World}{G0:Bse}{ops:Array Oper}{c:List Oper}{Q:Exit->St->Prop}{n d p:Nat}{sl:List (Nat×Tree)}{bs:List (TypeId×List Tree)}{rs:List (Option Row)}{o f:Oper}(l:List UInt8)
  (H:o.guard=none) (m:o.dst=some d) (G:Nat.blt d n=true) (A:f.op=.convert 22 22 (.tmp d)) (r:f.guard=none) (e:f.dst=some p) (B:Nat.blt p n=true) (U:l.length<=1048576)
  (i:∀(w:World) (T:Nat->Value),(execOp (dm T) o).run Tryz.prog w=.ok (.value (.slice (some ⟨w.heap.size,0,none⟩) l.length l.length)) (w.alloc (.cells (bL l).toArray 5)))
  (k:AOps w0 G0 ops c Q ⟨n,(p,.sl (am l))::(d,.any)::sl,bs,rs⟩):AOps w0 G0 ops (o::f::c) Q ⟨n,sl,bs,rs⟩:=by
 rintro a w ⟨bx,rv,F,b,x,q⟩;refine eL (by simp[Region.wanted,H]) fun K M=>?_
 have N:OpRuns Tryz.prog o (fun s=>a.tmps.getD s undef) w (fun v w'=>v=.slice (some ⟨w.heap.size,0,none⟩) l.length l.length/\w'=w.alloc (.cells (bL l).toArray 5)):=aB (i w _) ⟨Z,Z⟩;refine Oper.wp_mono ?_ (N.wp (Q:=Bi w0 G0 Q));rintro I w' ⟨v,rfl,rfl,rfl⟩;refine M _ _<|eL (by simp[Region.wanted,r]) fun V y=>?_
 have g:d<n:=by simpa[Pn]using G
 have R:(a.put o.dst (.slice (some ⟨w.heap.size,0,none⟩) l.length l.length)).tmps.getD d undef=.slice (some ⟨w.heap.size,0,none⟩) l.length l.length:=by
  rw[m,gf a (some d) _ n b (by simpa[cC]using g),if_pos Z]
 have O:=Lib.run_convert_bytes_const (P:=Tryz.prog) w 22 5 (bL l).toArray l.length l.length Tryz.underlying22 Tryz.underlying5;have L:OpRuns Tryz.prog f (fun s=>(a.put o.dst (.slice (some ⟨w.heap.size,0,none⟩) l.length l.length)).tmps.getD s undef) (w.alloc (.cells (bL l).toArray 5)) (fun v w'=>v=.slice (some ⟨w.heap.size,0,none⟩) l.length l.length/\w'=w.alloc (.cells (bL l).toArray 5 ((bL l).toArray.size,(bL l).toArray.size+1))):=by
  refine aB (v:=.slice (some ⟨w.heap.size,0,none⟩) l.length l.length) ?_ ⟨Z,Z⟩;simp only[execOp,A,dm,R,Sem.run_bind,O,Result.andThen_ok,Sem.run_pure]
 refine Oper.wp_mono ?_ (L.wp (Q:=Bi w0 G0 Q));rintro I w' ⟨v,rfl,rfl,rfl⟩;have D:Below w.heap.size w (w.alloc (.cells (bL l).toArray 5 ((bL l).toArray.size,(bL l).toArray.size+1))):=(Below.refl _ _).alloc (Oh _) _;refine y _ _ (k _ _ ⟨bx,rv,F.later D,by rw[dW,dW,b],by rw[cU,cU,x],?_⟩);have C:=iK (S:=⟨n,sl,bs,rs⟩) (o:=o) (v:=.slice (some ⟨w.heap.size,0,none⟩) l.length l.length) (t:=.any) b (by rw[m];simpa[cC]using g) (fun _ _ h=>FT.later h D) q (.any _ .nil);rw[m]at C;have z:FT (en (w.alloc (.cells (bL l).toArray 5 ((bL l).toArray.size,(bL l).toArray.size+1))) G0 bx rv rs) [.slice (some ⟨w.heap.size,0,none⟩) l.length l.length] [.sl (am l)]:=by
  refine .pure (.sl w.heap.size 0 l.length l.length (bL l) (am l) (by simp[en]) (Bk F _ (Oh _)) (fun j u J=>?_) (by simp[am]) (by simp[am]) (by omega) (lC l) .nil) .nil;rw[Pk];simp only[en,World.cell?,World.alloc,Array.getElem?_push,if_true];simpa using J
 have E:=iK (S:=⟨n,(d,.any)::sl,bs,rs⟩) (o:=f) (v:=.slice (some ⟨w.heap.size,0,none⟩) l.length l.length) (t:=.sl (am l)) (a:=a.put (some d) (.slice (some ⟨w.heap.size,0,none⟩) l.length l.length)) (by rw[dW];exact b) (by rw[e];simpa[cC,Pn]using B) (fun _ _ h=>h) C z;rw[e]at E;rw[m,e];exact E
def kR:Rel:=⟨iG,[kA,kB]⟩
theorem D8:Good kR:=by
 have c:∀t∈kR.tups,t=kA\/t=kB:=fun t a=>by
  have a:t∈[kA,kB]:=a;simpa using a
 refine⟨by decide+kernel,fun t a=>?_,fun t a=>?_,fun t a=>?_,by decide,.inr Z⟩
 ·rcases c t a with rfl|rfl
  ·show eh false 1 3∈iJ;unfold iJ;simp
  show eh false 1 2∈iJ;unfold iJ;simp
 ·rcases c t a with rfl|rfl<;>(intro v b;simp only[kA,kB,OC,Qf,or_false]at b;rcases b with rfl|rfl<;>decide)
 rcases c t a with rfl|rfl<;>(intro v b;simp only[kA,kB,OC,Qf,or_false]at b;rcases b with rfl|rfl<;>(unfold V.rng;decide))
theorem Fp{r:Rel}(h:Good r):Ct 17 [r.tree] (r.tree):=by
 refine rJ r h.small.tups fun t a=>?_
 obtain⟨b,c⟩:=(h.small.tup t a).1.p;have:=wk (decide (t.prob.num<0)) t.prob.num.natAbs t.prob.den (Oq b (by decide)) (Oq c (by decide)) (Pc t.prob.den_nz);rw[fU]at this;exact this
theorem IS:Ct 15 [] (bT true):=by
 obtain⟨c,i⟩:∃z:Nat,z=0:=⟨_,rfl⟩;obtain⟨d,k⟩:∃z:Nat,z=0:=⟨_,rfl⟩;obtain⟨g,f⟩:∃z:Nat,z=1:=⟨_,rfl⟩;obtain⟨e,j⟩:∃z:Nat,z=19:=⟨_,rfl⟩;refine Ct.of (n:=43) Tryz.func15 Z Z Z Z Z fun w0 G0=>?_
 refine ab<|aj 1 Z<|ab<|ae<|ag Z Z Z (ak Z uu Z Z) ?_;refine rQ Nm Z Z Z Z Z Z Z (by decide) (fun w T=>by
  simp only[execOp,dm];go_simp;exact⟨Z,Z⟩) ?_
 refine ag (t:=.tup [.agg (a7 kR),nI c,nI d]) Z Z Z (ak Z (by have h:=wD iG Nm (by decide);rw[Nz]at h;rw[i,k];exact h) Z Z)<|aa 8 Z<|af<|ab<|ae<|ag Z Z Z (ak Z uu Z Z) ?_;refine rQ Nn Z Z Z Z Z Z Z (by decide) (fun w T=>by
  simp only[execOp,dm];go_simp;exact⟨Z,Z⟩) ?_
 refine ag (t:=.tup [.agg dB,nI g,nI e]) Z Z Z (ak Z (by have h:=wD iG Nn (by decide);rw[NA]at h;rw[f,j];exact h) Z Z)<|aa 8 Z<|af<|ab<|ae<|aa 1 Z<|ag (t:=bT (decide (d=0))) Z Z Z (ah (ai Z Z Z Zy) (au (iF d 0)))<|aa 1 Z<|aw (t:=nI c) Z Z Z Z (fun b=>av Z Z)<|aw (t:=bT (decide (c=0))) Z Z Z Z (fun b=>ah (ai Z (if_pos b) Z (fun _=>rfl)) (au (iF c 0)))<|ag (t:=bT ((decide (d=0))&&(decide (c=0)))) Z Z Z (aL Z Z (fun a=>(if_pos a).trans (au (by rw[a];rfl))) (fun a=>(au (by rw[a];rfl))))<|aa 1 Z<|aw (t:=.agg (a7 kR)) Z Z Z Z (fun b=>aR Z Z Z bm Z Z)<|aw (t:=.sl (am Jt)) Z Z Z Z (fun b=>ak Z (by have h:=CB kR D8.fit.1 D8.fit.2;rw[show qa kR=Jt from N6]at h;exact h) (eo (if_pos b) Z) Z)<|aw (t:=sT (⟨Jt.toArray⟩:ByteArray)) Z Z Z Z (fun b=>gM Z (if_pos b))<|aw (t:=bT ((⟨Jt.toArray⟩:ByteArray).toList==(⟨#[39,97,39,44,50,58,49,47,51,10,39,98,44,32,99,39,44,49,58,49,47,50,10]⟩:ByteArray).toList)) Z Z Z Z (fun b=>ai Z (if_pos b) Z (fun _=>rfl))<|ag (t:=bT (((decide (d=0))&&(decide (c=0)))&&((⟨Jt.toArray⟩:ByteArray).toList==(⟨#[39,97,39,44,50,58,49,47,51,10,39,98,44,32,99,39,44,49,58,49,47,50,10]⟩:ByteArray).toList))) Z Z Z (aL Z Z (fun a=>(if_pos a).trans (au (by rw[a];rfl))) (fun a=>(au (by rw[a];rfl))))<|aa 1 Z<|aw (t:=nI e) Z Z Z Z (fun b=>av Z Z)<|aw (t:=bT (decide (e=19))) Z Z Z Z (fun b=>ah (ai Z (if_pos b) Z (fun _=>rfl)) (au (iF e 19)))<|ag (t:=bT ((((decide (d=0))&&(decide (c=0)))&&((⟨Jt.toArray⟩:ByteArray).toList==(⟨#[39,97,39,44,50,58,49,47,51,10,39,98,44,32,99,39,44,49,58,49,47,50,10]⟩:ByteArray).toList))&&(decide (e=19)))) Z Z Z (aL Z Z (fun a=>(if_pos a).trans (au (by rw[a];rfl))) (fun a=>(au (by rw[a];rfl))))<|aa 1 Z<|aw (t:=nI g) Z Z Z Z (fun b=>av Z Z)<|aw (t:=bT (decide (g=1))) Z Z Z Z (fun b=>ah (ai Z (if_pos b) Z (fun _=>rfl)) (au (iF g 1)))<|ag (t:=bT (((((decide (d=0))&&(decide (c=0)))&&((⟨Jt.toArray⟩:ByteArray).toList==(⟨#[39,97,39,44,50,58,49,47,51,10,39,98,44,32,99,39,44,49,58,49,47,50,10]⟩:ByteArray).toList))&&(decide (e=19)))&&(decide (g=1)))) Z Z Z (aL Z Z (fun a=>(if_pos a).trans (au (by rw[a];rfl))) (fun a=>(au (by rw[a];rfl))))<|aa 1 Z<|af<|ax<|⟨.inr Z,_,.cons Z .nil,au (by rw[i,k,f,j,show((⟨Jt.toArray⟩:ByteArray).toList==(⟨#[39,97,39,44,50,58,49,47,51,10,39,98,44,32,99,39,44,49,58,49,47,50,10]⟩:ByteArray).toList)=true from beq_self_eq_true (⟨Jt.toArray⟩:ByteArray).toList];rfl),Z⟩
section
variable {w0:World} {G0:Bse} {o:Oper} {S:St}
theorem CtO.ct{f:FuncId}{args es:List Tree}{e sz:Nat}(h:CtO f args e sz es):Ct f args (.sl es):=⟨h.1,fun G w vs k a i=>(h.2 G w vs k a i).mono fun x w' ⟨v,xs,c,d,j,_,_,g⟩=>
 ⟨v,c,tR a d (j.mono (Oh _) fun b _ l=>⟨Z,fun h=>l (.inl h)⟩),g⟩⟩
def CtP(f:FuncId)(args:List Tree)(e sz:Nat)(es:List Tree)(r:Value):Prop:=(∃fn,Tryz.prog.funcs[f]? =some fn/\(fn.name== "runtime.NumGoroutine")=false/\fn.body.isNone=false)/\∀(G:Nat->Prop) (w:World) (vs:List Value),Env w->(∀g,G g->g<w.heap.size/\NoDigB w g)->PT w G vs args->
 Calls Tryz.prog f vs.toArray w fun x w'=>∃v xs,x=.returned (.tuple #[v,r])/\w'.ownsRow w.heap.size e sz v es.length xs/\PT w' (fun b=>G b\/v.ownBlock=some b) xs (flat es)/\Sized sz es/\(∀g,v.ownBlock=some g->NoDigB w' g)/\Below w.heap.size w w'
theorem CtP.ct{f:FuncId}{args es:List Tree}{e sz:Nat}{r:Value}(h:CtP f args e sz es r):Ct f args (.tup [.sl es,.sc r]):=⟨h.1,fun G w vs k a i=>(h.2 G w vs k a i).mono fun x w' ⟨v,xs,c,d,j,_,_,g⟩=>
 ⟨_,c,.tup [v,r] _ ((tR a d (j.mono (Oh _) fun b _ l=>⟨Z,fun h=>l (.inl h)⟩)).cons (.sc r .nil)) .nil,g⟩⟩
def NC(s s2:Nat)(e sz:Nat)(es:List Tree)(r:Value)(x:Exit)(S:St):Prop:=(x=.normal\/x=.ret)/\∃k tt,S.get s=.own k/\S.rs[k]? =some (some ⟨e,sz,es,tt⟩)/\S.get s2=.sc r
theorem CtP.of{f:FuncId}{d:Func}{c:Code}{args es:List Tree}{e sz n s C:Nat}{r:Value}(P:Tryz.prog.funcs[f]? =some d)(N:d.body=some c)(A:(d.name== "runtime.NumGoroutine")=false)(hn:d.ntmps=n)(M:Nat.ble args.length n=true)(X:d.results.toList=[.tmp s,.tmp C])
  (h:∀w0 G0,AWP w0 (pln G0) c (NC s C e sz es r) ⟨n,g8 0 args,[],[]⟩):CtP f args e sz es r:=by
 refine⟨⟨d,P,A,by rw[N];rfl⟩,fun G w vs W hG S=>?_⟩;have R:=S.length;have M:args.length<=n:=by simpa using M
 refine calls_of_wp P N (wp_mono (h w G _ w ⟨[],[],ny W hG,?_,Z,fun i=>?_⟩) ?_)
 ·simp;omega
 ·show FT _ _ [look (g8 0 args) i]
  rw[jD,if_pos (OA _),Q0];cases U:args[i]? with
  |none=>exact .any _ .nil
  |some t=>
   obtain⟨u,O,H⟩:=S.get i t U;have T:=(Ok.1 O).1;have B:(vs.toArray++Array.replicate (d.ntmps-vs.toArray.size) undef).getD i undef=u:=by
    rw[O7,Qh (by simpa using T),PY,O];rfl
   rw[B];refine .pure (H.mono (Oh _) fun b _ l=>⟨Z,fun h=>?_⟩) .nil;rcases h with h|h
   ·exact l h
   simp[cl]at h
 rintro x a w' ⟨S',⟨Y,k,tt,hs,E,K⟩,bx,rv,z,_,F,D⟩;obtain⟨us,q,j⟩:=gk z D (X▸(.cons hs (.cons K .nil):ResL S' [.tmp s,.tmp C] [.own k,.sc r]));obtain⟨u,m,rfl⟩:∃u m,us=[u,m]:=by
  match us,j with
  |[u,m],_=>exact⟨u,m,Z⟩
  |[],h=>cases h
  |[u],h=>have:=h.length;simp at this
  |u::u'::m::us,h=>have:=h.length;simp at this
 obtain⟨_,B,y⟩:=j.get 0 _ rfl;obtain⟨_,V,p⟩:=j.get 1 _ rfl;cases B;cases V;obtain rfl:=p.isSc;obtain⟨Q,xs,o,L,I,J⟩:=g7 z E y;have key:a.defers=[]/\∃v,(results d a.tmps).run Tryz.prog w'=.ok v w'/\(fun x w'=>∃v xs,x=Ending.returned (.tuple #[v,m])/\w'.ownsRow w.heap.size e sz v es.length xs/\PT w' (fun b=>G b\/v.ownBlock=some b) xs (flat es)/\Sized sz es/\(∀g,v.ownBlock=some g->NoDigB w' g)/\Below w.heap.size w w') (.returned v) w':=by
  refine⟨F,.tuple #[u,m],?_,u,xs,Z,z.ownP Q E o,?_,I.1,J,z.below.below⟩
  ·unfold results;rw[Sem.run_bind,P2,Sem.run_map];exact congrArg (fun x:Result (List Value)=>(x.andThen fun a w'=>Result.ok a.toArray w').andThen fun a w'=>Sem.run Tryz.prog (pure (if h:a.size=1 then a[0]else Value.tuple a)) w') q
  refine L.mono (Oh _) fun b _ l=>⟨Z,fun h=>l ?_⟩
  rcases h with h|h
  ·exact .inl h
  exact .inr (aY.2 (.inr ⟨k,_,_,Q,E,h⟩))
 rcases Y with rfl|rfl
 ·exact key
 exact key
end
theorem qg(k:IntKind)(j:Nat)(i:j<=k.bits)(h:∀n:Int,0<=n->n<2^j->k.wrap n=n)(a b:Nat)(e:a<2^j)(g:b<2^j):bits .xor k a b=((a^^^b:Nat):Int):=by
 have f:2^j<=2^k.bits:=OQ (by decide) i;have d:a%2^k.bits=a:=OY (Oz e f);have c:b%2^k.bits=b:=OY (Oz g f);simp only[bits,BitVec.ofInt_natCast,BitVec.toNat_xor,BitVec.toNat_ofNat,d,c];exact h _ (Int.natCast_nonneg _) (by exact_mod_cast Nat.xor_lt_two_pow e g)
theorem nT{x y:Operand}(a b:Nat)(c:a<4294967296)(d:b<4294967296)(w:World):(do eqGuard .xor 50 x y (.int .u32 (a:Nat)) (.int .u32 (b:Nat));binOp .xor 50 (.int .u32 (a:Nat)) (.int .u32 (b:Nat)):Sem Value).run Tryz.prog w=.ok (.int .u32 ((a^^^b:Nat):Int)) w:=by
 have key:=qg .u32 32 (by decide) (fun n f e=>by rw[Qq];omega) a b c d;go_simp
theorem nU(a:Nat)(b:a<4294967296)(w:World):(Op.unary .xor (.int .u32 (a:Nat))).run Tryz.prog w=.ok (.int .u32 ((a^^^4294967295:Nat):Int)) w:=by
 have key:=qg .u32 32 (by decide) (fun n d c=>by rw[Qq];omega) 4294967295 a (by decide) b;rw[Nat.xor_comm]at key;have key:bits .xor .u32 4294967295 (a:Int)=((a^^^4294967295:Nat):Int):=key;show(Sem.run Tryz.prog (Op.intBits .xor .u32 4294967295 a) w)=_
 go_simp
theorem wL{x y:Operand}(a:Nat)(b:a<4294967296)(w:World):(do eqGuard .and 50 x y (.int .u32 (a:Nat)) (.int .u32 1);binOp .and 50 (.int .u32 (a:Nat)) (.int .u32 1):Sem Value).run Tryz.prog w=.ok (.int .u32 ((a%2:Nat):Int)) w:=by
 have key:=(bits_nat .u32 32 (by decide) (fun n d c=>by rw[Qq];omega) a 1 b (by decide)).1;rw[SK]at key;have key:bits .and .u32 (a:Int) 1=((a%2:Nat):Int):=key;go_simp
theorem CG{x y:Operand}(a:Nat)(b:a<18446744073709551616)(w:World):(do eqGuard .and 89 x y (.int .u64 (a:Nat)) (.int .u64 127);binOp .and 89 (.int .u64 (a:Nat)) (.int .u64 127):Sem Value).run Tryz.prog w=.ok (.int .u64 ((a%128:Nat):Int)) w:=by
 have key:=bits_and_u64_nat a 127 b (by decide);rw[show a&&& 127=a%128 from Qm a 7]at key;have key:bits .and .u64 (a:Int) 127=((a%128:Nat):Int):=key;go_simp
theorem Fq{x y:Operand}(a:Nat)(b:a<128)(w:World):(do eqGuard .or 5 x y (.int .u8 (a:Nat)) (.int .u8 128);binOp .or 5 (.int .u8 (a:Nat)) (.int .u8 128):Sem Value).run Tryz.prog w=.ok (.int .u8 ((a+128:Nat):Int)) w:=by
 have key:bits .or .u8 (a:Int) 128=((a+128:Nat):Int):=by
  have:∀x:Fin 128,bits .or .u8 (x.val:Int) 128=((x.val+128:Nat):Int):=by decide+kernel
  exact this ⟨a,b⟩
 go_simp
theorem AB{x y:Operand}(a:Nat)(w:World):(do eqGuard .shr 89 x y (.int .u64 (a:Nat)) (.int .u64 7);binOp .shr 89 (.int .u64 (a:Nat)) (.int .u64 7):Sem Value).run Tryz.prog w=.ok (.int .u64 ((a/128:Nat):Int)) w:=by
 simp[eqGuard,binOp,Op.shift,IntKind.bits];exact Ro _ (by decide)
theorem fg{x y:Operand}(a k:Nat)(b:k<32)(w:World):(do eqGuard .shr 50 x y (.int .u32 (a:Nat)) (.int .u64 (k:Nat));binOp .shr 50 (.int .u32 (a:Nat)) (.int .u64 (k:Nat)):Sem Value).run Tryz.prog w=.ok (.int .u32 ((a/2^k:Nat):Int)) w:=by
 simp[eqGuard,binOp,Op.shift,IntKind.bits];try omega
theorem CH{x y:Operand}(a k:Nat)(b:k<32)(w:World):(do eqGuard .shr 50 x y (.int .u32 (a:Nat)) (.int .i64 (k:Nat));binOp .shr 50 (.int .u32 (a:Nat)) (.int .i64 (k:Nat)):Sem Value).run Tryz.prog w=.ok (.int .u32 ((a/2^k:Nat):Int)) w:=by
 simp[eqGuard,binOp,Op.shift,IntKind.bits];try omega
theorem mH{a:Nat}:(Tree.sc (.int .u8 (IntKind.u8.wrap (a:Int))))=.sc (.int .u8 ((a%256:Nat):Int)):=by
 rw[RO];rfl
theorem ND{a:Nat}(h:a<4294967296):(Tree.sc (.int .u32 (IntKind.u32.wrap (a:Int))))=.sc (.int .u32 ((a:Nat):Int)):=by
 rw[Qq];congr 2;omega
theorem AC{x:Nat}(h:x<256):am [UInt8.ofNat x]=[.sc (.int .u8 ((x:Nat):Int))]:=by
 have e:(UInt8.ofNat x).toNat=x:=by rw[Qo];exact OY h
 show [Tree.sc (.int .u8 ((UInt8.ofNat x).toNat:Nat))]=_
 rw[e]
theorem N7{a:Nat}(h:a<256):(Tree.sc (.int .u8 (IntKind.u8.wrap (a:Int))))=.sc (.int .u8 ((a:Nat):Int)):=by
 rw[RO];congr 2;omega
section
variable {w0:World} {G0:Bse} {o:Oper} {S:St}
theorem Fr{t e:TypeId}{x:Operand}{v z:Value}{q:Nat}(u:o.op=.buildSlice t 1 #[(0,x)])(C:cC S.n o.dst=true)(E:gS Tryz.prog t=some (e,1))(I:jP Tryz.prog t=some (e,1,q))(G:gJ Tryz.prog e=some [z])(k:S.ev x=.sc v)(H:v.oneCell'=true)(D:bG v=true):lL w0 G0 o S ({S with rs:=S.rs++[some (⟨e,1,[.sc v],true⟩:Row)]}.put o.dst (.own S.rs.length)):=by
 rintro a w ⟨bx,rv,b,l,p,f⟩;have d:=(bH (op:=o.op) (T:=fun s=>a.tmps.getD s undef) (S:=S) (fun s _=>f s) k (by rw[u];simp[Op.operands])).isSc;generalize (fun s=>a.tmps.getD s undef)=T at d⊢;have h:=World.ownsRow_lit (base:=w.heap.size) (e:=e) (size:=1) w #[v] 1 (Oh _) (by simp only[maxLen];omega) (by simp);have y:Below w.heap.size w (w.alloc (.cells #[v] e)):=(Below.refl _ _).alloc (Oh _) _;have r:∀g,(Value.slice (some ⟨w.heap.size,0,none⟩) 1 1).ownBlock=some g->NoDigB (w.alloc (.cells #[v] e)) g:=fun g m=>by
  injection m with m
  subst m;exact cD (heap_alloc_new w _) (by simp[D])
 obtain⟨B,F⟩:=b.addRow (R:=⟨e,1,[.sc v],true⟩) (v:=.slice (some ⟨w.heap.size,0,none⟩) 1 1) y (by simpa using h) (.sc v .nil) ⟨fun x k=>(by rw[OG.1 k];rfl),fun _ A n c e=>(by cases e;rfl)⟩ r;refine aB (v:=.slice (some ⟨w.heap.size,0,none⟩) 1 1) (W':=w.alloc (.cells #[v] e)) ?_ (lR l p C b.nr B ⟨_,_,_,Z⟩ (fun i=>F [_] [_] (f i)) Z);have j:=tg (w:=w) E G H;simp[execOp,u,d,j]
end
theorem qh{w0:World}{G0:Bse}{o:Oper}{ops:Array Oper}{a:List Oper}{Q:Exit->St->Prop}{n d k:Nat}{sl:List (Nat×Tree)}{bs:List (TypeId×List Tree)}{rs rs':List (Option Row)}{t e:TypeId}{x:Operand}{v z:Value}{b:Nat}(h:o.op=.buildSlice t 1 #[(0,x)])(i:o.guard=none)(f:o.dst=some d)(r:Nat.blt d n=true)(g:gS Tryz.prog t=some (e,1))(q:jP Tryz.prog t=some (e,1,b))(j:gJ Tryz.prog e=some [z])(m:St.ev ⟨n,sl,bs,rs⟩ x=.sc v)(p:v.oneCell'=true)(s:bG v=true)(l:rs.length=k)(c:rs++[some ⟨e,1,[.sc v],true⟩]=rs')(K:AOps w0 G0 ops a Q ⟨n,(d,.own k)::sl,bs,rs'⟩):AOps w0 G0 ops (o::a) Q ⟨n,sl,bs,rs⟩:=by
 subst l c;refine dF i (Fr (S:=⟨n,sl,bs,rs⟩) h (by rw[f];simpa[cC,Pn]using r) g q j m p s) ?_;rw[f];exact K
theorem CI(l:List UInt8)(j:Nat)(c:UInt8):(am l).set j (.sc (.int .u8 (c.toNat:Nat)))=am (l.set j c):=by unfold am;rw[SH]
def AD(r:Nat):Nat:=if r%2=1 then(r/2)^^^2197175160 else r/2
def uA:Nat->Nat->Nat
 |0,r=>r
 |n+1,r=>uA n (AD r)
def AE:Nat->List UInt8->Nat
 |r,[]=>r
 |r,c::l=>AE (uA 8 (r^^^c.toNat)) l
def g5(l:List UInt8):Nat:=AE 4294967295 l^^^4294967295
theorem wM(r:Nat)(c:UInt8)(l:List UInt8):AE r (c::l)=AE (uA 8 (r^^^c.toNat)) l:=rfl
theorem wN(n r:Nat):uA (n+1) r=uA n (AD r):=rfl
theorem sB{r:Nat}(h:r<4294967296):AD r<4294967296:=by
 unfold AD;split
 ·exact Nat.xor_lt_two_pow (n:=32) (by omega) (by decide)
 omega
theorem nV{S:St}{o:Oper}{x:Operand}{s:ByteArray}(b:o.op=.convert 9 22 x)(f:S.ev x=sT s)(n:s.size<=9223372036854775807):OpOK o S (.sl (am s.data.toList)):=by
 intro w0 G0 bx rv w T m k;have g:=(bH k f (by rw[b];simp[Op.operands])).isSc;have h:=Lib.run_convert_string_bytes (P:=Tryz.prog) w 9 22 5 s Tryz.underlying9 Tryz.underlying22 Tryz.underlying5;have e:=Joins.below_bytesWorld _ w 5 s (Oh _);have i:=grownCap_le_maxLen w s.size 0 5 (by unfold maxLen;omega);have a:s.data.toList.length=s.size:=by simp
 unfold maxLen at i;refine aB (v:=.slice (some ⟨w.heap.size,0,none⟩) s.size (grownCap w s.size 0 5)) (W':=Lib.bytesWorld w 5 s) (by simp[execOp,b,g,h]) ⟨?_,e⟩;refine .pure ?_ .nil;have c:=PT.sl (W:=Lib.bytesWorld w 5 s) (G:=GG G0 bx rv S.rs) w.heap.size 0 (grownCap w s.size 0 5) s.data.toList.length (bL s.data.toList) (am s.data.toList) (by rw[Lib.bytesWorld_size];omega) (Bk m _ (Oh _)) (fun j u d=>?_) (by rw[aC]) (by rw[aC,a];exact grownCap_ge _ _ _ _) (by omega) (lC _) .nil
 ·rw[a]at c;exact c
 have l:j<s.data.toList.length:=by
  have:=(Ok.1 d).1;rwa[fw]at this
 rw[Pk,Lib.bytesWorld_cell w 5 s j (by omega),<-d];simp[bL,Og l,List.getD]
def c6(n:Nat):List UInt8:=if 128<=n then UInt8.ofNat (n%128+128)::c6 (n/128)else [UInt8.ofNat n]
termination_by n
decreasing_by omega
theorem AF:∀(k:Nat) {n:Nat},1<=k->n<128^k->(c6 n).length<=k
 |0,n,h,_=>by omega
 |k+1,n,_,h=>by
  rw[c6];split
  ·next h1=>
   rw[OO]at h;have a:1<=k:=by
    cases k with
    |zero=>simp at h;omega
    |succ k=>omega
   have:=AF k (n:=n/128) a (by omega);simp only[Oi];omega
  simp
theorem dM{n:Nat}(h:n<18446744073709551616):(c6 n).length<=10:=AF 10 (by decide) (Oz h (by decide))
theorem uB(n:Nat):1<=(c6 n).length:=by
 rw[c6];split<;>simp
def df(l:List UInt8):List UInt8:=c6 l.length++l
def fM(b:Bool):List UInt8:=c6 (if b then 1 else 0)
def qi(n sz:Nat):Nat->List UInt8->List UInt8
 |0,l=>l
 |k+1,l=>qi n sz k (l.set k (UInt8.ofNat ((az n).getD ((sz-1-k)/4) 0/2^((sz-1-k)%4*8)%256)))
def mI(n:Nat):List UInt8:=qi n ((bP n+7)/8) ((bP n+7)/8) (List.replicate ((bP n+7)/8) 0)
theorem wO(n sz:Nat):∀(k:Nat) (l:List UInt8),(qi n sz k l).length=l.length
 |0,_=>rfl
 |k+1,l=>by rw[qi,wO n sz k,O4]
theorem uC(n:Nat):(mI n).length=(bP n+7)/8:=by unfold mI;rw[wO,QE]
def kT(n:Nat):List UInt8:=df (mI n)
def n3(q:Rat):List UInt8:=(if q.num<0 then 1 else 0)::(kT q.num.natAbs++kT q.den)
theorem AG{d:Nat}(h:d<4294967296):Lib.bitLen d<=32:=by
 by_cases b:d=0
 ·subst b;decide
 have:=(Lib.bitLenAux_bounds 64 d (by omega) b).2.1;unfold Lib.bitLen;rcases OS 32 (Lib.bitLenAux 64 d)with a|a
 ·have c:2^32<=2^(Lib.bitLenAux 64 d-1):=OQ (by decide) (by omega);omega
 exact a
theorem AH{l:List UInt8}{j x:Nat}(h:x<256):(am l).set j (.sc (.int .u8 ((x:Nat):Int)))=am (l.set j (UInt8.ofNat x)):=by
 have e:(UInt8.ofNat x).toNat=x:=by rw[Qo];exact OY h
 rw[<-CI,e]
theorem uD(n:Nat):bP n<=32*(az n).length:=by
 unfold bP;split
 ·omega
 next h=>
 have c:0<(az n).length:=pY.2 (by omega);have a:(az n).getD ((az n).length-1) 0<4294967296:=by
  rw[OE,Og (by omega),OW];exact cE n _ (Pm _)
 have b:Lib.bitLen ((az n).getD ((az n).length-1) 0)<=32:=AG a;omega
theorem KO(l:List V)(d:l.length<=65536)(a:l.all V.ok=true)(m:∀v∈l,v.rng):Ct 52 [.sl (l.map V.tree)] (.sl (am (d7 l))):=⟨⟨_,Tryz.func52,Z,Z⟩,fun G w vs _ f h=>by
 obtain⟨u,rfl,i⟩:=dZ h;obtain⟨A,c,rfl,b,_⟩:=pB i;refine(GM A c l w b d m).mono ?_;rintro e w' ⟨v,rfl,n,_,g⟩;have j:=n a;refine⟨v,Z,?_,g⟩;have k:w'.ownsRow w.heap.size 5 1 v (am (d7 l)).length (bL (d7 l)):=by rw[aC];exact j
 exact tR f k (lC _)⟩
theorem nW(n:Nat)(o:n<18446744073709551616):CtO 51 [.sc (.int .u64 ((n:Nat):Int))] 5 1 (am (c6 n)):=by
 refine CtO.of (n:=20) Tryz.func51 Z Z Z Z Z fun w0 G0=>?_
 refine ab<|ae<|ag (t:=.sl []) Z Z Z (bI (.inr Z) bQ)<|af<|ab<|ae<|fY (k:=0) (e:=5) (sz:=1) (rs':=[some ⟨5,1,am [],false⟩]) (.inr Z) Z Z Z Z Z<|af<|ab<|aA<|aO (fun j l=>∃(m:Nat) (a:List UInt8),(m<18446744073709551616/\a++c6 m=c6 n)/\j=m+1/\l=⟨20,[(0,.sc (.int .u64 ((m:Nat):Int))),(3,.own 0)],[],[some ⟨5,1,am a,false⟩]⟩) 0 1 ⟨n,[],⟨o,Z⟩,Z,Z⟩ .rf ?_;rintro j l ⟨m,a,⟨q,b⟩,rfl,rfl⟩;have f:=congrArg List.length b;have p:=dM o;rw[Oj]at f;refine ab<|ab<|ae<|aa 1 Z<|ag (t:=bT (decide (128<=m))) Z Z Z (ah (ai Z Z Z Zy) (au (Gg m 128)))<|af<|aD Z (fun d=>?_) (fun d=>?_)
 ·have i:=d;have h:c6 m=UInt8.ofNat (m%128+128)::c6 (m/128):=by rw[c6,if_pos i]
  refine ar<|aA<|ab<|ae<|aa 2 rfl<|ag (t:=.sc (.int .u64 ((m%128:Nat):Int))) rfl rfl rfl (ai rfl rfl rfl (fun w=>CG m q w))<|ag (t:=.sc (.int .u8 ((m%128:Nat):Int))) rfl rfl rfl (ah (bM rfl cj ch rfl) (N7 (by omega)))<|ag (t:=.sc (.int .u8 ((m%128+128:Nat):Int))) rfl rfl rfl (ai rfl rfl rfl (fun w=>Fq (m%128) (by omega) w))<|ag (t:=.sl [.sc (.int .u8 ((m%128+128:Nat):Int))]) rfl rfl rfl (aN rfl aP cR rfl (by decide) (by decide) rfl rfl rfl rfl rfl)<|a8 (bs':=[]) (rs':=[some ⟨5,1,am (a++[UInt8.ofNat (m%128+128)]),false⟩]) rfl rfl rfl rfl aT rfl rfl rfl rfl (by intro e c;simp only[OC,O8,or_false]at c;subst c;rfl) (AllC.lit rfl) (AllC.lit rfl) (by simp only[aC,Oj,Oi,Ou];omega) rfl rfl rfl (by rw[bd,AC (by omega)];rfl)<|aa 1 rfl<|af<|ae<|aa 1 rfl<|ag (t:=.sc (.int .u64 ((m/128:Nat):Int))) rfl rfl rfl (ai rfl rfl rfl (fun w=>AB m w))<|aa 1 rfl<|af<|⟨_,_,?_,⟨m/128,(a++[UInt8.ofNat (m%128+128)]),?_,rfl,rfl⟩,.rf⟩
  ·omega
  exact⟨by omega,by rw[<-b,h];simp⟩
 refine aQ<|ab ?_;have g:a++[UInt8.ofNat m]=c6 n:=by rw[<-b,c6,if_neg (by omega)]
 refine ae<|aa 2 rfl<|ag (t:=.sc (.int .u8 ((m:Nat):Int))) rfl rfl rfl (ah (bM rfl cj ch rfl) (N7 (by omega)))<|ag (t:=.sl [.sc (.int .u8 ((m:Nat):Int))]) rfl rfl rfl (aN rfl aP cR rfl (by decide) (by decide) rfl rfl rfl rfl rfl)<|a8 (bs':=[]) (rs':=[some ⟨5,1,am (a++[UInt8.ofNat m]),false⟩]) rfl rfl rfl rfl aT rfl rfl rfl rfl (by intro e c;simp only[OC,O8,or_false]at c;subst c;rfl) (AllC.lit rfl) (AllC.lit rfl) (by simp only[aC,Oj,Oi,Ou];omega) rfl rfl rfl (by rw[bd,AC (by omega)];rfl)<|aa 1 rfl<|af<|ax<|⟨.inr rfl,0,false,rfl,by rw[g];rfl⟩
theorem sC(l:List UInt8)(b:l.length<=1000000000):CtO 49 [.sl (am l)] 5 1 (am (df l)):=by
 refine CtO.of (n:=9) Tryz.func49 Z Z Z Z Z fun w0 G0=>?_
 refine ab<|ae<|ag (t:=.sl []) Z Z Z (bI (.inr Z) bQ)<|af<|ab ?_;have a:=dM (n:=l.length) (by omega);refine ae<|aa 1 Z<|ag (t:=nI l.length) Z Z Z (ah (aW Z aP Z) (by simp only[Ol,aC]))<|ag (t:=.sc (.int .u64 ((l.length:Nat):Int))) Z Z Z (ah (bM Z dQ cj Z) (pX (by omega)))<|oz (k:=0) (rs':=[some ⟨5,1,am (c6 l.length),false⟩]) Z Z Z Z (nW l.length (by omega)) Z Z Z Z<|aa 1 Z<|a8 (bs':=[]) (rs':=[some ⟨5,1,am ((c6 l.length)++l),false⟩]) Z Z Z Z aT Z Z Z Z (aV _) (AllC.map _ _ fun _=>rfl) (AllC.map _ _ fun _=>rfl) (by simp only[aC,Oj,Oi,Ou];omega) Z Z Z (by simp only[bd];rfl)<|aa 1 Z<|af<|ax<|⟨.inr Z,0,false,Z,Z⟩
theorem D9(b:Bool):Ct 50 [bT b] (.sl (am (fM b))):=by
 refine Ct.of (n:=6) Tryz.func50 Z Z Z Z Z fun w0 G0=>?_
 refine ab<|ae<|ag (t:=.sl []) Z Z Z (bI (.inr Z) bQ)<|af<|ab<|ab<|aj 1 Z<|aH Z (fun a=>?_) (fun a=>?_)
 ·refine ab<|ae<|ag Z Z Z (ak Z ((nW 1 (by decide)).ct) Z Z)<|aa 1 Z<|af<|ax<|⟨.inr Z,_,.cons Z .nil,IL (by unfold fM;rw[a];rfl),Z⟩
 refine ar<|ab<|ae<|ag Z Z Z (ak Z ((nW 0 (by decide)).ct) Z Z)<|aa 1 Z<|af<|ax<|⟨.inr Z,_,.cons Z .nil,IL (by unfold fM;rw[a];rfl),Z⟩
theorem sD(n:Nat)(x:(az n).length<=262144):Ct 111 [aG n] (.sl (am (kT n))):=by
 refine Ct.of (n:=36) Tryz.func111 Z Z Z Z Z fun w0 G0=>?_
 refine ab<|ae<|ag (t:=.sl []) Z Z Z (bI (.inr Z) bQ)<|af<|ab ?_;obtain⟨sz,g⟩:∃z,(bP n+7)/8=z:=⟨_,rfl⟩;have p:=uD n;have r:sz<=1048577:=by omega
 refine ae<|aa 1 Z<|ag Z Z Z (ak Z (jG n x) Z Z)<|ag (t:=nI ((bP n)+7)) Z Z Z (ah (ai Z Z Z Zy) (bp (by omega)))<|ag (t:=nI sz) Z Z Z (ah (ai Z Z Z (fun w=>se ((bP n)+7) 8 (by omega) (by omega) w)) (oi g))<|aa 1 Z<|af<|ab<|ae<|aa 1 Z<|Bo (m:=sz) (zt:=.sc (.int .u8 0)) (k:=0) (rs':=[some ⟨5,1,am (List.replicate sz 0),true⟩]) Z Z Z Z aT cR Z Z (rfl) (rfl) Z (by omega) Z Z (by simp[am])<|aa 1 Z<|af<|ab<|ab<|ae<|aa 1 Z<|ag (t:=nI sz) Z Z Z (ah (sL Z aP Z Z) (by simp only[Ol,aC,QE]))<|aa 1 Z<|af<|aA<|aO (fun o q=>∃(i:Nat) (b:List UInt8),(i<=sz/\b.length=sz/\qi n sz (sz-i) b=mI n)/\o=sz-i/\q=⟨36,[(0,.sl ((az n).map eP)),(3,nI sz),(4,.own 0),(13,nI sz),(14,nI i)],[],[some ⟨5,1,am b,true⟩]⟩) 0 1 ⟨0,List.replicate sz 0,⟨OA _,QE,by unfold mI;rw[g];rfl⟩,Z,Z⟩ .rf ?_;rintro o q ⟨i,b,⟨y,l,a⟩,rfl,rfl⟩;refine ab<|ae<|ag (t:=bT (decide (i<sz))) Z Z Z (ah (ai Z Z Z Zy) (au (gK i sz)))<|af<|ab<|aD Z (fun h=>?_) (fun h=>?_)
 ·have v:=uD n;obtain⟨d,c⟩:∃d,(az n)[i/4]? =some d:=⟨_,Og (by omega)⟩;have s:d<4294967296:=cE n d (Om c);obtain⟨k,u⟩:∃k,sz-i=k+1:=⟨sz-i-1,by omega⟩;rw[u,qi,show sz-1-k=i by omega,OE,c,OW]at a;refine ar<|ab<|aA<|ab<|aj 2 Z<|ae<|aa 2 Z<|ag (t:=nI (sz-1)) Z Z Z (ah (ai Z Z Z Zy) (bp (by omega)))<|aa 1 Z<|ag (t:=nI ((sz-1)-i)) Z Z Z (ah (ai Z Z Z Zy) (bp (by omega)))<|aa 2 Z<|ag (t:=nI (i/4)) Z Z Z (ai Z Z Z (fun w=>se i 4 (by omega) (by omega) w))<|ag (t:=.ref [.sc (.int .u32 ((d:Nat):Int))]) Z Z Z (aK (eP d) Z bN Z Z Z (aX (f:=eP) c) (eS _) Z)<|aa 2 Z<|ag (t:=nI (i%4)) Z Z Z (ai Z Z Z (fun w=>lS i 4 (by omega) w))<|ag (t:=nI ((i%4)*8)) Z Z Z (ah (ai Z Z Z Zy) (bp (by omega)))<|ag (t:=.sc (.int .u32 ((d/2^((i%4)*8):Nat):Int))) Z Z Z (ai Z Z Z (fun w=>CH d _ (by omega) w))<|ag (t:=.sc (.int .u8 ((d/2^((i%4)*8)%256:Nat):Int))) Z Z Z (ah (bM Z cI ch Z) mH)<|ag (t:=.elp 0 ((sz-1)-i)) Z Z Z (fk (j:=(sz-1)-i) Z aP Z Z Z Z Z (by rw[aC];omega) (Qc _))<|jS (j:=(sz-1)-i) (rs':=[some ⟨5,1,am (b.set (sz-1-i) (UInt8.ofNat (d/2^((i%4)*8)%256))),true⟩]) Z Z Z Z Z (by simp) (by rw[aC];omega) Z Z Z Z Z lw Z (by rw[<-AH (Pe _ (by decide))];rfl)<|af<|ae<|ag (t:=nI (i+1)) Z Z Z (ah (ai Z Z Z Zy) (bp (by omega)))<|aa 1 Z<|af<|⟨_,_,?_,⟨i+1,(b.set (sz-1-i) (UInt8.ofNat (d/2^((i%4)*8)%256))),?_,Z,Z⟩,.rf⟩
  ·omega
  exact⟨by omega,by rw[O4];exact l,by rw[show sz-(i+1)=k by omega,show sz-1-i=k by omega];exact a⟩
 have e:b=mI n:=by rw[<-a,show sz-i=0 by omega];rfl
 refine dI 0 (bs':=[]) (rs':=[none]) Z Z Z Z<|aQ<|ab<|ae<|aa 1 Z<|ag Z Z Z (ak Z ((sC b (by omega)).ct) Z Z)<|aa 1 Z<|af<|ax<|⟨.inr Z,_,.cons Z .nil,IL (by unfold kT;rw[e]),Z⟩
theorem qj(n:Nat)(d:(az n).length<=262144):(kT n).length<=1048587:=by
 have b:=uD n;have a:=uC n;have c:=dM (n:=(mI n).length) (by omega);unfold kT df;rw[Oj];omega
theorem KP(q:Rat)(a:Fit 262144 q):Ct 53 [dA q] (.sl (am (n3 q))):=by
 refine Ct.of (n:=22) Tryz.func53 Z Z Z Z Z fun w0 G0=>?_
 refine ab<|ae<|aa 1 Z<|ag (t:=.sl []) Z Z Z (bI (.inr Z) bQ)<|af<|ab ?_;have c:=qj _ a.num;have d:=qj _ a.den;refine ae<|aa 1 Z<|ag Z Z Z (ak Z (pH q a) Z Z)<|aa 2 Z<|af<|ab<|ae<|qh (v:=.int .u8 0) (k:=0) (rs':=[some ⟨5,1,am [0],true⟩]) Z Z Z Z aP aT cR Z Z Z Z Z<|aa 1 Z<|af<|ab<|ab<|aj 2 Z<|aD Z (fun b=>?_) (fun b=>?_)
 ·refine ae<|aa 1 Z<|ag (t:=.elp 0 0) Z Z Z (fk (j:=0) Z aP Z Z Z Z Z (by decide) (Qc _))<|jS (j:=0) (rs':=[some ⟨5,1,am [1],true⟩]) Z Z Z Z Z (by simp) (by decide) Z Z Z Z Z lw Z Z<|af<|ab<|ae<|aa 3 Z<|ag Z Z Z (ak Z (sD _ a.num) Z Z)<|a8 (bs':=[(65,(aZ q)),(65,(aZ q))]) (rs':=[some ⟨5,1,am ([1]++kT q.num.natAbs),false⟩]) Z Z Z Z aT Z Z Z Z (aV _) (AllC.map _ _ fun _=>rfl) (AllC.map _ _ fun _=>rfl) (by simp only[aC,Oj,Oi,Ou];omega) Z Z Z (by simp only[bd];rfl)<|aa 1 Z<|af<|ab<|ae<|aa 3 Z<|ag Z Z Z (ak Z (sD _ a.den) Z Z)<|a8 (bs':=[(65,(aZ q)),(65,(aZ q))]) (rs':=[some ⟨5,1,am (([1]++kT q.num.natAbs)++kT q.den),false⟩]) Z Z Z Z aT Z Z Z Z (aV _) (AllC.map _ _ fun _=>rfl) (AllC.map _ _ fun _=>rfl) (by simp only[aC,Oj,Oi,Ou];omega) Z Z Z (by simp only[bd];rfl)<|aa 1 Z<|af<|dI 0 (bs':=[(65,(aZ q)),(65,(aZ q))]) (rs':=[none]) Z Z Z Z<|ax<|⟨.inr Z,_,.cons Z .nil,IL (by unfold n3;rw[if_pos b];simp),Z⟩
 refine ar<|ab<|ae<|aa 3 Z<|ag Z Z Z (ak Z (sD _ a.num) Z Z)<|a8 (bs':=[(65,(aZ q)),(65,(aZ q))]) (rs':=[some ⟨5,1,am ([0]++kT q.num.natAbs),false⟩]) Z Z Z Z aT Z Z Z Z (aV _) (AllC.map _ _ fun _=>rfl) (AllC.map _ _ fun _=>rfl) (by simp only[aC,Oj,Oi,Ou];omega) Z Z Z (by simp only[bd];rfl)<|aa 1 Z<|af<|ab<|ae<|aa 3 Z<|ag Z Z Z (ak Z (sD _ a.den) Z Z)<|a8 (bs':=[(65,(aZ q)),(65,(aZ q))]) (rs':=[some ⟨5,1,am (([0]++kT q.num.natAbs)++kT q.den),false⟩]) Z Z Z Z aT Z Z Z Z (aV _) (AllC.map _ _ fun _=>rfl) (AllC.map _ _ fun _=>rfl) (by simp only[aC,Oj,Oi,Ou];omega) Z Z Z (by simp only[bd];rfl)<|aa 1 Z<|af<|dI 0 (bs':=[(65,(aZ q)),(65,(aZ q))]) (rs':=[none]) Z Z Z Z<|ax<|⟨.inr Z,_,.cons Z .nil,IL (by unfold n3;rw[if_neg b];simp),Z⟩
theorem fS{l:List UInt8}{j:Nat}{c:UInt8}(h:l[j]? =some c):(am l)[j]? =some (.sc (.int .u8 ((c.toNat:Nat):Int))):=by
 unfold am;rw[O2,h];rfl
def om(c:Nat):List UInt8:=[UInt8.ofNat (c/2^24%256),UInt8.ofNat (c/2^16%256),UInt8.ofNat (c/2^8%256),UInt8.ofNat (c%256)]
theorem qk{x:Nat}(h:x<256):(UInt8.ofNat x).toNat=x:=by rw[Qo];exact OY h
theorem ql(c:Nat):am (om c)=[.sc (.int .u8 ((c/2^24%256:Nat):Int)),.sc (.int .u8 ((c/2^16%256:Nat):Int)),.sc (.int .u8 ((c/2^8%256:Nat):Int)),.sc (.int .u8 ((c%256:Nat):Int))]:=by
 show [Tree.sc (.int .u8 ((UInt8.ofNat (c/2^24%256)).toNat:Nat)),.sc (.int .u8 ((UInt8.ofNat (c/2^16%256)).toNat:Nat)),.sc (.int .u8 ((UInt8.ofNat (c/2^8%256)).toNat:Nat)),.sc (.int .u8 ((UInt8.ofNat (c%256)).toNat:Nat))]=_
 rw[qk (Pe _ (by decide)),qk (Pe _ (by decide)),qk (Pe _ (by decide)),qk (Pe _ (by decide))]
theorem N8(a b:List UInt8):((bs a).toList==(bs b).toList)=decide (a=b):=by
 rw[Lib.toList_data,Lib.toList_data,fG,fG,QQ,beq_iff_eq,decide_eq_true_eq]
theorem Fs(l:List UInt8)(A:l.length<=4611686018427387904):Ct 176 [.sc (.int .u32 ((0:Nat):Int)),.sl (am l)] (.sc (.int .u32 ((g5 l:Nat):Int))):=by
 refine Ct.of (n:=35) Tryz.func176 Z Z Z Z Z fun w0 G0=>?_
 refine ab<|aj 1 Z<|ab<|ae<|aa 1 Z<|ag (t:=.sc (.int .u32 ((4294967295:Nat):Int))) Z Z Z (ah (dw Z Z (fun w=>nU 0 (by decide) w)) (oi (by decide)))<|aa 1 Z<|af<|ab<|ab<|ae<|aa 1 Z<|ag (t:=nI l.length) Z Z Z (ah (aW Z aP Z) (by simp only[Ol,aC]))<|aa 1 Z<|af<|aA<|aO (fun h i=>∃(j:Nat) (x:Nat),(j<=l.length/\x<4294967296/\AE x (l.drop j)=AE 4294967295 l)/\h=l.length-j/\i=⟨35,[(5,.sc (.int .u32 ((x:Nat):Int))),(11,.sl (am l)),(12,nI l.length),(13,nI j)],[],[]⟩) 0 0 ⟨0,4294967295,⟨OA _,by decide,Z⟩,Z,Z⟩ .rf ?_;rintro h i ⟨j,x,⟨C,q,b⟩,rfl,rfl⟩;refine ab<|ae<|ag (t:=bT (decide (j<l.length))) Z Z Z (ah (ai Z Z Z Zy) (au (gK j l.length)))<|af<|ab<|aD Z (fun f=>?_) (fun f=>?_)
 ·obtain⟨c,p⟩:∃c,l[j]? =some c:=⟨_,Og f⟩;have s:l.drop j=c::l.drop (j+1):=by
   obtain⟨o,v⟩:=Ok.1 p;rw[Ow o,v]
  rw[s,wM]at b;have u:c.toNat<256:=c.toNat_lt;refine ar<|ab<|aA<|ab<|ae<|ag (t:=.ref [.sc (.int .u8 ((c.toNat:Nat):Int))]) Z Z Z (aK (.sc (.int .u8 ((c.toNat:Nat):Int))) Z aP Z Z Z (fS p) (aV _) Z)<|aa 2 Z<|af<|ab<|ae<|aa 2 Z<|ag (t:=.sc (.int .u32 ((c.toNat:Nat):Int))) Z Z Z (ah (bM Z ch cI Z) (ND (by omega)))<|ag (t:=.sc (.int .u32 ((x^^^c.toNat:Nat):Int))) Z Z Z (ai Z Z Z (fun w=>nT x c.toNat q (by omega) w))<|aa 1 Z<|af<|ab<|aj 1 Z<|aA<|aO (fun h i=>∃(k:Nat) (y:Nat),(k<=8/\y<4294967296/\uA (8-k) y=uA 8 (x^^^c.toNat))/\h=8-k/\i=⟨35,[(5,.sc (.int .u32 ((y:Nat):Int))),(11,.sl (am l)),(12,nI l.length),(13,nI j),(21,nI k)],[],[]⟩) 0 0 ⟨0,x^^^c.toNat,⟨OA _,Nat.xor_lt_two_pow (n:=32) q (by omega),Z⟩,Z,Z⟩ .rf ?_;rintro h i ⟨k,y,⟨B,g,a⟩,rfl,rfl⟩;refine ab<|ae<|ag (t:=bT (decide (k<8))) Z Z Z (ah (ai Z Z Z Zy) (au (gK k 8)))<|af<|ab<|aD Z (fun r=>?_) (fun r=>?_)
  ·obtain⟨m,z⟩:∃m,8-k=m+1:=⟨7-k,by omega⟩;rw[z,wN]at a;refine ar<|ab<|aA<|ab<|ae<|aa 1 Z<|ag (t:=.sc (.int .u32 ((y%2:Nat):Int))) Z Z Z (ai Z Z Z (fun w=>wL y g w))<|aa 1 Z<|af<|ab<|ae<|aa 1 Z<|ag (t:=.sc (.int .u32 ((y/2:Nat):Int))) Z Z Z (ai Z Z Z (fun w=>ud y g w))<|aa 1 Z<|af<|ab<|ae<|aa 1 Z<|ag (t:=bT (decide (y%2=1))) Z Z Z (ah (ai Z Z Z Zy) (au (iF (y%2) 1)))<|af<|aD Z (fun e=>?_) (fun e=>?_)
   ·have o:AD y=y/2^^^2197175160:=if_pos e;have d:=sB g;rw[o]at a d;refine ae<|aa 1 Z<|ag (t:=.sc (.int .u32 (((y/2)^^^2197175160:Nat):Int))) Z Z Z (ai Z Z Z (fun w=>nT (y/2) 2197175160 (by omega) (by decide) w))<|aa 1 Z<|af<|ae<|ag (t:=nI (k+1)) Z Z Z (ah (ai Z Z Z Zy) (bp (by omega)))<|aa 1 Z<|af<|⟨_,_,?_,⟨k+1,(y/2)^^^2197175160,?_,Z,Z⟩,.rf⟩
    ·omega
    exact⟨by omega,d,by rw[show 8-(k+1)=m by omega];exact a⟩
   have o:AD y=y/2:=if_neg e;have d:=sB g;rw[o]at a d;refine ar<|ae<|ag (t:=nI (k+1)) Z Z Z (ah (ai Z Z Z Zy) (bp (by omega)))<|aa 1 Z<|af<|⟨_,_,?_,⟨k+1,y/2,?_,Z,Z⟩,.rf⟩
   ·omega
   exact⟨by omega,d,by rw[show 8-(k+1)=m by omega];exact a⟩
  rw[show 8-k=0 by omega]at a;have a:y=uA 8 (x^^^c.toNat):=a;rw[<-a]at b;refine aQ<|ae<|ag (t:=nI (j+1)) Z Z Z (ah (ai Z Z Z Zy) (bp (by omega)))<|aa 1 Z<|af<|⟨_,_,?_,⟨j+1,y,?_,Z,Z⟩,.rf⟩
  ·omega
  exact⟨by omega,g,b⟩
 refine aQ<|ab<|ae<|aa 1 Z<|ag (t:=.sc (.int .u32 ((x^^^4294967295:Nat):Int))) Z Z Z (dw Z Z (fun w=>nU x q w))<|aa 1 Z<|af<|ax<|⟨.inr Z,_,.cons Z .nil,oi (by unfold g5;rw[<-b,Ov (by omega)];rfl),Z⟩
theorem IT(l:List UInt8)(a:l.length<=4611686018427387904):Ct 112 [.sl (am l)] (.sc (.int .u32 ((g5 l:Nat):Int))):=by
 refine Ct.of (n:=5) Tryz.func112 Z Z Z Z Z fun w0 G0=>?_
 refine ab<|aj 1 Z<|ab<|ae<|aa 1 Z<|ag Z Z Z (ak Z (Fs l a) Z Z)<|aa 1 Z<|af<|ax<|⟨.inr Z,_,.cons Z .nil,Z,Z⟩
theorem Mp(l:List UInt8)(a:l.length<=4611686018427387904):Ct 54 [.sl (am l)] (.sl (am (om (g5 l)))):=by
 refine Ct.of (n:=18) Tryz.func54 Z Z Z Z Z fun w0 G0=>?_
 refine ab<|ae<|ag (t:=.sl []) Z Z Z (bI (.inr Z) bQ)<|af<|ab<|ae<|aa 1 Z<|ag Z Z Z (ak Z (IT l a) Z Z)<|aa 1 Z<|af<|ab<|ae<|aa 1 Z<|ag (t:=.sc (.int .u32 ((g5 l/2^24:Nat):Int))) Z Z Z (ai Z Z Z (fun w=>fg (g5 l) 24 (by decide) w))<|ag (t:=.sc (.int .u8 ((g5 l/2^24%256:Nat):Int))) Z Z Z (ah (bM Z cI ch Z) mH)<|aa 1 Z<|ag (t:=.sc (.int .u32 ((g5 l/2^16:Nat):Int))) Z Z Z (ai Z Z Z (fun w=>fg (g5 l) 16 (by decide) w))<|ag (t:=.sc (.int .u8 ((g5 l/2^16%256:Nat):Int))) Z Z Z (ah (bM Z cI ch Z) mH)<|aa 1 Z<|ag (t:=.sc (.int .u32 ((g5 l/2^8:Nat):Int))) Z Z Z (ai Z Z Z (fun w=>fg (g5 l) 8 (by decide) w))<|ag (t:=.sc (.int .u8 ((g5 l/2^8%256:Nat):Int))) Z Z Z (ah (bM Z cI ch Z) mH)<|aa 1 Z<|ag (t:=.sc (.int .u8 ((g5 l%256:Nat):Int))) Z Z Z (ah (bM Z cI ch Z) mH)<|ag (t:=.sl [.sc (.int .u8 ((g5 l/2^24%256:Nat):Int)),.sc (.int .u8 ((g5 l/2^16%256:Nat):Int)),.sc (.int .u8 ((g5 l/2^8%256:Nat):Int)),.sc (.int .u8 ((g5 l%256:Nat):Int))]) Z Z Z (aN Z aP cR Z (by decide) (by decide) Z Z Z Z Z)<|aa 1 Z<|af<|ax<|⟨.inr Z,_,.cons Z .nil,congrArg Tree.sl (ql _).symm,Z⟩
theorem rk(a b:List UInt8):Ct 61 [.sl (am a),.sl (am b)] (bT (decide (a=b))):=by
 refine Ct.of (n:=10) Tryz.func61 Z Z Z Z Z fun w0 G0=>?_
 refine ab<|aj 1 Z<|ab<|ae<|aa 1 Z<|ag (t:=sT (bs a)) Z Z Z (gM Z Z)<|aa 1 Z<|ag (t:=sT (bs b)) Z Z Z (gM Z Z)<|ag (t:=bT (decide (a=b))) Z Z Z (ah (ai Z Z Z Zy) (au (N8 a b)))<|aa 1 Z<|af<|ax<|⟨.inr Z,_,.cons Z .nil,Z,Z⟩
end Go.Proofs.YtfoejfohbkmmeaaGreatDoor
