import Derived.Test.YtfoejfohbkmmeaaGreatDoorQ06
import Derived.Test.YtfoejfohbkmmeaaGreatDoorQ00
namespace Go.Proofs.YtfoejfohbkmmeaaGreatDoor
open Go.RowKit
open Lib renaming hid→J
section
variable {w0:World} {G0:Nat->Prop} {ops:Array Oper} {rest:List Oper} {Q:Exit->St->Prop} {o:Oper} {n:Nat} {sl:List (Nat×Tree)} {bs:List (TypeId×List Tree)} {rs:List (Option Row)} {S:St}
theorem ah{t a:Tree}(h:OpOK o S t)(e:t=a):OpOK o S a:=e▸h
theorem af{d:Nat}{t:Tree}(b:o.guard=none)(a:o.dst=some d)(c:Nat.blt d n=true)(h:OpOK o ⟨n,sl,bs,rs⟩ t)(k:AOps w0 G0 ops rest Q ⟨n,(d,t)::sl,bs,rs⟩):AOps w0 G0 ops (o::rest) Q ⟨n,sl,bs,rs⟩:=by
 refine Bg b ?_ h ?_
 ·rw[a];simpa[cT,Nn]using c
 rw[a];exact k
theorem aA{d j s:Nat}{t:Tree}{b:Bool}(C:Prop)[Decidable C](G:o.guard=some (j,b))(F:(ops[j]?).bind (·.dst)=some s)(J:Nat.blt s n=true)(N:∃c,look sl s=.sc c/\(C↔c=.bool b))(H:o.dst=some d)(O:Nat.blt d n=true)(h:C->OpOK o ⟨n,sl,bs,rs⟩ t)
  (k:AOps w0 G0 ops rest Q ⟨n,(d,if C then t else .sc undef)::sl,bs,rs⟩):AOps w0 G0 ops (o::rest) Q ⟨n,sl,bs,rs⟩:=by
 obtain⟨c,K,A⟩:=N;rintro a w ⟨bx,rv,I,f,y,l⟩;have q:cT n o.dst=true:=by rw[H];simpa[cT,Nn]using O
 have u:a.tmps.getD s undef=c:=by
  have:=l s;have e:St.get ⟨n,sl,bs,rs⟩ s=.sc c:=K;rw[e]at this;exact this.isSc
 have z:s<a.tmps.size:=by rw[f];simpa[Nn]using J
 have M:a.tmps[s]? =some c:=by
  rw[MH z];rw[MV,MH z]at u;exact congrArg some u
 by_cases m:C
 ·have L:Region.wanted o (yielded ops a.tmps)=true:=by
   simp only[Region.wanted,G,yielded,F,Nc,M,A.1 m];cases b<;>rfl
  rw[if_pos m]at k;refine tS (S:=⟨n,sl,bs,rs⟩) (t:=t) (fun B w' D=>?_) q (h m) (by rw[H];exact k) a w ⟨bx,rv,I,f,y,l⟩;obtain⟨P,R,_,r,_,p⟩:=D;have i:B.tmps.getD s undef=c:=by
   have:=p s;have e:St.get ⟨n,sl,bs,rs⟩ s=.sc c:=K;rw[e]at this;exact this.isSc
  have g:s<B.tmps.size:=by rw[r];simpa[Nn]using J
  have E:B.tmps[s]? =some c:=by
   rw[MH g];rw[MV,MH g]at i;exact congrArg some i
  simp only[Region.wanted,G,yielded,F,Nc,E,A.1 m];cases b<;>rfl
 have L:Region.wanted o (yielded ops a.tmps)=false:=by
  simp only[Region.wanted,G,yielded,F,Nc,M];cases c with
  |bool x=>cases x<;>cases b<;>first|rfl|exact absurd (A.2 Z) m
  |_=>rfl
 rw[if_neg m]at k;simp only[wpList];rw[if_neg (by rw[L];exact MR)];refine k _ _ ⟨bx,rv,I,by rw[dB];exact f,by rw[cH,y],?_⟩;have:=gY (S:=⟨n,sl,bs,rs⟩) (o:=o) (t:=.sc undef) (v:=undef) (rs:=rs) (w':=w) (G0:=G0) f q (fun _ _ h=>h) l (.pure (.sc _ .nil) .nil);rw[H]at this⊢;exact this
theorem au{p b:Bool}:∃a,(Tree.sc (.bool p))=.sc a/\((p=b)↔a=.bool b):=⟨_,Z,by simp⟩
theorem ee{A:Prop}[Decidable A]{p b:Bool}:∃a,(if A then Tree.sc (.bool p)else .sc undef)=.sc a/\((A/\p=b)↔a=.bool b):=⟨if A then .bool p else undef,by split<;>rfl,by split<;>simp_all [undef]⟩
theorem aL{c a b:Operand}{x:Bool}{t:Tree}(d:o.op=.pick c a b)(e:S.ev c=.sc (.bool x))(g:x=true->S.ev a=t)(f:x=false->S.ev b=t):OpOK o S t:=by
 cases x with
 |true=>exact Bh d e (g Z)
 |false=>exact Bh d e (f Z)
theorem ai{op:BinOp}{d j:TypeId}{x y:Operand}{b c v:Value}(a:o.op=.binOp op d x y j)(f:S.ev x=.sc b)(k:S.ev y=.sc c)(h:∀w,(do eqGuard op d x y b c;binOp op d b c:Sem Value).run Tryz.prog w=.ok v w):OpOK o S (.sc v):=by
 intro w0 G0 bx rv w T l e;have g:=(bI e f (by rw[a];simp[Op.operands])).isSc;have i:=(bI e k (by rw[a];simp[Op.operands])).isSc;refine aq (v:=v) (W':=w) ?_ ⟨.pure (.sc _ .nil) .nil,Below.refl _ _⟩;simp only[execOp,a,g,i];rw[Sem.run_bind,h w];rfl
theorem ef{op:UnOp}{f:TypeId}{x:Operand}{b v:Value}(a:o.op=.unOp op f x)(c:S.ev x=.sc b)(h:∀w,(Op.unary op b).run Tryz.prog w=.ok v w):OpOK o S (.sc v):=by
 intro w0 G0 bx rv w T g d;have e:=(bI d c (by rw[a];simp[Op.operands])).isSc;refine aq (v:=v) (W':=w) ?_ ⟨.pure (.sc _ .nil) .nil,Below.refl _ _⟩;simp only[execOp,a,e];rw[Sem.run_bind,h w];rfl
theorem k7{b a:TypeId}{x:Operand}{k i:IntKind}{m:Int}{d:TypeDesc}(c:o.op=.convert b a x)(h:Tryz.prog.underlying b=some d)(j:Tryz.prog.underlying a=some (.int k))(e:S.ev x=.sc (.int i m)):OpOK o S (.sc (.int k (k.wrap m))):=by
 intro w0 G0 bx rv w T l f;have g:=(bI f e (by rw[c];simp[Op.operands])).isSc;refine aq (v:=.int k (k.wrap m)) (W':=w) ?_ ⟨.pure (.sc _ .nil) .nil,Below.refl _ _⟩;simp[execOp,c,g,convert,run_underlying h,run_underlying j,Conv.intToInt]
theorem eK{x:Operand}{t:TypeId}{s:ByteArray}(a:o.op=.call {callee:=.builtin .len,args:=#[x],argTypes:=#[t]})(e:Tryz.prog.underlying t=some .string)(b:S.ev x=.sc (.string s)):OpOK o S (.sc (.int .i64 (s.size:Nat))):=by
 intro w0 G0 bx rv w T f c;have d:=(bI c b (by rw[a];simp[Op.operands,Call.operands])).isSc;refine aq (v:=.int .i64 (s.size:Nat)) (W':=w) ?_ ⟨.pure (.sc _ .nil) .nil,Below.refl _ _⟩;simp[execOp,a,resolve,invoke,builtin,Builtin.len_,d,run_underlying e,goInt]
theorem dE{x h:Operand}{t:TypeId}{s:ByteArray}{k:IntKind}{i:Int}{j:Nat}{c:UInt8}(e:o.op=.index t x h)(p:Tryz.prog.underlying t=some .string)(m:S.ev x=.sc (.string s))(l:S.ev h=.sc (.int k i))(r:i=j)(d:s.data.toList[j]? =some c):OpOK o S (.sc (.int .u8 c.toNat)):=by
 intro w0 G0 bx rv w T u g;have n:=(bI g m (by rw[e];simp[Op.operands])).isSc;have q:=(bI g l (by rw[e];simp[Op.operands])).isSc;subst r;have b:j<s.size:=by have:=(L7.1 d).1;simpa using this
 have f:s[j]? =some c:=by
  rw[getElem?_pos s j b];rw[Np]at d;have a:j<s.data.size:=b;rw[MH a]at d;exact d
 refine aq (v:=.int .u8 c.toNat) (W':=w) ?_ ⟨.pure (.sc _ .nil) .nil,Below.refl _ _⟩;simp[execOp,e,n,q,Instr.index,asIntOf,run_underlying p,f]
theorem fa{x:Operand}{lo g:Option Operand}{t:TypeId}{l h:Nat}{s:ByteArray}(b:o.op=.slice t x lo g none)(e:Tryz.prog.underlying t=some .string)(r:S.ev x=.sc (.string s))(c:IF S lo l)(a:IG S s.size g h)(p:l<=h)(z:h<=s.size):OpOK o S (.sc (.string (s.extract l h))):=by
 intro w0 G0 bx rv w T u d;have f:=(bI d r (by rw[b];simp[Op.operands])).isSc;refine aq (v:=.string (s.extract l h)) (W':=w) ?_ ⟨.pure (.sc _ .nil) .nil,Below.refl _ _⟩;have n:¬s.size<h:=by omega
 cases lo with
 |none=>
  obtain rfl:l=0:=c;cases g with
  |none=>
   obtain rfl:h=s.size:=a;simp[execOp,b,f,Instr.sliceAt,Instr.slice,Instr.sliceBounds,run_underlying e]
  |some y=>
   obtain⟨k,m⟩:=a;have j:=(bI d m (by rw[b];simp[Op.operands])).isSc;simp[execOp,b,f,j,Instr.sliceAt,Instr.slice,Instr.sliceBounds,Instr.sliceBound,asIntOf,run_underlying e,n]
 |some x=>
  obtain⟨k,m⟩:=c;have q:=(bI d m (by rw[b];simp[Op.operands])).isSc;cases g with
  |none=>
   obtain rfl:h=s.size:=a;simp[execOp,b,f,q,Instr.sliceAt,Instr.slice,Instr.sliceBounds,Instr.sliceBound,asIntOf,run_underlying e,p]
  |some y=>
   obtain⟨A,i⟩:=a;have j:=(bI d i (by rw[b];simp[Op.operands])).isSc;simp[execOp,b,f,j,q,Instr.sliceAt,Instr.slice,Instr.sliceBounds,Instr.sliceBound,asIntOf,run_underlying e,n,p]
end
def II(P:Program)(s:TypeId)(j:Nat):Option Nat:=
 match P.underlying s with
 |some (.struct fs)=>(fs[j]?).bind fun f=>if iU P f.type then some f.offset else none
 |_=>none
theorem Bi{S:St}{o:Oper}{x:Operand}{s:TypeId}{j off:Nat}{cs:List Tree}{t:Tree}(g:o.op=.field s x j)(h:S.ev x=.agg cs)(a:II Tryz.prog s j=some off)(l:cs[off]? =some t):OpOK o S t:=by
 intro w0 G0 bx rv w T q i;obtain⟨xs,k,m⟩:=(bI i h (by rw[g];simp[Op.operands])).isAgg;obtain⟨u,n,p⟩:=m.get off t l;unfold II at a;split at a
 ·next fs hu=>
  cases b:fs[j]? with
  |none=>simp[b]at a
  |some f=>
   simp only[b,Nc]at a;split at a
   ·next hone=>
    injection a with a
    subst a;obtain⟨d,e,r⟩:=vk hone;have c:(isAgg f.type).run Tryz.prog w=.ok false w:=by
     unfold isAgg;rw[Sem.run_bind,run_underlying e w];cases d<;>simp_all
    refine aq (v:=u) (W':=w) ?_ ⟨p,Below.refl _ _⟩;simp[execOp,g,k,Instr.field,run_underlying hu,b,part,c,asAgg,n]
   cases a
 cases a
section
variable {w0:World} {G0:Nat->Prop} {ops:Array Oper} {rest:List Oper} {Q:Exit->St->Prop} {o:Oper} {n:Nat} {sl:List (Nat×Tree)} {bs:List (TypeId×List Tree)} {rs:List (Option Row)} {S:St}
theorem Cx{d b:Nat}{ty:TypeId}{x:Operand}{t:Tree}{cs:List Tree}(h:o.op=.box ty x)(l:o.guard=none)(c:o.dst=some d)(m:Nat.blt d n=true)(i:St.ev ⟨n,sl,bs,rs⟩ x=t)(f:t.oneA=true)(e:t.cells=cs)(j:cs.all Tree.noDig=true)(g:bs.length=b){bs':List (TypeId×List Tree)}(a:bs++[(ty,cs)]=bs')
  (k:AOps w0 G0 ops rest Q ⟨n,(d,.box b 0)::sl,bs',rs⟩):AOps w0 G0 ops (o::rest) Q ⟨n,sl,bs,rs⟩:=by
 subst e g a;refine eD l (D7 (S:=⟨n,sl,bs,rs⟩) h (by rw[c];simpa[cT,Nn]using m) i f j) ?_;rw[c];exact k
theorem wN{d b:Nat}{ty:TypeId}{c:List Value}{cs:List Tree}(h:o.op=.alloc ty)(j:o.guard=none)(e:o.dst=some d)(l:Nat.blt d n=true)(m:gc Tryz.prog ty=some c)(i:c.all bL=true)(f:c.map dg=cs)(g:bs.length=b){bs':List (TypeId×List Tree)}(a:bs++[(ty,cs)]=bs')
  (k:AOps w0 G0 ops rest Q ⟨n,(d,.box b 0)::sl,bs',rs⟩):AOps w0 G0 ops (o::rest) Q ⟨n,sl,bs,rs⟩:=by
 subst f g a;refine eD j (rD (S:=⟨n,sl,bs,rs⟩) h (by rw[e];simpa[cT,Nn]using l) m i) ?_;rw[e];exact k
theorem wO{ty e:TypeId}{x y:Operand}{b off m:Nat}{cs:List Tree}{t:Tree}(l:o.op=.store ty x y)(r:o.guard=none)(a:o.dst=none)(f:St.ev ⟨n,sl,bs,rs⟩ x=.box b off)(i:bs[b]? =some (e,cs))(j:St.ev ⟨n,sl,bs,rs⟩ y=t)(h:t.oneA=true)(p:t.cells.all Tree.one=true)(s:t.cells.all Tree.noDig=true)(q:(Tryz.prog.info? ty).map (·.size)=some m)(g:t.cells.length=m)(d:Nat.ble (off+m) cs.length=true){bs':List (TypeId×List Tree)}(c:bs.set b (e,D8 cs off t)=bs')
  (k:AOps w0 G0 ops rest Q ⟨n,sl,bs',rs⟩):AOps w0 G0 ops (o::rest) Q ⟨n,sl,bs,rs⟩:=by
 subst c;exact eD r (kX (S:=⟨n,sl,bs,rs⟩) l a f i j h p s q g (by simpa using d)) k
theorem cD{d k m b:Nat}{x y:Operand}{t:TypeId}{R:Row}{a:List Tree}(A:o.op=.call {callee:=.builtin .append,args:=#[x,y],argTypes:=#[t,t]})(u:o.guard=none)(h:o.dst=some d)(v:Nat.blt d n=true)(j:lM Tryz.prog t=some (R.e,R.sz,b))(i:St.ev ⟨n,sl,bs,rs⟩ x=.own k)(B:rs[k]? =some (some R))(C:St.ev ⟨n,sl,bs,rs⟩ y=.sl a)(q:R.sz=m)(s:Sized m a)(z:AllC Tree.one a)(r:AllC Tree.noDig a)(l:R.es.length+a.length<=1073741824)(w:Nat.ble b 100000=true){sl':List (Nat×Tree)}{bs':List (TypeId×List Tree)}{rs':List (Option Row)}(f:sl.map (fun p=>(p.1,lI k p.2))=sl')(c:bs.map (fun p=>(p.1,p.2.map (gZ k)))=bs')(g:rs.set k (some ⟨R.e,R.sz,R.es++a,false⟩)=rs')
  (K:AOps w0 G0 ops rest Q ⟨n,(d,.own k)::sl',bs',rs'⟩):AOps w0 G0 ops (o::rest) Q ⟨n,sl,bs,rs⟩:=by
 subst q f c g;refine eD u (tU (S:=⟨n,sl,bs,rs⟩) A (by rw[h];simpa[cT,Nn]using v) j i B C s z r l (by simpa using w)) ?_;rw[h];exact K
def iS:List (Nat×Tree)->List (Option Nat)->List Tree->List (Nat×Tree)
 |sl,some d::ds,t::ts=>iS ((d,t)::sl) ds ts
 |sl,none::ds,_::ts=>iS sl ds ts
 |sl,_,_=>sl
theorem kh(n:Nat)(bs:List (TypeId×List Tree))(rs:List (Option Row)):∀(a:List (Option Nat)) (ts:List Tree) (sl:List (Nat×Tree)),fk ⟨n,sl,bs,rs⟩ a ts=⟨n,iS sl a ts,bs,rs⟩
 |[],_,sl=>by cases sl<;>rfl
 |some d::a,[],sl=>rfl
 |none::a,[],sl=>rfl
 |some d::a,t::ts,sl=>kh n bs rs a ts _
 |none::a,t::ts,sl=>kh n bs rs a ts _
theorem ci{id fu:Nat}{ops:List Oper}(a:List (Option Nat))(ts:List Tree){sl':List (Nat×Tree)}(c:dM ops.toArray=true)(g:ops.map (·.dst)=a)(e:bV n a=true)(b:lX ops.toArray a fu=true)(d:iS sl a ts=sl')(f:Chain ops.toArray a fu 0 ⟨n,sl,bs,rs⟩ ops ts)(k:Q .normal ⟨n,sl',bs,rs⟩):AWP w0 G0 (.region id ops.toArray true) Q ⟨n,sl,bs,rs⟩:=
 Ec c g e b f (by rw[kh,d];exact k)
theorem dH{id fu:Nat}{ops:List Oper}{c:Oper}(a:List (Option Nat))(ts:List Tree){sl':List (Nat×Tree)}{ty u:TypeId}{x y:Operand}{b off m:Nat}{cs:List Tree}{t:Tree}{bs':List (TypeId×List Tree)}(r:dM (ops++[c]).toArray=true)(G:ops.map (·.dst)=a)(e:c.dst=none)(q:c.guard=none)(s:(ops.all fun o=>o.guard.isNone)=true)(j:bV n (a++[none])=true)(d:lX (ops++[c]).toArray (a++[none]) fu=true)(f:(List.range ops.length).all (fun i=>reach (ops++[c]).toArray ops.length ops.length i)=true)(h:iS sl a ts=sl')
  (F:c.op=.store ty x y) (v:St.ev ⟨n,sl',bs,rs⟩ x=.box b off) (w:bs[b]? =some (u,cs)) (z:St.ev ⟨n,sl',bs,rs⟩ y=t) (D:t.oneA=true) (B:t.cells.all Tree.one=true) (A:t.cells.all Tree.noDig=true) (C:(Tryz.prog.info? ty).map (·.size)=some m) (E:t.cells.length=m) (l:Nat.ble (off+m) cs.length=true) (g:bs.set b (u,D8 cs off t)=bs')
  (p:Chain (ops++[c]).toArray (a++[none]) fu 0 ⟨n,sl,bs,rs⟩ ops ts) (k:Q .normal ⟨n,sl',bs',rs⟩):AWP w0 G0 (.region id (ops++[c]).toArray true) Q ⟨n,sl,bs,rs⟩:=by
 subst h g;refine vq r G e q s j d f p ?_ k;rw[kh];exact kX (S:=⟨n,iS sl a ts,bs,rs⟩) F e v w z D B A C E (by simpa using l)
structure Le (S S':St) (m k:Nat):Prop where
 n:S'.n=S.n
 bs:S'.bs=S.bs.take m
 rs:S'.rs=S.rs.take k
 sl:Keeps S m k S'.sl
 ok:(S'.bs.all fun p=>p.2.all (within0 m k))=true
theorem Sim.le{S':St}{m k:Nat}{a:Act}{w:World}(h:Sim w0 G0 S a w)(c:Le S S' m k):Sim w0 G0 S' a w:=by
 obtain⟨d,b,f,g,e⟩:=c;have:=h.less m k S'.sl g (by rw[<-b];exact e);rw[<-d,<-b,<-f]at this;exact this
theorem Ed{c:Code}{S':St}(m k:Nat)(d:Le S S' m k)(h:AWP w0 G0 c Q S'):AWP w0 G0 c Q S:=fun a w b=>h a w (b.le d)
theorem aW{c:Code}(I:Nat->St->Prop){i:Nat}{g:St}(m k:Nat)(j:I i g)(f:Le S g m k)(b:∀n S,I n S->AWP w0 G0 c (wK (fun S'=>∃d a,d<n/\I d a/\Le S' a m k) Q) S):AWP w0 G0 (.loop c) Q S:=by
 refine Eb (fun n S=>∃a,I n a/\Le S a m k) i ⟨g,j,f⟩ ?_;rintro n S ⟨a,s,l⟩;refine Ed m k l ((b n a s).mono ?_);intro e S' h;cases e with
 |normal=>
  obtain⟨d,q,o,p,r⟩:=h;exact⟨d,o,q,p,r⟩
 |_=>exact h
theorem rE{x y:Code}{a:Exit->St->Prop}(b:St)(m k:Nat)(h:AWP w0 G0 x (wK (fun S'=>Le S' b m k) a) S)(d:AWP w0 G0 y Q b):AWP w0 G0 x (wK (AWP w0 G0 y Q) a) S:=h.mono fun e S' c=>by
 cases e with
 |normal=>exact Ed m k c d
 |_=>exact c
end
theorem J4{a:Int}{m:Nat}(h:a=m)(b:m<9223372036854775808):(Tree.sc (.int .i64 (IntKind.i64.wrap a)))=.sc (.int .i64 (m:Nat)):=by
 subst h;congr 2;rw[Ns];omega
theorem qR{c:TypeId}{x y:Operand}{a b:ByteArray}{w:World}(h:a.size+b.size<=4611686018427387904):(do eqGuard .add c x y (.string a) (.string b);binOp .add c (.string a) (.string b):Sem Value).run Tryz.prog w=.ok (.string (a++b)) w:=by
 simp[eqGuard,binOp,Op.stringOp];omega
theorem eU{α:Type}{a b:α}{l m:List α}(h:a=b)(c:l=m):a::l=b::m:=by rw[h,c]
theorem ep{k:IntKind}{a b:Int}(h:a=b):(Tree.sc (.int k a))=.sc (.int k b):=by rw[h]
theorem av{p q:Bool}(h:p=q):(Tree.sc (.bool p))=.sc (.bool q):=by rw[h]
theorem iu(a b:Nat):decide ((a:Int)<(b:Int))=decide (a<b):=decide_eq_decide.2 (by omega)
theorem DT(a b:Nat):decide ((a:Int)<=(b:Int))=decide (a<=b):=decide_eq_decide.2 (by omega)
theorem tE(a b:Nat):decide ((a:Int)>(b:Int))=decide (b<a):=decide_eq_decide.2 (by omega)
theorem IJ(a b:Nat):decide ((a:Int)≥(b:Int))=decide (b<=a):=decide_eq_decide.2 (by omega)
theorem lY(a b:Nat):((a:Int)==(b:Int))=decide (a=b):=by
 rw[O2,beq_iff_eq,decide_eq_true_eq];omega
theorem wD(a b:Nat):((a:Int) !=(b:Int))=decide (a≠b):=by
 rw[O2,bne_iff_ne,decide_eq_true_eq];omega
structure LayT where
 agg:List (Nat×Nat)
 one:List (Nat×Bool)
 fld:List (Nat×List (Nat×Nat))
 siz:List (Nat×Nat)
 str:List (Nat×List (Nat×Nat)×List Value×List Tree)
 zer:List (Nat×List Value×List Tree)
structure LayT.OK (L:LayT):Prop where
 agg:∀t n,(t,n)∈L.agg->qF Tryz.prog t=some n
 one:∀t b,(t,b)∈L.one->iU Tryz.prog t=true
 fld:∀t l,(t,l)∈L.fld->∀j n,(j,n)∈l->j4 Tryz.prog t j=some n
 siz:∀t n,(t,n)∈L.siz->(Tryz.prog.info? t).map (·.size)=some n
 str:∀t z,(t,z)∈L.str->tJ Tryz.prog t=some (z.1,z.2.1)/\z.2.1.map dg=z.2.2
 zer:∀t z,(t,z)∈L.zer->gc Tryz.prog t=some z.1/\z.1.all bL=true/\z.1.map dg=z.2
theorem qG{α β:Type}{P:α->β->Prop}:∀t n,(t,n)∈([]:List (α×β))->P t n:=fun _ _ h=>by cases h
theorem cY{α β:Type}{P:α->β->Prop}{l:List (α×β)}{a:α}{b:β}(h:P a b)(d:∀t n,(t,n)∈l->P t n):∀t n,(t,n)∈(a,b)::l->P t n:=by
 intro t n c;rcases Mi.1 c with e|e
 ·cases e;exact h
 exact d t n e
section
variable {γ α β:Type}
def tF:List (Nat×α)->Nat->(α->Option γ)->Option γ
 |[],_,_=>none
 |(i,a)::l,j,k=>cond (Nat.beq i j) (k a) (tF l j k)
theorem g6{k:α->Option γ}{r:γ}{j:Nat}:∀{l:List (Nat×α)},tF l j k=some r->∃a,(j,a)∈l/\k a=some r
 |[],h=>by cases h
 |(i,a)::l,h=>by
  simp only[tF]at h;cases c:Nat.beq i j with
  |true=>
   rw[c]at h;cases N7 c;exact⟨a,Mr ..,h⟩
  |false=>
   rw[c]at h;obtain⟨b,e,d⟩:=g6 (l:=l) h;exact⟨b,MB _ e,d⟩
theorem wP{k:Tree->Option γ}{r:γ}{j:Nat}:∀{l:List (Nat×Tree)},tF l j k=some r->k (look l j)=some r
 |[],h=>by cases h
 |(i,a)::l,h=>by
  simp only[tF]at h;simp only[look];cases b:Nat.beq i j with
  |true=>rw[b]at h;exact h
  |false=>rw[b]at h;exact wP (l:=l) h
def Ee(sl:List (Nat×Tree))(x:Operand)(k:Tree->Option γ):Option γ:=
 match x with
 | .tmp s=>tF sl s k
 | .const v=>k (.sc v)
 |_=>none
theorem Ef{n:Nat}{sl:List (Nat×Tree)}{bs:List (TypeId×List Tree)}{rs:List (Option Row)}{x:Operand}{k:Tree->Option γ}{r:γ}(h:Ee sl x k=some r):k (St.ev ⟨n,sl,bs,rs⟩ x)=some r:=by
 cases x with
 |tmp s=>exact wP h
 |const v=>exact h
 |_=>cases h
def vr:List α->Nat->(α->Option γ)->Option γ
 |[],_,_=>none
 |a::_,0,k=>k a
 |_::l,n+1,k=>vr l n k
theorem jN{k:α->Option γ}{r:γ}:∀{l:List α} {n:Nat},vr l n k=some r->∃a,l[n]? =some a/\k a=some r
 |[],_,h=>by cases h
 |a::_,0,h=>⟨a,Z,h⟩
 |_::l,n+1,h=>by simpa using jN (l:=l) (n:=n) h
def IK:List α->Nat->α->(List α->Option γ)->Option γ
 |[],_,_,_=>none
 |_::l,0,v,k=>k (v::l)
 |a::l,n+1,v,k=>IK l n v fun l'=>k (a::l')
theorem Bj{r:γ}{v:α}:∀{l:List α} {n:Nat} {k:List α->Option γ},IK l n v k=some r->k (l.set n v)=some r
 |[],_,_,h=>by cases h
 |_::_,0,_,h=>h
 |_::l,n+1,k,h=>Bj (l:=l) (n:=n) h
def GD:List α->α->(List α->Option γ)->Option γ
 |[],v,k=>k [v]
 |a::l,v,k=>GD l v fun l'=>k (a::l')
theorem vt{r:γ}{v:α}:∀{l:List α} {k:List α->Option γ},GD l v k=some r->k (l++[v])=some r
 |[],_,h=>h
 |_::l,_,h=>vt (l:=l) h
def Bk:List α->Nat->(List α->Option γ)->Option γ
 |l,0,k=>k l
 |[],_+1,_=>none
 |_::l,n+1,k=>Bk l n k
theorem n9{r:γ}{k:List α->Option γ}:∀{n:Nat} {l:List α},Bk l n k=some r->n<=l.length/\k (l.drop n)=some r
 |0,l,h=>by cases l<;>exact⟨Mx _,h⟩
 |n+1,[],h=>by cases h
 |n+1,_::l,h=>⟨Nat.succ_le_succ (n9 (n:=n) (l:=l) h).1,(n9 (n:=n) (l:=l) h).2⟩
def Bl:List α->Nat->(List α->Option γ)->Option γ
 |_,0,k=>k []
 |[],_+1,_=>none
 |a::l,n+1,k=>Bl l n fun l'=>k (a::l')
theorem oc{r:γ}:∀{n:Nat} {l:List α} {k:List α->Option γ},Bl l n k=some r->n<=l.length/\k (l.take n)=some r
 |0,l,_,h=>by cases l<;>exact⟨Mx _,h⟩
 |n+1,[],_,h=>by cases h
 |n+1,a::l,k,h=>⟨Nat.succ_le_succ (oc (n:=n) (l:=l) h).1,(oc (n:=n) (l:=l) h).2⟩
def Eg:List α->Nat->List α->(List α->Option γ)->Option γ
 |l,0,[],k=>k l
 |_::l,0,v::vs,k=>Eg l 0 vs fun l'=>k (v::l')
 |a::l,n+1,vs,k=>Eg l n vs fun l'=>k (a::l')
 |_,_,_,_=>none
theorem qS{r:γ}:∀{l:List α} {n:Nat} {vs:List α} {k:List α->Option γ},Eg l n vs k=some r->n+vs.length<=l.length/\k (l.take n++vs++l.drop (n+vs.length))=some r
 |[],0,[],_,h=>⟨L5 _,h⟩
 |_::_,0,[],_,h=>⟨Mx _,h⟩
 |_::l,0,v::vs,k,h=>by
  obtain⟨c,b⟩:=qS (l:=l) (n:=0) (vs:=vs) h;refine⟨by simp only[Mb]at*;omega,?_⟩;simp only[Ou,M6,Mb,M0]at b⊢;exact b
 |a::l,n+1,vs,k,h=>by
  obtain⟨c,b⟩:=qS (l:=l) (n:=n) (vs:=vs) h;refine⟨by simp only[Mb];omega,?_⟩;rw[show n+1+vs.length=(n+vs.length)+1 by omega];exact b
 |[],0,_::_,_,h=>by cases h
 |[],_+1,_,_,h=>by cases h
def Cy:List Nat:=[0,1,2,3,4,5,6,7,8,9,10,11,12,13,14,15,16,17,18,19,20,21,22,23]
theorem vu{i a:Nat}(h:Cy[i]? =some a):a=i:=by
 have:∀j:Fin 24,Cy[j.1]? =some j.1:=by decide
 by_cases b:i<24
 ·have:=this ⟨i,b⟩;simp only at this;rw[this]at h;exact(Nt h).symm
 rw[Nq (by simp only[Cy,Mb,Mo];omega)]at h;cases h
def J5(n:Nat)(k:Nat->Option γ):Option γ:=vr Cy n k
theorem GE{n:Nat}{k:Nat->Option γ}{r:γ}(h:J5 n k=some r):k n=some r:=by
 obtain⟨a,c,b⟩:=jN h;rw[vu c]at b;exact b
def GF:List α->List Nat->(Nat->Option γ)->Option γ
 |[],b::_,k=>k b
 |_::l,_::m,k=>GF l m k
 |_,[],_=>none
theorem vv{k:Nat->Option γ}{r:γ}:∀{l:List α} {m:List Nat},GF l m k=some r->∃b,m[l.length]? =some b/\k b=some r
 |[],b::_,h=>⟨b,Z,h⟩
 |_::l,_::m,h=>by simpa using vv (l:=l) (m:=m) h
 |[],[],h=>by cases h
 |_::_,[],h=>by cases h
def IL(b:Bool)(x:Option γ):Option γ:=cond b x none
theorem ns{b:Bool}{x:Option γ}{r:γ}(h:IL b x=some r):b=true/\x=some r:=by
 cases b with
 |true=>exact⟨Z,h⟩
 |false=>cases h
def IM(sl:List (Nat×Tree))(pl:List (Nat×Nat)):List (Nat×Operand)->List Tree->(List Tree->Option γ)->Option γ
 |[],cs,k=>k cs
 |(i,x)::ps,cs,k=>Ee sl x fun t=>IL t.oneA (vr pl i fun p=>IL (Nat.beq t.cells.length p.2) (Eg cs p.1 t.cells fun cs'=>IM sl pl ps cs' k))
theorem Bm{n:Nat}{sl:List (Nat×Tree)}{bs:List (TypeId×List Tree)}{rs:List (Option Row)}{d:List (Nat×Nat)}{r:γ}{k:List Tree->Option γ}:∀{ps:List (Nat×Operand)} {cs:List Tree},IM sl d ps cs k=some r->∃a,nW (d[·]?) cs (ps.map fun p=>(p.1,St.ev ⟨n,sl,bs,rs⟩ p.2))=some a/\((ps.map fun p=>(p.1,St.ev ⟨n,sl,bs,rs⟩ p.2)).all fun q=>q.2.oneA)=true/\k a=some r
 |[],cs,h=>⟨cs,Z,Z,h⟩
 |(i,x)::ps,cs,h=>by
  obtain⟨f,j⟩:=ns (Ef (n:=n) (bs:=bs) (rs:=rs) h);obtain⟨p,o,s⟩:=jN j;obtain⟨m,l⟩:=ns s;obtain⟨t,g⟩:=qS l;obtain⟨a,e,c,b⟩:=Bm (n:=n) (bs:=bs) (rs:=rs) g;refine⟨a,?_,?_,b⟩
  ·simp only[MX,nW,o];rw[if_neg (by rw[<-N7 m];omega)];exact e
  simp only[MX,NP,f,c,Ql]
def od(n:Nat)(d:Option Nat)(k:Nat->Option γ):Option γ:=
 match d with
 |some d=>IL (Nat.blt d n) (k d)
 |none=>none
theorem fR{n:Nat}{d:Option Nat}{k:Nat->Option γ}{r:γ}(h:od n d k=some r):∃e,d=some e/\Nat.blt e n=true/\k e=some r:=by
 cases d with
 |some e=>exact⟨e,Z,(ns h).1,(ns h).2⟩
 |none=>cases h
def rF(L:LayT)(n:Nat)(sl:List (Nat×Tree))(bs:List (TypeId×List Tree))(o:Oper)(k:List (Nat×Tree)->List (TypeId×List Tree)->Option γ):Option γ:=
 match o.guard with
 |some _=>none
 |none=>match o.op with
  | .move x=>Ee sl x fun t=>od n o.dst fun d=>k ((d,t)::sl) bs
  | .assign x=>Ee sl x fun t=>od n o.dst fun d=>k ((d,t)::sl) bs
  | .extract x j=>Ee sl x fun t=>match t with
   | .tup ts=>vr ts j fun t=>od n o.dst fun d=>k ((d,t)::sl) bs
   |_=>none
  | .fieldAddr s x j=>Ee sl x fun t=>match t with
   | .box b off=>tF L.fld s fun fs=>tF fs j fun fo=>J5 (off+fo) fun m=>od n o.dst fun d=>k ((d,.box b m)::sl) bs
   | .elp b off=>tF L.fld s fun fs=>tF fs j fun fo=>od n o.dst fun d=>k ((d,.elp b (off+fo))::sl) bs
   | .ref cs=>tF L.fld s fun fs=>tF fs j fun fo=>Bk cs fo fun cs'=>od n o.dst fun d=>k ((d,.ref cs')::sl) bs
   |_=>none
  | .load t x=>Ee sl x fun a=>match a with
   | .box b off=>vr bs b fun p=>match tF L.one t some with
    |some _=>vr p.2 off fun c=>od n o.dst fun d=>k ((d,c)::sl) bs
    |none=>tF L.agg t fun m=>Bk p.2 off fun cs=>Bl cs m fun cs'=>od n o.dst fun d=>k ((d,.agg cs')::sl) bs
   | .ref cs=>match tF L.one t some with
    |some _=>vr cs 0 fun c=>od n o.dst fun d=>k ((d,c)::sl) bs
    |none=>tF L.agg t fun m=>Bl cs m fun cs'=>od n o.dst fun d=>k ((d,.agg cs')::sl) bs
   |_=>none
  | .store ty x y=>match o.dst with
   |some _=>none
   |none=>Ee sl x fun a=>match a with
    | .box b off=>vr bs b fun p=>Ee sl y fun t=>IL (t.oneA&&t.cells.all Tree.one&&t.cells.all Tree.noDig) (tF L.siz ty fun m=>IL (Nat.beq t.cells.length m) (Eg p.2 off t.cells fun cs=>IK bs b (p.1,cs) fun bs'=>k sl bs'))
    |_=>none
  | .alloc ty=>tF L.zer ty fun z=>GF bs Cy fun b=>GD bs (ty,z.2) fun bs'=>od n o.dst fun d=>k ((d,.box b 0)::sl) bs'
  | .box ty x=>Ee sl x fun t=>IL (t.oneA&&t.cells.all Tree.noDig) (GF bs Cy fun b=>GD bs (ty,t.cells) fun bs'=>od n o.dst fun d=>k ((d,.box b 0)::sl) bs')
  | .build ty ps=>tF L.str ty fun z=>IM sl z.1 ps.toList z.2.2 fun cs=>od n o.dst fun d=>k ((d,.agg cs)::sl) bs
  |_=>none
def Ls(n:Nat)(sl:List (Nat×Tree))(bs:List (TypeId×List Tree))(o:Oper)(sl':List (Nat×Tree))(bs':List (TypeId×List Tree)):Prop:=∀(w0:World) (G0:Nat->Prop) (ops:Array Oper) (rest:List Oper) (Q:Exit->St->Prop) (rs:List (Option Row)),AOps w0 G0 ops rest Q ⟨n,sl',bs',rs⟩->AOps w0 G0 ops (o::rest) Q ⟨n,sl,bs,rs⟩
theorem jO{n:Nat}{sl:List (Nat×Tree)}{bs:List (TypeId×List Tree)}{rs rs':List (Option Row)}{x:Operand}:St.ev ⟨n,sl,bs,rs⟩ x=St.ev ⟨n,sl,bs,rs'⟩ x:=by cases x<;>rfl
theorem IN{L:LayT}(I:L.OK){n:Nat}{sl:List (Nat×Tree)}{bs:List (TypeId×List Tree)}{o:Oper}{k:List (Nat×Tree)->List (TypeId×List Tree)->Option γ}{r:γ}(h:rF L n sl bs o k=some r):∃sl' bs',Ls n sl bs o sl' bs'/\k sl' bs'=some r:=by
 have E:∀{x:Operand} {k:Tree->Option γ},Ee sl x k=some r->∀rs,k (St.ev ⟨n,sl,bs,rs⟩ x)=some r:=fun h rs=>Ef h
 unfold rF at h;cases F:o.guard with
 |some g=>rw[F]at h;cases h
 |none=>
  rw[F]at h;simp only at h;cases w:o.op with
  |move x=>
   rw[w]at h;obtain⟨d,l,v,q⟩:=fR (E h []);refine⟨_,_,?_,q⟩;exact fun w0 G0 ops f Q rs K=>af F l v (aw w jO) K
  |assign x=>
   rw[w]at h;obtain⟨d,l,v,q⟩:=fR (E h []);refine⟨_,_,?_,q⟩;exact fun w0 G0 ops f Q rs K=>af F l v (bW w jO) K
  |extract x j=>
   rw[w]at h;have i:=E h [];cases A:St.ev ⟨n,sl,bs,[]⟩ x with
   |tup ts=>
    rw[A]at i;obtain⟨t,D,B⟩:=jN i;obtain⟨d,l,v,q⟩:=fR B;refine⟨_,_,?_,q⟩;exact fun w0 G0 ops f Q rs K=>af F l v (dD w (jO.trans A) D) K
   |_=>rw[A]at i;cases i
  |fieldAddr s x j=>
   rw[w]at h;have i:=E h [];cases A:St.ev ⟨n,sl,bs,[]⟩ x with
   |box b off=>
    rw[A]at i;obtain⟨V,G,D⟩:=g6 i;obtain⟨fo,M,B⟩:=g6 D;obtain⟨d,l,v,q⟩:=fR (GE B);refine⟨_,_,?_,q⟩;exact fun w0 G0 ops f Q rs K=>af F l v (az w (jO.trans A) (I.fld _ _ G _ _ M) Z) K
   |elp b off=>
    rw[A]at i;obtain⟨V,G,D⟩:=g6 i;obtain⟨fo,M,B⟩:=g6 D;obtain⟨d,l,v,q⟩:=fR B;refine⟨_,_,?_,q⟩;exact fun w0 G0 ops f Q rs K=>af F l v (vm w (jO.trans A) (I.fld _ _ G _ _ M) Z) K
   |ref cs=>
    rw[A]at i;obtain⟨V,G,D⟩:=g6 i;obtain⟨fo,M,B⟩:=g6 D;obtain⟨_,C⟩:=n9 B;obtain⟨d,l,v,q⟩:=fR C;refine⟨_,_,?_,q⟩;exact fun w0 G0 ops f Q rs K=>af F l v (bw w (jO.trans A) (I.fld _ _ G _ _ M) Z) K
   |_=>rw[A]at i;cases i
  |load t x=>
   rw[w]at h;have i:=E h [];have O:∀{u},tF L.one t some=some u->iU Tryz.prog t=true:=fun H=>by
    obtain⟨a,m,_⟩:=g6 H;exact I.one _ _ m
   cases A:St.ev ⟨n,sl,bs,[]⟩ x with
   |box b off=>
    rw[A]at i;obtain⟨p,D,B⟩:=jN i;cases H:tF L.one t some with
    |some u=>
     rw[H]at B;obtain⟨c,C,J⟩:=jN B;obtain⟨d,l,v,q⟩:=fR J;refine⟨_,_,?_,q⟩;exact fun w0 G0 ops f Q rs K=>af F l v (aD w (jO.trans A) D (O H) C) K
    |none=>
     rw[H]at B;obtain⟨m,G,C⟩:=g6 B;obtain⟨J,T⟩:=n9 C;obtain⟨N,P⟩:=oc T;obtain⟨d,l,v,q⟩:=fR P;rw[MS]at N;refine⟨_,_,?_,q⟩;exact fun w0 G0 ops f Q rs K=>af F l v (aJ w (jO.trans A) D (I.agg _ _ G) (by rw[QJ];show off+m<=p.2.length;omega) Z) K
   |ref cs=>
    rw[A]at i;cases H:tF L.one t some with
    |some u=>
     simp only[H]at i;obtain⟨c,C,J⟩:=jN i;obtain⟨d,l,v,q⟩:=fR J;refine⟨_,_,?_,q⟩;exact fun w0 G0 ops f Q rs K=>af F l v (bE w (jO.trans A) (O H) C) K
    |none=>
     simp only[H]at i;obtain⟨m,G,C⟩:=g6 i;obtain⟨N,P⟩:=oc C;obtain⟨d,l,v,q⟩:=fR P;refine⟨_,_,?_,q⟩;exact fun w0 G0 ops f Q rs K=>af F l v (cU w (jO.trans A) (I.agg _ _ G) (by rw[QJ];exact N) Z) K
   |_=>rw[A]at i;cases i
  |store ty x y=>
   rw[w]at h;cases l:o.dst with
   |some d=>rw[l]at h;cases h
   |none=>
    rw[l]at h;have i:=E h [];cases A:St.ev ⟨n,sl,bs,[]⟩ x with
    |box b off=>
     rw[A]at i;obtain⟨p,D,B⟩:=jN i;obtain⟨C,J⟩:=ns (E B []);obtain⟨m,G,T⟩:=g6 J;obtain⟨N,P⟩:=ns T;obtain⟨W,U⟩:=qS P;have q:=Bj U;simp only[Ma]at C;have e:=N7 N;refine⟨_,_,?_,q⟩;exact fun w0 G0 ops f Q rs K=>wO w F l (jO.trans A) D jO C.1.1 C.1.2 C.2 (I.siz _ _ G) e (by rw[QJ];show off+m<=p.2.length;rw[<-e];exact W) Z K
    |_=>rw[A]at i;cases i
  |alloc ty=>
   rw[w]at h;obtain⟨z,G,D⟩:=g6 h;obtain⟨b,B,C⟩:=vv D;obtain⟨d,l,v,q⟩:=fR (vt C);obtain⟨S,R,X⟩:=I.zer _ _ G;refine⟨_,_,?_,q⟩;exact fun w0 G0 ops f Q rs K=>wN w F l v S R X (vu B).symm Z K
  |box ty x=>
   rw[w]at h;obtain⟨i,D⟩:=ns (E h []);obtain⟨b,B,C⟩:=vv D;obtain⟨d,l,v,q⟩:=fR (vt C);simp only[Ma]at i;refine⟨_,_,?_,q⟩;exact fun w0 G0 ops f Q rs K=>Cx w F l v jO i.1 Z i.2 (vu B).symm Z K
  |build ty ps=>
   rw[w]at h;obtain⟨z,G,D⟩:=g6 h;obtain⟨cs,B,C,J⟩:=Bm (n:=n) (bs:=bs) (rs:=[]) D;obtain⟨d,l,v,q⟩:=fR J;obtain⟨S,R⟩:=I.str _ _ G;refine⟨_,_,?_,q⟩;exact fun w0 G0 ops f Q rs K=>af F l v (fG w S (PC fun p _=>congrArg (Prod.mk p.1) jO) C (by rw[R];exact B)) K
  |_=>rw[w]at h;cases h
end
def GH(L:LayT)(n:Nat):Nat->List Oper->List (Nat×Tree)->List (TypeId×List Tree)->Option (List Oper×List (Nat×Tree)×List (TypeId×List Tree))
 |0,os,sl,bs=>some (os,sl,bs)
 |k+1,o::os,sl,bs=>rF L n sl bs o fun sl' bs'=>GH L n k os sl' bs'
 |_+1,[],_,_=>none
theorem Bn{L:LayT}(c:L.OK){w0:World}{G0:Nat->Prop}{ops:Array Oper}{Q:Exit->St->Prop}{n:Nat}{rs:List (Option Row)}:∀(k:Nat) {b a:List Oper} {sl sl':List (Nat×Tree)} {bs bs':List (TypeId×List Tree)},GH L n k b sl bs=some (a,sl',bs')->AOps w0 G0 ops a Q ⟨n,sl',bs',rs⟩->AOps w0 G0 ops b Q ⟨n,sl,bs,rs⟩
 |0,_,_,_,_,_,_,h,K=>by cases h;exact K
 |k+1,[],_,_,_,_,_,h,_=>by cases h
 |k+1,o::b,_,_,_,_,_,h,K=>by
  obtain⟨d,g,e,f⟩:=IN c h;exact e _ _ _ _ _ _ (Bn c k f K)
def LYT:LayT where
 agg:=[(26,3),(30,4),(58,3),(65,3),(67,4),(77,3)]
 one:=[(2,true),(3,true),(4,true),(5,true),(9,true),(23,true),(24,true),(28,true),(50,true),(61,true),(63,true)]
 fld:=[(26,[(0,0),(1,1),(2,2)]),(30,[(0,0),(1,3)]),(58,[(0,0),(1,1),(2,2)]),(65,[(0,0),(1,1),(2,2)]),(67,[(0,0),(1,1)]),(77,[(0,0)])]
 siz:=[(5,1),(23,1),(24,1),(26,3),(28,1),(30,4),(58,3),(61,1),(65,3),(67,4),(77,3)]
 str:=[(26,[(0,1),(1,1),(2,1)],[.string (⟨#[]⟩),.bool false,.slice none 0 0],[.sc (.string (⟨#[]⟩)),.sc (.bool false),.sl []]),(30,[(0,3),(3,1)],[.string (⟨#[]⟩),.bool false,.slice none 0 0,.slice none 0 0],[.sc (.string (⟨#[]⟩)),.sc (.bool false),.sl [],.sl []]),(58,[(0,1),(1,1),(2,1)],[.string (⟨#[]⟩),.int .i64 0,.bool false],[.sc (.string (⟨#[]⟩)),.sc (.int .i64 0),.sc (.bool false)]),(65,[(0,1),(1,1),(2,1)],[.bool false,.slice none 0 0,.slice none 0 0],[.sc (.bool false),.sl [],.sl []]),(67,[(0,1),(1,3)],[.slice none 0 0,.bool false,.slice none 0 0,.slice none 0 0],[.sl [],.sc (.bool false),.sl [],.sl []])]
 zer:=[(2,[.int .i64 0],[.sc (.int .i64 0)]),(3,[.int .i64 0],[.sc (.int .i64 0)]),(5,[.int .u8 0],[.sc (.int .u8 0)]),(9,[.string (⟨#[]⟩)],[.sc (.string (⟨#[]⟩))]),(23,[.slice none 0 0],[.sl []]),(26,[.string (⟨#[]⟩),.bool false,.slice none 0 0],[.sc (.string (⟨#[]⟩)),.sc (.bool false),.sl []]),(30,[.string (⟨#[]⟩),.bool false,.slice none 0 0,.slice none 0 0],[.sc (.string (⟨#[]⟩)),.sc (.bool false),.sl [],.sl []]),(58,[.string (⟨#[]⟩),.int .i64 0,.bool false],[.sc (.string (⟨#[]⟩)),.sc (.int .i64 0),.sc (.bool false)]),(61,[.slice none 0 0],[.sl []]),(65,[.bool false,.slice none 0 0,.slice none 0 0],[.sc (.bool false),.sl [],.sl []]),(67,[.slice none 0 0,.bool false,.slice none 0 0,.slice none 0 0],[.sl [],.sc (.bool false),.sl [],.sl []]),(77,[.int .i64 0,.int .i64 0,.string (⟨#[]⟩)],[.sc (.int .i64 0),.sc (.int .i64 0),.sc (.string (⟨#[]⟩))])]
theorem GJ:LYT.OK where
 agg:=cY (by kernel_rfl)<|cY (by kernel_rfl)<|cY (by kernel_rfl)<|cY (by kernel_rfl)<|cY (by kernel_rfl)<|cY (by kernel_rfl)<|qG
 one:=cY (by kernel_rfl)<|cY (by kernel_rfl)<|cY (by kernel_rfl)<|cY (by kernel_rfl)<|cY (by kernel_rfl)<|cY (by kernel_rfl)<|cY (by kernel_rfl)<|cY (by kernel_rfl)<|cY (by kernel_rfl)<|cY (by kernel_rfl)<|cY (by kernel_rfl)<|qG
 fld:=cY (cY (by kernel_rfl)<|cY (by kernel_rfl)<|cY (by kernel_rfl)<|qG)<|cY (cY (by kernel_rfl)<|cY (by kernel_rfl)<|qG)<|cY (cY (by kernel_rfl)<|cY (by kernel_rfl)<|cY (by kernel_rfl)<|qG)<|cY (cY (by kernel_rfl)<|cY (by kernel_rfl)<|cY (by kernel_rfl)<|qG)<|cY (cY (by kernel_rfl)<|cY (by kernel_rfl)<|qG)<|cY (cY (by kernel_rfl)<|qG)<|qG
 siz:=cY (by kernel_rfl)<|cY (by kernel_rfl)<|cY (by kernel_rfl)<|cY (by kernel_rfl)<|cY (by kernel_rfl)<|cY (by kernel_rfl)<|cY (by kernel_rfl)<|cY (by kernel_rfl)<|cY (by kernel_rfl)<|cY (by kernel_rfl)<|cY (by kernel_rfl)<|qG
 str:=cY (⟨by kernel_rfl,Z⟩)<|cY (⟨by kernel_rfl,Z⟩)<|cY (⟨by kernel_rfl,Z⟩)<|cY (⟨by kernel_rfl,Z⟩)<|cY (⟨by kernel_rfl,Z⟩)<|qG
 zer:=cY (⟨by kernel_rfl,by kernel_rfl,Z⟩)<|cY (⟨by kernel_rfl,by kernel_rfl,Z⟩)<|cY (⟨by kernel_rfl,by kernel_rfl,Z⟩)<|cY (⟨by kernel_rfl,by kernel_rfl,Z⟩)<|cY (⟨by kernel_rfl,by kernel_rfl,Z⟩)<|cY (⟨by kernel_rfl,by kernel_rfl,Z⟩)<|cY (⟨by kernel_rfl,by kernel_rfl,Z⟩)<|cY (⟨by kernel_rfl,by kernel_rfl,Z⟩)<|cY (⟨by kernel_rfl,by kernel_rfl,Z⟩)<|cY (⟨by kernel_rfl,by kernel_rfl,Z⟩)<|cY (⟨by kernel_rfl,by kernel_rfl,Z⟩)<|cY (⟨by kernel_rfl,by kernel_rfl,Z⟩)<|qG
theorem aa{w0:World}{G0:Nat->Prop}{ops:Array Oper}{Q:Exit->St->Prop}{n:Nat}{rs:List (Option Row)}(k:Nat){b a:List Oper}{sl sl':List (Nat×Tree)}{bs bs':List (TypeId×List Tree)}(h:GH LYT n k b sl bs=some (a,sl',bs'))(K:AOps w0 G0 ops a Q ⟨n,sl',bs',rs⟩):AOps w0 G0 ops b Q ⟨n,sl,bs,rs⟩:=Bn GJ k h K
theorem aj{w0:World}{G0:Nat->Prop}{id:Nat}{Q:Exit->St->Prop}{n:Nat}{rs:List (Option Row)}(k:Nat){a:List Oper}{sl sl':List (Nat×Tree)}{bs bs':List (TypeId×List Tree)}(h:GH LYT n k a sl bs=some ([],sl',bs'))(K:Q .normal ⟨n,sl',bs',rs⟩):AWP w0 G0 (.region id a.toArray false) Q ⟨n,sl,bs,rs⟩:=ae (aa k h (ag K))
abbrev nI(i:Nat):Tree:=.sc (.int .i64 ((i:Nat):Int))
abbrev bT(b:Bool):Tree:=.sc (.bool b)
abbrev iT(i:Int):Tree:=.sc (.int .i64 i)
abbrev sT(s:ByteArray):Tree:=.sc (.string s)
theorem aF{w0:World}{G0:Nat->Prop}{Q:Exit->St->Prop}{S:St}{c:Operand}{x y:Code}{P:Prop}[Decidable P](d:S.ev c=.sc (.bool (decide P)))(b:P->AWP w0 G0 x Q S)(a:¬P->AWP w0 G0 y Q S):AWP w0 G0 (.cond c x y) Q S:=aH d (fun h=>b (of_decide_eq_true h)) fun h=>a (of_decide_eq_false h)
theorem bu{a:Int}{m:Nat}(h:a=m/\m<9223372036854775808):(Tree.sc (.int .i64 (IntKind.i64.wrap a)))=nI m:=J4 h.1 h.2
end Go.Proofs.YtfoejfohbkmmeaaGreatDoor
