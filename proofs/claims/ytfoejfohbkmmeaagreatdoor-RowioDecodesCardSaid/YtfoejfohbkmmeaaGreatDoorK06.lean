import Derived.Test.YtfoejfohbkmmeaaGreatDoorK05
set_option linter.defProp false
open Go.Proofs.Tryz
namespace Go.Proofs.YtfoejfohbkmmeaaGreatDoor
open Go.RowKit
open Lib renaming hid→J
section
variable {w0:World} {G0:Bse} {ops:Array Oper} {rest:List Oper} {Q:Exit->St->Prop} {o:Oper} {n:Nat} {sl:List (Nat×Tree)} {bs:List (TypeId×List Tree)} {rs:List (Option Row)} {S:St}
def aj{t a:Tree}(h:OpOK o S t)(e:t=a):OpOK o S a:=e▸h
def bW{d:Nat}{t:Tree}(b:o.guard=none)(a:o.dst=some d)(c:Nat.blt d n=true)(h:OpOK o ⟨n,sl,bs,rs⟩ t)(k:AOps w0 G0 ops rest Q ⟨n,(d,t)::sl,bs,rs⟩):AOps w0 G0 ops (o::rest) Q ⟨n,sl,bs,rs⟩:=by
 refine Fi b ?_ h ?_
 ·rw[a];simpa[cF,R5]using c
 rw[a];exact k
def DB{d j s:Nat}{t:Tree}{b:Bool}(C:Prop)[Decidable C](E:o.guard=some (j,b))(F:(ops[j]?).bind (·.dst)=some s)(K:Nat.blt s n=true)(O:∃c,look sl s=.sc c/\(C↔c=.bool b))(D:o.dst=some d)(P:Nat.blt d n=true)(h:C->OpOK o ⟨n,sl,bs,rs⟩ t)
  (k:AOps w0 G0 ops rest Q ⟨n,(d,if C then t else .sc undef)::sl,bs,rs⟩):AOps w0 G0 ops (o::rest) Q ⟨n,sl,bs,rs⟩:=by
 obtain⟨c,I,B⟩:=O;rintro a w ⟨bx,rv,J,f,p,l⟩;have q:cF n o.dst=true:=by rw[D];simpa[cF,R5]using P
 have r:a.tmps.getD s undef=c:=by
  have:=l s;have e:St.get ⟨n,sl,bs,rs⟩ s=.sc c:=I;rw[e]at this;exact this.isSc
 have u:s<a.tmps.size:=by rw[f];simpa[R5]using K
 have M:a.tmps[s]? =some c:=by
  rw[RN u];rw[RU,RN u]at r;exact congrArg some r
 by_cases m:C
 ·have L:Region.wanted o (yielded ops a.tmps)=true:=by
   simp only[Region.wanted,E,yielded,F,Sp,M,B.1 m];cases b<;>rfl
  rw[if_pos m]at k;refine xQ (S:=⟨n,sl,bs,rs⟩) (t:=t) (λA w' G=>?_) q (h m) (by rw[D];exact k) a w ⟨bx,rv,J,f,p,l⟩;obtain⟨N,R,_,z,_,y⟩:=G;have g:A.tmps.getD s undef=c:=by
   have:=y s;have e:St.get ⟨n,sl,bs,rs⟩ s=.sc c:=I;rw[e]at this;exact this.isSc
  have i:s<A.tmps.size:=by rw[z];simpa[R5]using K
  have H:A.tmps[s]? =some c:=by
   rw[RN i];rw[RU,RN i]at g;exact congrArg some g
  simp only[Region.wanted,E,yielded,F,Sp,H,B.1 m];cases b<;>rfl
 have L:Region.wanted o (yielded ops a.tmps)=false:=by
  simp only[Region.wanted,E,yielded,F,Sp,M];cases c with
  |bool x=>cases x<;>cases b<;>first|rfl|exact absurd (B.2 Z) m
  |_=>rfl
 rw[if_neg m]at k;simp only[wpList];rw[if_neg (by rw[L];exact R0)];refine k _ _ ⟨bx,rv,J,by rw[ee];exact f,by rw[df,p],?_⟩;have:=jx (S:=⟨n,sl,bs,rs⟩) (o:=o) (t:=.sc undef) (v:=undef) (rs:=rs) (w':=w) (G0:=G0) f q (λ_ _ h=>h) l (.pure (.sc _ .nil) .nil);rw[D]at this⊢;exact this
def sk{p b:Bool}:∃a,(Tree.sc (.bool p))=.sc a/\((p=b)↔a=.bool b):=⟨_,Z,F⟩
def NN{A:Prop}[Decidable A]{p b:Bool}:∃a,(if A then Tree.sc (.bool p)else .sc undef)=.sc a/\((A/\p=b)↔a=.bool b):=⟨if A then .bool p else undef,by split<;>rfl,by split<;>simp_all [undef]⟩
def ai{d j s:Nat}{t:Tree}{b p:Bool}(e:o.guard=some (j,b))(f:(ops[j]?).bind (·.dst)=some s)(g:look sl s=.sc (.bool p))(c:o.dst=some d)(h:p=b->OpOK o ⟨n,sl,bs,rs⟩ t)(k:AOps w0 G0 ops rest Q ⟨n,(d,if p=b then t else .sc undef)::sl,bs,rs⟩)(a:(Nat.blt s n&&Nat.blt d n)=true:=by rfl):AOps w0 G0 ops (o::rest) Q ⟨n,sl,bs,rs⟩:=by
 rw[Q9]at a;exact DB (p=b) e f a.1 (g▸sk) c a.2 h k
def N:type_of% @ai:=@ai
def cl{A:Prop}[Decidable A]{d j s:Nat}{t:Tree}{b p:Bool}(e:o.guard=some (j,b))(f:(ops[j]?).bind (·.dst)=some s)(g:look sl s=if A then .sc (.bool p)else .sc undef)(c:o.dst=some d)(h:A/\p=b->OpOK o ⟨n,sl,bs,rs⟩ t)(k:AOps w0 G0 ops rest Q ⟨n,(d,if A/\p=b then t else .sc undef)::sl,bs,rs⟩)(a:(Nat.blt s n&&Nat.blt d n)=true:=by rfl):AOps w0 G0 ops (o::rest) Q ⟨n,sl,bs,rs⟩:=by
 rw[Q9]at a;exact DB (A/\p=b) e f a.1 (g▸NN) c a.2 h k
def fJ{c a b:Operand}{x:Bool}{t:Tree}(e:o.op=.pick c a b)(d:S.ev c=.sc (.bool x))(f:x=true->S.ev a=t)(g:x=false->S.ev b=t):OpOK o S t:=by
 cases x with
 |true=>exact oN e d (f Z)
 |false=>exact oN e d (g Z)
def aC{op:BinOp}{d k:TypeId}{x y:Operand}{b c v:Value}(a:o.op=.binOp op d x y k)(i:S.ev x=.sc b)(j:S.ev y=.sc c)(h:∀w,(do eqGuard op d x y b c;binOp op d b c:Sem Value).run prog w=.ok v w):OpOK o S (.sc v):=by
 intro w0 G0 bx rv w T l e;have f:=(bP e i (by rw[a];simp[Op.operands])).isSc;have g:=(bP e j (by rw[a];simp[Op.operands])).isSc;refine aE (v:=v) (W':=w) ?_ ⟨.pure (.sc _ .nil) .nil,Below.refl _ _⟩;simp only[execOp,a,f,g];rw[Sem.run_bind,h w];rfl
def dm{op:UnOp}{f:TypeId}{x:Operand}{b v:Value}(a:o.op=.unOp op f x)(e:S.ev x=.sc b)(h:∀w,(Op.unary op b).run prog w=.ok v w):OpOK o S (.sc v):=by
 intro w0 G0 bx rv w T g d;have c:=(bP d e (by rw[a];simp[Op.operands])).isSc;refine aE (v:=v) (W':=w) ?_ ⟨.pure (.sc _ .nil) .nil,Below.refl _ _⟩;simp only[execOp,a,c];rw[Sem.run_bind,h w];rfl
def bp{b a:TypeId}{x:Operand}{k j:IntKind}{m:Int}{d:TypeDesc}(c:o.op=.convert b a x)(h:prog.underlying b=some d)(g:prog.underlying a=some (.int k))(i:S.ev x=.sc (.int j m)):OpOK o S (.sc (.int k (k.wrap m))):=by
 intro w0 G0 bx rv w T l f;have e:=(bP f i (by rw[c];simp[Op.operands])).isSc;refine aE (v:=.int k (k.wrap m)) (W':=w) ?_ ⟨.pure (.sc _ .nil) .nil,Below.refl _ _⟩;simp[execOp,c,e,convert,run_underlying h,run_underlying g,Conv.intToInt]
def fK{x:Operand}{t:TypeId}{s:ByteArray}(a:o.op=.call {callee:=.builtin .len,args:=#[x],argTypes:=#[t]})(d:prog.underlying t=some .string)(e:S.ev x=.sc (.string s)):OpOK o S (.sc (.int .i64 (s.size:Nat))):=by
 intro w0 G0 bx rv w T f c;have b:=(bP c e (by rw[a];simp[Op.operands,Call.operands])).isSc;refine aE (v:=.int .i64 (s.size:Nat)) (W':=w) ?_ ⟨.pure (.sc _ .nil) .nil,Below.refl _ _⟩;simp[execOp,a,resolve,invoke,builtin,Builtin.len_,b,run_underlying d,goInt]
def eO{x h:Operand}{t:TypeId}{s:ByteArray}{k:IntKind}{i:Int}{j:Nat}{c:UInt8}(f:o.op=.index t x h)(q:prog.underlying t=some .string)(r:S.ev x=.sc (.string s))(n:S.ev h=.sc (.int k i))(p:i=j)(d:s.data.toList[j]? =some c):OpOK o S (.sc (.int .u8 c.toNat)):=by
 intro w0 G0 bx rv w T u g;have l:=(bP g r (by rw[f];simp[Op.operands])).isSc;have m:=(bP g n (by rw[f];simp[Op.operands])).isSc;subst p;have a:j<s.size:=by have:=(Q6.1 d).1;simpa using this
 have e:s[j]? =some c:=by
  rw[getElem?_pos s j a];rw[SC]at d;have b:j<s.data.size:=a;rw[RN b]at d;exact d
 refine aE (v:=.int .u8 c.toNat) (W':=w) ?_ ⟨.pure (.sc _ .nil) .nil,Below.refl _ _⟩;simp[execOp,f,l,m,Instr.index,asIntOf,run_underlying q,e]
def ga{x:Operand}{lo f:Option Operand}{t:TypeId}{l h:Nat}{s:ByteArray}(b:o.op=.slice t x lo f none)(g:prog.underlying t=some .string)(r:S.ev x=.sc (.string s))(c:N9 S lo l)(a:Oa S s.size f h)(q:l<=h)(u:h<=s.size):OpOK o S (.sc (.string (s.extract l h))):=by
 intro w0 G0 bx rv w T z e;have d:=(bP e r (by rw[b];simp[Op.operands])).isSc;refine aE (v:=.string (s.extract l h)) (W':=w) ?_ ⟨.pure (.sc _ .nil) .nil,Below.refl _ _⟩;have n:¬s.size<h:=O
 cases lo with
 |none=>
  obtain rfl:l=0:=c;cases f with
  |none=>
   obtain rfl:h=s.size:=a;simp[execOp,b,d,Instr.sliceAt,Instr.slice,Instr.sliceBounds,run_underlying g]
  |some y=>
   obtain⟨k,j⟩:=a;have i:=(bP e j (by rw[b];simp[Op.operands])).isSc;simp[execOp,b,d,i,Instr.sliceAt,Instr.slice,Instr.sliceBounds,Instr.sliceBound,asIntOf,run_underlying g,n]
 |some x=>
  obtain⟨k,j⟩:=c;have p:=(bP e j (by rw[b];simp[Op.operands])).isSc;cases f with
  |none=>
   obtain rfl:h=s.size:=a;simp[execOp,b,d,p,Instr.sliceAt,Instr.slice,Instr.sliceBounds,Instr.sliceBound,asIntOf,run_underlying g,q]
  |some y=>
   obtain⟨A,m⟩:=a;have i:=(bP e m (by rw[b];simp[Op.operands])).isSc;simp[execOp,b,d,i,p,Instr.sliceAt,Instr.slice,Instr.sliceBounds,Instr.sliceBound,asIntOf,run_underlying g,n,q]
def bG{a:List (Option Nat)}{m i j s:Nat}{b p:Bool}{c:List Oper}{t:Tree}{ts:List Tree}(d:o.guard=some (j,b))(g:a[j]? =some (some s))(f:S.get s=.sc (.bool p))(h:p=b->OpOK o S t)(k:Chain ops a m (i+1) (S.put o.dst (if p=b then t else .sc undef)) c ts)(e:(j !=i&&reach ops m i j&&decide (j<i))=true:=by kernel_rfl):Chain ops a m i S (o::c) ((if p=b then t else .sc undef)::ts):=
 .cnd j b s (p=b) d (by rw[e,g];exact beq_self_eq_true _) (f▸sk) h k
def Pq{A:Prop}[Decidable A]{a:List (Option Nat)}{m i j s:Nat}{b p:Bool}{c:List Oper}{t:Tree}{ts:List Tree}(d:o.guard=some (j,b))(g:a[j]? =some (some s))(f:S.get s=if A then .sc (.bool p)else .sc undef)(h:A/\p=b->OpOK o S t)(k:Chain ops a m (i+1) (S.put o.dst (if A/\p=b then t else .sc undef)) c ts)(e:(j !=i&&reach ops m i j&&decide (j<i))=true:=by kernel_rfl):Chain ops a m i S (o::c) ((if A/\p=b then t else .sc undef)::ts):=
 .cnd j b s (A/\p=b) d (by rw[e,g];exact beq_self_eq_true _) (f▸NN) h k
end
def Od(P:Program)(s:TypeId)(j:Nat):Option Nat:=
 match P.underlying s with
 |some (.struct fs)=>(fs[j]?).bind λf=>if jP P f.type then some f.offset else none
 |_=>none
def Fj{S:St}{o:Oper}{x:Operand}{s:TypeId}{j off:Nat}{cs:List Tree}{t:Tree}(g:o.op=.field s x j)(p:S.ev x=.agg cs)(a:Od prog s j=some off)(n:cs[off]? =some t):OpOK o S t:=by
 intro w0 G0 bx rv w T r m;obtain⟨xs,h,i⟩:=(bP m p (by rw[g];simp[Op.operands])).isAgg;obtain⟨u,k,l⟩:=i.get off t n;unfold Od at a;split at a
 ·next fs hu=>
  cases b:fs[j]? with
  |none=>simp[b]at a
  |some f=>
   simp only[b,Sp]at a;split at a
   ·next hone=>
    injection a with a
    subst a;obtain⟨d,e,q⟩:=zD hone;have c:(isAgg f.type).run prog w=.ok false w:=by
     unfold isAgg;rw[Sem.run_bind,run_underlying e w];cases d<;>simp_all
    refine aE (v:=u) (W':=w) ?_ ⟨l,Below.refl _ _⟩;simp[execOp,g,h,Instr.field,run_underlying hu,b,part,c,asAgg,k]
   cases a
 cases a
section
variable {w0:World} {G0:Bse} {ops:Array Oper} {rest:List Oper} {Q:Exit->St->Prop} {o:Oper} {n:Nat} {sl:List (Nat×Tree)} {bs:List (TypeId×List Tree)} {rs:List (Option Row)} {S:St}
def GB{d b:Nat}{ty:TypeId}{x:Operand}{t:Tree}{cs:List Tree}(l:o.op=.box ty x)(i:o.guard=none)(c:o.dst=some d)(j:Nat.blt d n=true)(m:St.ev ⟨n,sl,bs,rs⟩ x=t)(e:t.oneA=true)(h:t.cells=cs)(f:cs.all Tree.noDig=true)(g:bs.length=b){bs':List (TypeId×List Tree)}(a:bs++[(ty,cs)]=bs')
  (k:AOps w0 G0 ops rest Q ⟨n,(d,.box b 0)::sl,bs',rs⟩):AOps w0 G0 ops (o::rest) Q ⟨n,sl,bs,rs⟩:=by
 subst h g a;refine dA i (Ob (S:=⟨n,sl,bs,rs⟩) l (by rw[c];simpa[cF,R5]using j) m e f) ?_;rw[c];exact k
def AZ{d b:Nat}{ty:TypeId}{c:List Value}{cs:List Tree}(l:o.op=.alloc ty)(i:o.guard=none)(e:o.dst=some d)(j:Nat.blt d n=true)(m:ij prog ty=some c)(f:c.all bR=true)(h:c.map eg=cs)(g:bs.length=b){bs':List (TypeId×List Tree)}(a:bs++[(ty,cs)]=bs')
  (k:AOps w0 G0 ops rest Q ⟨n,(d,.box b 0)::sl,bs',rs⟩):AOps w0 G0 ops (o::rest) Q ⟨n,sl,bs,rs⟩:=by
 subst h g a;refine dA i (uB (S:=⟨n,sl,bs,rs⟩) l (by rw[e];simpa[cF,R5]using j) m f) ?_;rw[e];exact k
def A5{ty e:TypeId}{x y:Operand}{b off m:Nat}{cs:List Tree}{t:Tree}(p:o.op=.store ty x y)(j:o.guard=none)(a:o.dst=none)(s:St.ev ⟨n,sl,bs,rs⟩ x=.box b off)(i:bs[b]? =some (e,cs))(r:St.ev ⟨n,sl,bs,rs⟩ y=t)(f:t.oneA=true)(g:t.cells.all Tree.one=true)(h:t.cells.all Tree.noDig=true)(q:(prog.info? ty).map (·.size)=some m)(l:t.cells.length=m)(d:Nat.ble (off+m) cs.length=true){bs':List (TypeId×List Tree)}(c:bs.set b (e,I9 cs off t)=bs')
  (k:AOps w0 G0 ops rest Q ⟨n,sl,bs',rs⟩):AOps w0 G0 ops (o::rest) Q ⟨n,sl,bs,rs⟩:=by
 subst c;exact dA j (mR (S:=⟨n,sl,bs,rs⟩) p a s i r f g h q l (by simpa using d)) k
def a7{d k m b:Nat}{x y:Operand}{t:TypeId}{R:Row}{a:List Tree}(w:o.op=.call {callee:=.builtin .append,args:=#[x,y],argTypes:=#[t,t]})(s:o.guard=none)(h:o.dst=some d)(v:Nat.blt d n=true)(A:kI prog t=some (R.e,R.sz,b))(B:St.ev ⟨n,sl,bs,rs⟩ x=.own k)(r:rs[k]? =some (some R))(C:St.ev ⟨n,sl,bs,rs⟩ y=.sl a)(u:R.sz=m)(z:Sized m a)(i:AllC Tree.one a)(j:AllC Tree.noDig a)(l:R.es.length+a.length<=1073741824)(q:Nat.ble b 100000=true){sl':List (Nat×Tree)}{bs':List (TypeId×List Tree)}{rs':List (Option Row)}(g:sl.map (λp=>(p.1,fk k p.2))=sl')(c:bs.map (λp=>(p.1,p.2.map (iH k)))=bs')(f:rs.set k (some ⟨R.e,R.sz,R.es++a,false⟩)=rs')
  (K:AOps w0 G0 ops rest Q ⟨n,(d,.own k)::sl',bs',rs'⟩):AOps w0 G0 ops (o::rest) Q ⟨n,sl,bs,rs⟩:=by
 subst u g c f;refine dA s (xS (S:=⟨n,sl,bs,rs⟩) w (by rw[h];simpa[cF,R5]using v) A B r C z i j l (by simpa using q)) ?_;rw[h];exact K
def j3:List (Nat×Tree)->List (Option Nat)->List Tree->List (Nat×Tree)
 |sl,some d::ds,t::ts=>j3 ((d,t)::sl) ds ts
 |sl,none::ds,_::ts=>j3 sl ds ts
 |sl,_,_=>sl
def mc(n:Nat)(bs:List (TypeId×List Tree))(rs:List (Option Row)):∀(a:List (Option Nat)) (ts:List Tree) (sl:List (Nat×Tree)),gm ⟨n,sl,bs,rs⟩ a ts=⟨n,j3 sl a ts,bs,rs⟩
 |[],_,sl=>by cases sl<;>rfl
 |some d::a,[],sl=>rfl
 |none::a,[],sl=>rfl
 |some d::a,t::ts,sl=>mc n bs rs a ts _
 |none::a,t::ts,sl=>mc n bs rs a ts _
def cB{id fu:Nat}{ops:List Oper}(a:List (Option Nat))(ts:List Tree){sl':List (Nat×Tree)}(c:fY ops.toArray=true)(g:ops.map (·.dst)=a)(d:cD n a=true)(b:n9 ops.toArray a fu=true)(f:j3 sl a ts=sl')(e:Chain ops.toArray a fu 0 ⟨n,sl,bs,rs⟩ ops ts)(k:Q .normal ⟨n,sl',bs,rs⟩):AWP w0 G0 (.region id ops.toArray true) Q ⟨n,sl,bs,rs⟩:=
 Jd c g d b e (by rw[mc,f];exact k)
def dq{id fu:Nat}{ops:List Oper}{c:Oper}(a:List (Option Nat))(ts:List Tree){sl':List (Nat×Tree)}{ty u:TypeId}{x y:Operand}{b off m:Nat}{cs:List Tree}{t:Tree}{bs':List (TypeId×List Tree)}(g:fY (ops++[c]).toArray=true)(B:ops.map (·.dst)=a)(f:c.dst=none)(p:c.guard=none)(r:(ops.all λo=>o.guard.isNone)=true)(h:cD n (a++[none])=true)(e:n9 (ops++[c]).toArray (a++[none]) fu=true)(d:(List.range ops.length).all (λi=>reach (ops++[c]).toArray ops.length ops.length i)=true)(s:j3 sl a ts=sl')
  (D:c.op=.store ty x y) (G:St.ev ⟨n,sl',bs,rs⟩ x=.box b off) (A:bs[b]? =some (u,cs)) (F:St.ev ⟨n,sl',bs,rs⟩ y=t) (v:t.oneA=true) (w:t.cells.all Tree.one=true) (z:t.cells.all Tree.noDig=true) (E:(prog.info? ty).map (·.size)=some m) (C:t.cells.length=m) (q:Nat.ble (off+m) cs.length=true) (j:bs.set b (u,I9 cs off t)=bs')
  (l:Chain (ops++[c]).toArray (a++[none]) fu 0 ⟨n,sl,bs,rs⟩ ops ts) (k:Q .normal ⟨n,sl',bs',rs⟩):AWP w0 G0 (.region id (ops++[c]).toArray true) Q ⟨n,sl,bs,rs⟩:=by
 subst s j;refine zG g B f p r h e d l ?_ k;rw[mc];exact mR (S:=⟨n,j3 sl a ts,bs,rs⟩) D f G A F v w z E C (by simpa using q)
structure Le (S S':St) (m k:Nat):Prop where
 n:S'.n=S.n
 bs:S'.bs=S.bs.take m
 rs:S'.rs=S.rs.take k
 sl:Keeps S m k S'.sl
 ok:(S'.bs.all λp=>p.2.all (within0 m k))=true
def Sim.le{S':St}{m k:Nat}{a:Act}{w:World}(h:Sim w0 G0 S a w)(i:Le S S' m k)(b:G0.pn<=m:=by first|exact Rg _|exact Nat.le_of_ble_eq_true Z):Sim w0 G0 S' a w:=by
 obtain⟨d,c,e,f,g⟩:=i;have:=h.less m k S'.sl f (by rw[<-c];exact g) b;rw[<-d,<-c,<-e]at this;exact this
def Je{c:Code}{S':St}(m k:Nat)(d:Le S S' m k)(h:AWP w0 G0 c Q S')(b:G0.pn<=m:=by first|exact Rg _|exact Nat.le_of_ble_eq_true Z):AWP w0 G0 c Q S:=λa w e=>h a w (e.le d b)
def aT{c:Code}(I:Nat->St->Prop){j:Nat}{f:St}(m k:Nat)(o:I j f)(g:Le S f m k)(b:∀n S,I n S->AWP w0 G0 c (xT (λS'=>∃d a,d<n/\I d a/\Le S' a m k) Q) S)(i:G0.pn<=m:=by first|exact Rg _|exact Nat.le_of_ble_eq_true Z):AWP w0 G0 (.loop c) Q S:=by
 refine Jc (λn S=>∃a,I n a/\Le S a m k) j ⟨f,o,g⟩ ?_;rintro n S ⟨a,s,t⟩;refine Je m k t ((b n a s).mono ?_) i;intro e S' h;cases e with
 |normal=>
  obtain⟨d,l,p,q,r⟩:=h;exact⟨d,p,l,q,r⟩
 |_=>exact h
def oc{x y:Code}{b:Exit->St->Prop}(c:St)(m k:Nat)(h:AWP w0 G0 x (xT (λS'=>Le S' c m k) b) S)(f:AWP w0 G0 y Q c)(a:G0.pn<=m:=by first|exact Rg _|exact Nat.le_of_ble_eq_true Z):AWP w0 G0 x (xT (AWP w0 G0 y Q) b) S:=h.mono λe S' d=>by
 cases e with
 |normal=>exact Je m k d f a
 |_=>exact d
end
def pC{a:Int}{m:Nat}(h:a=m)(b:m<9223372036854775808):(Tree.sc (.int .i64 (IntKind.i64.wrap a)))=.sc (.int .i64 (m:Nat)):=by
 subst h;congr 2;rw[RZ];omega
def tX{c:TypeId}{x y:Operand}{a b:ByteArray}{w:World}(h:a.size+b.size<=4611686018427387904):(do eqGuard .add c x y (.string a) (.string b);binOp .add c (.string a) (.string b):Sem Value).run prog w=.ok (.string (a++b)) w:=by
 simp[eqGuard,binOp,Op.stringOp];omega
def dN{α:Type}{a b:α}{l m:List α}(h:a=b)(c:l=m):a::l=b::m:=by rw[h,c]
def ej{k:IntKind}{a b:Int}(h:a=b):(Tree.sc (.int k a))=.sc (.int k b):=by rw[h]
def aF{p q:Bool}(h:p=q):(Tree.sc (.bool p))=.sc (.bool q):=by rw[h]
def B:type_of% @aF:=@aF
def gF(a b:Nat):decide ((a:Int)<(b:Int))=decide (a<b):=decide_eq_decide.2 O
def IX(a b:Nat):decide ((a:Int)<=(b:Int))=decide (a<=b):=decide_eq_decide.2 O
def nZ(a b:Nat):decide ((a:Int)>(b:Int))=decide (b<a):=decide_eq_decide.2 O
def GC(a b:Nat):decide ((a:Int)≥(b:Int))=decide (b<=a):=decide_eq_decide.2 O
def gL(a b:Nat):((a:Int)==(b:Int))=decide (a=b):=by
 rw[TE,beq_iff_eq,decide_eq_true_eq];omega
def od(a b:Nat):((a:Int) !=(b:Int))=decide (a≠b):=by
 rw[TE,bne_iff_ne,decide_eq_true_eq];omega
structure LayT where
 agg:List (Nat×Nat)
 one:List (Nat×Bool)
 fld:List (Nat×List (Nat×Nat))
 siz:List (Nat×Nat)
 str:List (Nat×List (Nat×Nat)×List Value×List Tree)
 zer:List (Nat×List Value×List Tree)
structure LayT.OK (L:LayT):Prop where
 agg:∀t n,(t,n)∈L.agg->sf prog t=some n
 one:∀t b,(t,b)∈L.one->jP prog t=true
 fld:∀t l,(t,l)∈L.fld->∀j n,(j,n)∈l->jy prog t j=some n
 siz:∀t n,(t,n)∈L.siz->(prog.info? t).map (·.size)=some n
 str:∀t z,(t,z)∈L.str->si prog t=some (z.1,z.2.1)/\z.2.1.map eg=z.2.2
 zer:∀t z,(t,z)∈L.zer->ij prog t=some z.1/\z.1.all bR=true/\z.1.map eg=z.2
def sm{α β:Type}{P:α->β->Prop}:∀t n,(t,n)∈([]:List (α×β))->P t n:=λ_ _ h=>by cases h
def dn{α β:Type}{P:α->β->Prop}{l:List (α×β)}{a:α}{b:β}(h:P a b)(d:∀t n,(t,n)∈l->P t n):∀t n,(t,n)∈(a,b)::l->P t n:=by
 intro t n c;rcases Ri.1 c with e|e
 ·cases e;exact h
 exact d t n e
section
variable {γ α β:Type}
def xq:List (Nat×α)->Nat->(α->Option γ)->Option γ
 |[],_,_=>none
 |(i,a)::l,j,k=>cond (Nat.beq i j) (k a) (xq l j k)
def jA{k:α->Option γ}{r:γ}{j:Nat}:∀{l:List (Nat×α)},xq l j k=some r->∃a,(j,a)∈l/\k a=some r
 |[],h=>by cases h
 |(i,a)::l,h=>by
  simp only[xq]at h;cases c:Nat.beq i j with
  |true=>
   rw[c]at h;cases Tz c;exact⟨a,Rw ..,h⟩
  |false=>
   rw[c]at h;obtain⟨b,d,e⟩:=jA (l:=l) h;exact⟨b,RD _ d,e⟩
def A6{k:Tree->Option γ}{r:γ}{j:Nat}:∀{l:List (Nat×Tree)},xq l j k=some r->k (look l j)=some r
 |[],h=>by cases h
 |(i,a)::l,h=>by
  simp only[xq]at h;simp only[look];cases b:Nat.beq i j with
  |true=>rw[b]at h;exact h
  |false=>rw[b]at h;exact A6 (l:=l) h
def GD(sl:List (Nat×Tree))(x:Operand)(k:Tree->Option γ):Option γ:=
 match x with
 | .tmp s=>xq sl s k
 | .const v=>k (.sc v)
 |_=>none
def zH{n:Nat}{sl:List (Nat×Tree)}{bs:List (TypeId×List Tree)}{rs:List (Option Row)}{x:Operand}{k:Tree->Option γ}{r:γ}(h:GD sl x k=some r):k (St.ev ⟨n,sl,bs,rs⟩ x)=some r:=by
 cases x with
 |tmp s=>exact A6 h
 |const v=>exact h
 |_=>cases h
def zI:List α->Nat->(α->Option γ)->Option γ
 |[],_,_=>none
 |a::_,0,k=>k a
 |_::l,n+1,k=>zI l n k
def lq{k:α->Option γ}{r:γ}:∀{l:List α} {n:Nat},zI l n k=some r->∃a,l[n]? =some a/\k a=some r
 |[],_,h=>by cases h
 |a::_,0,h=>⟨a,Z,h⟩
 |_::l,n+1,h=>by simpa using lq (l:=l) (n:=n) h
def Oe:List α->Nat->α->(List α->Option γ)->Option γ
 |[],_,_,_=>none
 |_::l,0,v,k=>k (v::l)
 |a::l,n+1,v,k=>Oe l n v λl'=>k (a::l')
def Fk{r:γ}{v:α}:∀{l:List α} {n:Nat} {k:List α->Option γ},Oe l n v k=some r->k (l.set n v)=some r
 |[],_,_,h=>by cases h
 |_::_,0,_,h=>h
 |_::l,n+1,k,h=>Fk (l:=l) (n:=n) h
def Me:List α->α->(List α->Option γ)->Option γ
 |[],v,k=>k [v]
 |a::l,v,k=>Me l v λl'=>k (a::l')
def zJ{r:γ}{v:α}:∀{l:List α} {k:List α->Option γ},Me l v k=some r->k (l++[v])=some r
 |[],_,h=>h
 |_::l,_,h=>zJ (l:=l) h
def Fl:List α->Nat->(List α->Option γ)->Option γ
 |l,0,k=>k l
 |[],_+1,_=>none
 |_::l,n+1,k=>Fl l n k
def qz{r:γ}{k:List α->Option γ}:∀{n:Nat} {l:List α},Fl l n k=some r->n<=l.length/\k (l.drop n)=some r
 |0,l,h=>by cases l<;>exact⟨Rg _,h⟩
 |n+1,[],h=>by cases h
 |n+1,_::l,h=>⟨Nat.succ_le_succ (qz (n:=n) (l:=l) h).1,(qz (n:=n) (l:=l) h).2⟩
def Fm:List α->Nat->(List α->Option γ)->Option γ
 |_,0,k=>k []
 |[],_+1,_=>none
 |a::l,n+1,k=>Fm l n λl'=>k (a::l')
def qA{r:γ}:∀{n:Nat} {l:List α} {k:List α->Option γ},Fm l n k=some r->n<=l.length/\k (l.take n)=some r
 |0,l,_,h=>by cases l<;>exact⟨Rg _,h⟩
 |n+1,[],_,h=>by cases h
 |n+1,a::l,k,h=>⟨Nat.succ_le_succ (qA (n:=n) (l:=l) h).1,(qA (n:=n) (l:=l) h).2⟩
def Jf:List α->Nat->List α->(List α->Option γ)->Option γ
 |l,0,[],k=>k l
 |_::l,0,v::vs,k=>Jf l 0 vs λl'=>k (v::l')
 |a::l,n+1,vs,k=>Jf l n vs λl'=>k (a::l')
 |_,_,_,_=>none
def tY{r:γ}:∀{l:List α} {n:Nat} {vs:List α} {k:List α->Option γ},Jf l n vs k=some r->n+vs.length<=l.length/\k (l.take n++vs++l.drop (n+vs.length))=some r
 |[],0,[],_,h=>⟨Q3 _,h⟩
 |_::_,0,[],_,h=>⟨Rg _,h⟩
 |_::l,0,v::vs,k,h=>by
  obtain⟨c,b⟩:=tY (l:=l) (n:=0) (vs:=vs) h;refine⟨by simp only[Q5]at*;omega,?_⟩;simp only[Ud,Sc,Q5,R4]at b⊢;exact b
 |a::l,n+1,vs,k,h=>by
  obtain⟨c,b⟩:=tY (l:=l) (n:=n) (vs:=vs) h;refine⟨by simp only[Q5];omega,?_⟩;rw[show n+1+vs.length=(n+vs.length)+1 by omega];exact b
 |[],0,_::_,_,h=>by cases h
 |[],_+1,_,_,h=>by cases h
def GE:List Nat:=[0,1,2,3,4,5,6,7,8,9,10,11,12,13,14,15,16,17,18,19,20,21,22,23]
def zK{i a:Nat}(h:GE[i]? =some a):a=i:=by
 have:∀j:Fin 24,GE[j.1]? =some j.1:=I
 by_cases b:i<24
 ·have:=this ⟨i,b⟩;simp only at this;rw[this]at h;exact(Sw h).symm
 rw[R8 (by simp only[GE,Q5,Ra];omega)]at h;cases h
def Pr(n:Nat)(k:Nat->Option γ):Option γ:=zI GE n k
def Mf{n:Nat}{k:Nat->Option γ}{r:γ}(h:Pr n k=some r):k n=some r:=by
 obtain⟨a,c,b⟩:=lq h;rw[zK c]at b;exact b
def Mg:List α->List Nat->(Nat->Option γ)->Option γ
 |[],b::_,k=>k b
 |_::l,_::m,k=>Mg l m k
 |_,[],_=>none
def zL{k:Nat->Option γ}{r:γ}:∀{l:List α} {m:List Nat},Mg l m k=some r->∃b,m[l.length]? =some b/\k b=some r
 |[],b::_,h=>⟨b,Z,h⟩
 |_::l,_::m,h=>by simpa using zL (l:=l) (m:=m) h
 |[],[],h=>by cases h
 |_::_,[],h=>by cases h
def Of(b:Bool)(x:Option γ):Option γ:=cond b x none
def pS{b:Bool}{x:Option γ}{r:γ}(h:Of b x=some r):b=true/\x=some r:=by
 cases b with
 |true=>exact⟨Z,h⟩
 |false=>cases h
def Og(sl:List (Nat×Tree))(pl:List (Nat×Nat)):List (Nat×Operand)->List Tree->(List Tree->Option γ)->Option γ
 |[],cs,k=>k cs
 |(i,x)::ps,cs,k=>GD sl x λt=>Of t.oneA (zI pl i λp=>Of (Nat.beq t.cells.length p.2) (Jf cs p.1 t.cells λcs'=>Og sl pl ps cs' k))
def Fn{n:Nat}{sl:List (Nat×Tree)}{bs:List (TypeId×List Tree)}{rs:List (Option Row)}{d:List (Nat×Nat)}{r:γ}{k:List Tree->Option γ}:∀{ps:List (Nat×Operand)} {cs:List Tree},Og sl d ps cs k=some r->∃a,qn (d[·]?) cs (ps.map λp=>(p.1,St.ev ⟨n,sl,bs,rs⟩ p.2))=some a/\((ps.map λp=>(p.1,St.ev ⟨n,sl,bs,rs⟩ p.2)).all λq=>q.2.oneA)=true/\k a=some r
 |[],cs,h=>⟨cs,Z,Z,h⟩
 |(i,x)::ps,cs,h=>by
  obtain⟨e,f⟩:=pS (zH (n:=n) (bs:=bs) (rs:=rs) h);obtain⟨p,g,j⟩:=lq f;obtain⟨l,m⟩:=pS j;obtain⟨t,o⟩:=tY m;obtain⟨a,s,b,c⟩:=Fn (n:=n) (bs:=bs) (rs:=rs) o;refine⟨a,?_,?_,c⟩
  ·simp only[Sb,qn,g];rw[if_neg (by rw[<-Tz l];omega)];exact s
  simp only[Sb,SJ,e,b,Vs]
def pT(n:Nat)(d:Option Nat)(k:Nat->Option γ):Option γ:=
 match d with
 |some d=>Of (Nat.blt d n) (k d)
 |none=>none
def gM{n:Nat}{d:Option Nat}{k:Nat->Option γ}{r:γ}(h:pT n d k=some r):∃e,d=some e/\Nat.blt e n=true/\k e=some r:=by
 cases d with
 |some e=>exact⟨e,Z,(pS h).1,(pS h).2⟩
 |none=>cases h
def Qu(L:LayT)(n:Nat)(sl:List (Nat×Tree))(bs:List (TypeId×List Tree))(o:Oper)(k:List (Nat×Tree)->List (TypeId×List Tree)->Option γ):Option γ:=
 match o.guard with
 |some _=>none
 |none=>match o.op with
  | .move x=>GD sl x λt=>pT n o.dst λd=>k ((d,t)::sl) bs
  | .assign x=>GD sl x λt=>pT n o.dst λd=>k ((d,t)::sl) bs
  | .extract x j=>GD sl x λt=>match t with
   | .tup ts=>zI ts j λt=>pT n o.dst λd=>k ((d,t)::sl) bs
   |_=>none
  | .fieldAddr s x j=>GD sl x λt=>match t with
   | .box b off=>xq L.fld s λfs=>xq fs j λfo=>Pr (off+fo) λm=>pT n o.dst λd=>k ((d,.box b m)::sl) bs
   | .elp b off=>xq L.fld s λfs=>xq fs j λfo=>pT n o.dst λd=>k ((d,.elp b (off+fo))::sl) bs
   | .ref cs=>xq L.fld s λfs=>xq fs j λfo=>Fl cs fo λcs'=>pT n o.dst λd=>k ((d,.ref cs')::sl) bs
   |_=>none
  | .load t x=>GD sl x λa=>match a with
   | .box b off=>zI bs b λp=>match xq L.one t some with
    |some _=>zI p.2 off λc=>pT n o.dst λd=>k ((d,c)::sl) bs
    |none=>xq L.agg t λm=>Fl p.2 off λcs=>Fm cs m λcs'=>pT n o.dst λd=>k ((d,.agg cs')::sl) bs
   | .ref cs=>match xq L.one t some with
    |some _=>zI cs 0 λc=>pT n o.dst λd=>k ((d,c)::sl) bs
    |none=>xq L.agg t λm=>Fm cs m λcs'=>pT n o.dst λd=>k ((d,.agg cs')::sl) bs
   |_=>none
  | .store ty x y=>match o.dst with
   |some _=>none
   |none=>GD sl x λa=>match a with
    | .box b off=>zI bs b λp=>GD sl y λt=>Of (t.oneA&&t.cells.all Tree.one&&t.cells.all Tree.noDig) (xq L.siz ty λm=>Of (Nat.beq t.cells.length m) (Jf p.2 off t.cells λcs=>Oe bs b (p.1,cs) λbs'=>k sl bs'))
    |_=>none
  | .alloc ty=>xq L.zer ty λz=>Mg bs GE λb=>Me bs (ty,z.2) λbs'=>pT n o.dst λd=>k ((d,.box b 0)::sl) bs'
  | .box ty x=>GD sl x λt=>Of (t.oneA&&t.cells.all Tree.noDig) (Mg bs GE λb=>Me bs (ty,t.cells) λbs'=>pT n o.dst λd=>k ((d,.box b 0)::sl) bs')
  | .build ty ps=>xq L.str ty λz=>Og sl z.1 ps.toList z.2.2 λcs=>pT n o.dst λd=>k ((d,.agg cs)::sl) bs
  |_=>none
def QA(n:Nat)(sl:List (Nat×Tree))(bs:List (TypeId×List Tree))(o:Oper)(sl':List (Nat×Tree))(bs':List (TypeId×List Tree)):Prop:=∀(w0:World) (G0:Bse) (ops:Array Oper) (rest:List Oper) (Q:Exit->St->Prop) (rs:List (Option Row)),AOps w0 G0 ops rest Q ⟨n,sl',bs',rs⟩->AOps w0 G0 ops (o::rest) Q ⟨n,sl,bs,rs⟩
def lr{n:Nat}{sl:List (Nat×Tree)}{bs:List (TypeId×List Tree)}{rs rs':List (Option Row)}{x:Operand}:St.ev ⟨n,sl,bs,rs⟩ x=St.ev ⟨n,sl,bs,rs'⟩ x:=by cases x<;>rfl
def Jg{L:LayT}(H:L.OK){n:Nat}{sl:List (Nat×Tree)}{bs:List (TypeId×List Tree)}{o:Oper}{k:List (Nat×Tree)->List (TypeId×List Tree)->Option γ}{r:γ}(h:Qu L n sl bs o k=some r):∃sl' bs',QA n sl bs o sl' bs'/\k sl' bs'=some r:=by
 have E:∀{x:Operand} {k:Tree->Option γ},GD sl x k=some r->∀rs,k (St.ev ⟨n,sl,bs,rs⟩ x)=some r:=λh rs=>zH h
 unfold Qu at h;cases F:o.guard with
 |some g=>rw[F]at h;cases h
 |none=>
  rw[F]at h;simp only at h;cases w:o.op with
  |move x=>
   rw[w]at h;obtain⟨d,l,v,q⟩:=gM (E h []);refine⟨_,_,?_,q⟩;exact λw0 G0 ops f Q rs K=>bW F l v (au w lr) K
  |assign x=>
   rw[w]at h;obtain⟨d,l,v,q⟩:=gM (E h []);refine⟨_,_,?_,q⟩;exact λw0 G0 ops f Q rs K=>bW F l v (bN w lr) K
  |extract x j=>
   rw[w]at h;have i:=E h [];cases A:St.ev ⟨n,sl,bs,[]⟩ x with
   |tup ts=>
    rw[A]at i;obtain⟨t,D,B⟩:=lq i;obtain⟨d,l,v,q⟩:=gM B;refine⟨_,_,?_,q⟩;exact λw0 G0 ops f Q rs K=>bW F l v (eN w (lr.trans A) D) K
   |_=>rw[A]at i;cases i
  |fieldAddr s x j=>
   rw[w]at h;have i:=E h [];cases A:St.ev ⟨n,sl,bs,[]⟩ x with
   |box b off=>
    rw[A]at i;obtain⟨V,G,D⟩:=jA i;obtain⟨fo,P,B⟩:=jA D;obtain⟨d,l,v,q⟩:=gM (Mf B);refine⟨_,_,?_,q⟩;exact λw0 G0 ops f Q rs K=>bW F l v (aq w (lr.trans A) (H.fld _ _ G _ _ P) Z) K
   |elp b off=>
    rw[A]at i;obtain⟨V,G,D⟩:=jA i;obtain⟨fo,P,B⟩:=jA D;obtain⟨d,l,v,q⟩:=gM B;refine⟨_,_,?_,q⟩;exact λw0 G0 ops f Q rs K=>bW F l v (zE w (lr.trans A) (H.fld _ _ G _ _ P) Z) K
   |ref cs=>
    rw[A]at i;obtain⟨V,G,D⟩:=jA i;obtain⟨fo,P,B⟩:=jA D;obtain⟨_,C⟩:=qz B;obtain⟨d,l,v,q⟩:=gM C;refine⟨_,_,?_,q⟩;exact λw0 G0 ops f Q rs K=>bW F l v (bL w (lr.trans A) (H.fld _ _ G _ _ P) Z) K
   |_=>rw[A]at i;cases i
  |load t x=>
   rw[w]at h;have i:=E h [];have O:∀{u},xq L.one t some=some u->jP prog t=true:=λI=>by
    obtain⟨a,m,_⟩:=jA I;exact H.one _ _ m
   cases A:St.ev ⟨n,sl,bs,[]⟩ x with
   |box b off=>
    rw[A]at i;obtain⟨p,D,B⟩:=lq i;cases I:xq L.one t some with
    |some u=>
     rw[I]at B;obtain⟨c,C,J⟩:=lq B;obtain⟨d,l,v,q⟩:=gM J;refine⟨_,_,?_,q⟩;exact λw0 G0 ops f Q rs K=>bW F l v (av w (lr.trans A) D (O I) C) K
    |none=>
     rw[I]at B;obtain⟨m,G,C⟩:=jA B;obtain⟨J,S⟩:=qz C;obtain⟨M,N⟩:=qA S;obtain⟨d,l,v,q⟩:=gM N;rw[Rm]at M;refine⟨_,_,?_,q⟩;exact λw0 G0 ops f Q rs K=>bW F l v (aN w (lr.trans A) D (H.agg _ _ G) (by rw[VU];show off+m<=p.2.length;omega) Z) K
   |ref cs=>
    rw[A]at i;cases I:xq L.one t some with
    |some u=>
     simp only[I]at i;obtain⟨c,C,J⟩:=lq i;obtain⟨d,l,v,q⟩:=gM J;refine⟨_,_,?_,q⟩;exact λw0 G0 ops f Q rs K=>bW F l v (bi w (lr.trans A) (O I) C) K
    |none=>
     simp only[I]at i;obtain⟨m,G,C⟩:=jA i;obtain⟨M,N⟩:=qA C;obtain⟨d,l,v,q⟩:=gM N;refine⟨_,_,?_,q⟩;exact λw0 G0 ops f Q rs K=>bW F l v (dt w (lr.trans A) (H.agg _ _ G) (by rw[VU];exact M) Z) K
   |_=>rw[A]at i;cases i
  |store ty x y=>
   rw[w]at h;cases l:o.dst with
   |some d=>rw[l]at h;cases h
   |none=>
    rw[l]at h;have i:=E h [];cases A:St.ev ⟨n,sl,bs,[]⟩ x with
    |box b off=>
     rw[A]at i;obtain⟨p,D,B⟩:=lq i;obtain⟨C,J⟩:=pS (E B []);obtain⟨m,G,S⟩:=jA J;obtain⟨M,N⟩:=pS S;obtain⟨W,R⟩:=tY N;have q:=Fk R;simp only[Q9]at C;have e:=Tz M;refine⟨_,_,?_,q⟩;exact λw0 G0 ops f Q rs K=>A5 w F l (lr.trans A) D lr C.1.1 C.1.2 C.2 (H.siz _ _ G) e (by rw[VU];show off+m<=p.2.length;rw[<-e];exact W) Z K
    |_=>rw[A]at i;cases i
  |alloc ty=>
   rw[w]at h;obtain⟨z,G,D⟩:=jA h;obtain⟨b,B,C⟩:=zL D;obtain⟨d,l,v,q⟩:=gM (zJ C);obtain⟨T,U,X⟩:=H.zer _ _ G;refine⟨_,_,?_,q⟩;exact λw0 G0 ops f Q rs K=>AZ w F l v T U X (zK B).symm Z K
  |box ty x=>
   rw[w]at h;obtain⟨i,D⟩:=pS (E h []);obtain⟨b,B,C⟩:=zL D;obtain⟨d,l,v,q⟩:=gM (zJ C);simp only[Q9]at i;refine⟨_,_,?_,q⟩;exact λw0 G0 ops f Q rs K=>GB w F l v lr i.1 Z i.2 (zK B).symm Z K
  |build ty ps=>
   rw[w]at h;obtain⟨z,G,D⟩:=jA h;obtain⟨cs,B,C,J⟩:=Fn (n:=n) (bs:=bs) (rs:=[]) D;obtain⟨d,l,v,q⟩:=gM J;obtain⟨T,U⟩:=H.str _ _ G;refine⟨_,_,?_,q⟩;exact λw0 G0 ops f Q rs K=>bW F l v (f5 w T (SV λp _=>congrArg (Prod.mk p.1) lr) C (by rw[U];exact B)) K
  |_=>rw[w]at h;cases h
end
def GF(L:LayT)(n:Nat):Nat->List Oper->List (Nat×Tree)->List (TypeId×List Tree)->Option (List Oper×List (Nat×Tree)×List (TypeId×List Tree))
 |0,os,sl,bs=>some (os,sl,bs)
 |k+1,o::os,sl,bs=>Qu L n sl bs o λsl' bs'=>GF L n k os sl' bs'
 |_+1,[],_,_=>none
def Fo{L:LayT}(c:L.OK){w0:World}{G0:Bse}{ops:Array Oper}{Q:Exit->St->Prop}{n:Nat}{rs:List (Option Row)}:∀(k:Nat) {b a:List Oper} {sl sl':List (Nat×Tree)} {bs bs':List (TypeId×List Tree)},GF L n k b sl bs=some (a,sl',bs')->AOps w0 G0 ops a Q ⟨n,sl',bs',rs⟩->AOps w0 G0 ops b Q ⟨n,sl,bs,rs⟩
 |0,_,_,_,_,_,_,h,K=>by cases h;exact K
 |k+1,[],_,_,_,_,_,h,_=>by cases h
 |k+1,o::b,_,_,_,_,_,h,K=>by
  obtain⟨g,d,e,f⟩:=Jg c h;exact e _ _ _ _ _ _ (Fo c k f K)
def zM:LayT where
 agg:=[(26,3),(30,4),(58,3),(65,3),(67,4),(77,3)]
 one:=[(2,true),(3,true),(4,true),(5,true),(9,true),(22,true),(23,true),(24,true),(28,true),(31,true),(50,true),(61,true),(63,true)]
 fld:=[(26,[(0,0),(1,1),(2,2)]),(30,[(0,0),(1,3)]),(58,[(0,0),(1,1),(2,2)]),(65,[(0,0),(1,1),(2,2)]),(67,[(0,0),(1,1)]),(77,[(0,0),(1,1),(2,2)]),(184,[(0,0),(1,1)])]
 siz:=[(4,1),(5,1),(9,1),(22,1),(23,1),(24,1),(26,3),(28,1),(30,4),(31,1),(58,3),(61,1),(65,3),(67,4),(77,3)]
 str:=[(26,[(0,1),(1,1),(2,1)],[.string (⟨#[]⟩),.bool false,.slice none 0 0],[.sc (.string (⟨#[]⟩)),.sc (.bool false),.sl []]),(30,[(0,3),(3,1)],[.string (⟨#[]⟩),.bool false,.slice none 0 0,.slice none 0 0],[.sc (.string (⟨#[]⟩)),.sc (.bool false),.sl [],.sl []]),(58,[(0,1),(1,1),(2,1)],[.string (⟨#[]⟩),.int .i64 0,.bool false],[.sc (.string (⟨#[]⟩)),.sc (.int .i64 0),.sc (.bool false)]),(65,[(0,1),(1,1),(2,1)],[.bool false,.slice none 0 0,.slice none 0 0],[.sc (.bool false),.sl [],.sl []]),(67,[(0,1),(1,3)],[.slice none 0 0,.bool false,.slice none 0 0,.slice none 0 0],[.sl [],.sc (.bool false),.sl [],.sl []]),(184,[(0,1),(1,1)],[.slice none 0 0,.int .i64 0],[.sl [],.sc (.int .i64 0)])]
 zer:=[(2,[.int .i64 0],[.sc (.int .i64 0)]),(3,[.int .i64 0],[.sc (.int .i64 0)]),(5,[.int .u8 0],[.sc (.int .u8 0)]),(9,[.string (⟨#[]⟩)],[.sc (.string (⟨#[]⟩))]),(23,[.slice none 0 0],[.sl []]),(26,[.string (⟨#[]⟩),.bool false,.slice none 0 0],[.sc (.string (⟨#[]⟩)),.sc (.bool false),.sl []]),(30,[.string (⟨#[]⟩),.bool false,.slice none 0 0,.slice none 0 0],[.sc (.string (⟨#[]⟩)),.sc (.bool false),.sl [],.sl []]),(58,[.string (⟨#[]⟩),.int .i64 0,.bool false],[.sc (.string (⟨#[]⟩)),.sc (.int .i64 0),.sc (.bool false)]),(61,[.slice none 0 0],[.sl []]),(65,[.bool false,.slice none 0 0,.slice none 0 0],[.sc (.bool false),.sl [],.sl []]),(67,[.slice none 0 0,.bool false,.slice none 0 0,.slice none 0 0],[.sl [],.sc (.bool false),.sl [],.sl []]),(77,[.int .i64 0,.int .i64 0,.string (⟨#[]⟩)],[.sc (.int .i64 0),.sc (.int .i64 0),.sc (.string (⟨#[]⟩))])]
def Fp:zM.OK where
 agg:=dn U<|dn U<|dn U<|dn U<|dn U<|dn U<|sm
 one:=dn U<|dn U<|dn U<|dn U<|dn U<|dn U<|dn U<|dn U<|dn U<|dn U<|dn U<|dn U<|dn U<|sm
 fld:=dn (dn U<|dn U<|dn U<|sm)<|dn (dn U<|dn U<|sm)<|dn (dn U<|dn U<|dn U<|sm)<|dn (dn U<|dn U<|dn U<|sm)<|dn (dn U<|dn U<|sm)<|dn (dn U<|dn U<|dn U<|sm)<|dn (dn U<|dn U<|sm)<|sm
 siz:=dn U<|dn U<|dn U<|dn U<|dn U<|dn U<|dn U<|dn U<|dn U<|dn U<|dn U<|dn U<|dn U<|dn U<|dn U<|sm
 str:=dn (⟨U,Z⟩)<|dn (⟨U,Z⟩)<|dn (⟨U,Z⟩)<|dn (⟨U,Z⟩)<|dn (⟨U,Z⟩)<|dn (⟨U,Z⟩)<|sm
 zer:=dn (⟨U,U,Z⟩)<|dn (⟨U,U,Z⟩)<|dn (⟨U,U,Z⟩)<|dn (⟨U,U,Z⟩)<|dn (⟨U,U,Z⟩)<|dn (⟨U,U,Z⟩)<|dn (⟨U,U,Z⟩)<|dn (⟨U,U,Z⟩)<|dn (⟨U,U,Z⟩)<|dn (⟨U,U,Z⟩)<|dn (⟨U,U,Z⟩)<|dn (⟨U,U,Z⟩)<|sm
def ax{w0:World}{G0:Bse}{ops:Array Oper}{Q:Exit->St->Prop}{n:Nat}{rs:List (Option Row)}(k:Nat){b a:List Oper}{sl sl':List (Nat×Tree)}{bs bs':List (TypeId×List Tree)}(h:GF zM n k b sl bs=some (a,sl',bs'))(K:AOps w0 G0 ops a Q ⟨n,sl',bs',rs⟩):AOps w0 G0 ops b Q ⟨n,sl,bs,rs⟩:=Fo Fp k h K
def eh{w0:World}{G0:Bse}{id:Nat}{Q:Exit->St->Prop}{n:Nat}{rs:List (Option Row)}(k:Nat){a:List Oper}{sl sl':List (Nat×Tree)}{bs bs':List (TypeId×List Tree)}(h:GF zM n k a sl bs=some ([],sl',bs'))(K:Q .normal ⟨n,sl',bs',rs⟩):AWP w0 G0 (.region id a.toArray false) Q ⟨n,sl,bs,rs⟩:=am (ax k h (E K))
abbrev nI(i:Nat):Tree:=.sc (.int .i64 ((i:Nat):Int))
abbrev bT(b:Bool):Tree:=.sc (.bool b)
abbrev iT(i:Int):Tree:=.sc (.int .i64 i)
abbrev sT(s:ByteArray):Tree:=.sc (.string s)
def ay{w0:World}{G0:Bse}{Q:Exit->St->Prop}{S:St}{c:Operand}{x y:Code}{P:Prop}[Decidable P](a:S.ev c=.sc (.bool (decide P)))(d:P->AWP w0 G0 x Q S)(b:¬P->AWP w0 G0 y Q S):AWP w0 G0 (.cond c x y) Q S:=aK a (λh=>d (of_decide_eq_true h)) λh=>b (of_decide_eq_false h)
def kK{a:Int}{m:Nat}(h:a=m/\m<9223372036854775808):(Tree.sc (.int .i64 (IntKind.i64.wrap a)))=nI m:=pC h.1 h.2
def Keeps.rf{S:St}{m k:Nat}:∀{l:List (Nat×Tree)},l.map (λp=>S.get p.1)=l.map (λp=>p.2)->(l.all λp=>within m k p.2)=true->Keeps S m k l
 |[],_,_=>.nil
 |(i,t)::l,h,hw=>by
  rw[Sb,Sb]at h;injection h with a b
  rw[SJ,Q9]at hw;exact .cons a hw.1 (Keeps.rf b hw.2)
def Le.rf{S S':St}{m k:Nat}(a:S'.n=S.n:=by rfl)(b:S'.bs=S.bs.take m:=by rfl)(c:S'.rs=S.rs.take k:=by rfl)(d:S'.sl.map (λp=>S.get p.1)=S'.sl.map (λp=>p.2):=by rfl)(e:(S'.sl.all λp=>within m k p.2)=true:=by rfl)(f:(S'.bs.all λp=>p.2.all (within0 m k))=true:=by rfl):Le S S' m k:=⟨a,b,c,Keeps.rf d e,f⟩
