import Derived.Test.YtfoejfohbkmmeaaGreatDoorP05
import Derived.Test.YtfoejfohbkmmeaaGreatDoorP00
namespace Go.Proofs.YtfoejfohbkmmeaaGreatDoor
open Go.RowKit
open Lib renaming hid→J
def Jr(P:Program)(s:TypeId)(j:Nat):Option Nat:=
 match P.underlying s with
 |some (.struct fs)=>(fs[j]?).bind fun f=>if jo P f.type then some f.offset else none
 |_=>none
theorem BI{S:St}{o:Oper}{x:Operand}{s:TypeId}{j off:Nat}{cs:List Tree}{t:Tree}(g:o.op=.field s x j)(m:S.ev x=.agg cs)(a:Jr Tryz.prog s j=some off)(p:cs[off]? =some t):OpOK o S t:=by
 intro w0 G0 bx rv w T r k;obtain⟨xs,i,l⟩:=(bL k m (by rw[g];simp[Op.operands])).isAgg;obtain⟨u,n,h⟩:=l.get off t p;unfold Jr at a;split at a
 ·next fs hu=>
  cases b:fs[j]? with
  |none=>simp[b]at a
  |some f=>
   simp only[b,M9]at a;split at a
   ·next hone=>
    injection a with a
    subst a;obtain⟨d,e,q⟩:=vR hone;have c:(isAgg f.type).run Tryz.prog w=.ok false w:=by
     unfold isAgg;rw[Sem.run_bind,run_underlying e w];cases d<;>simp_all
    refine aC (v:=u) (W':=w) ?_ ⟨h,Below.refl _ _⟩;simp[execOp,g,i,Instr.field,run_underlying hu,b,part,c,asAgg,n]
   cases a
 cases a
section
variable {w0:World} {G0:Bse} {ops:Array Oper} {rest:List Oper} {Q:Exit->St->Prop} {o:Oper} {n:Nat} {sl:List (Nat×Tree)} {bs:List (TypeId×List Tree)} {rs:List (Option Row)} {S:St}
theorem uo{d b:Nat}{ty:TypeId}{x:Operand}{t:Tree}{cs:List Tree}(e:o.op=.box ty x)(g:o.guard=none)(c:o.dst=some d)(i:Nat.blt d n=true)(l:St.ev ⟨n,sl,bs,rs⟩ x=t)(m:t.oneA=true)(j:t.cells=cs)(f:cs.all Tree.noDig=true)(h:bs.length=b){bs':List (TypeId×List Tree)}(a:bs++[(ty,cs)]=bs')
  (k:AOps w0 G0 ops rest Q ⟨n,(d,.box b 0)::sl,bs',rs⟩):AOps w0 G0 ops (o::rest) Q ⟨n,sl,bs,rs⟩:=by
 subst j h a;refine gj g (Jp (S:=⟨n,sl,bs,rs⟩) e (by rw[c];simpa[dM,Nv]using i) l m f) ?_;rw[c];exact k
theorem qG{d b:Nat}{ty:TypeId}{c:List Value}{cs:List Tree}(m:o.op=.alloc ty)(h:o.guard=none)(e:o.dst=some d)(j:Nat.blt d n=true)(f:gz Tryz.prog ty=some c)(g:c.all bQ=true)(l:c.map dl=cs)(i:bs.length=b){bs':List (TypeId×List Tree)}(a:bs++[(ty,cs)]=bs')
  (k:AOps w0 G0 ops rest Q ⟨n,(d,.box b 0)::sl,bs',rs⟩):AOps w0 G0 ops (o::rest) Q ⟨n,sl,bs,rs⟩:=by
 subst l i a;refine gj h (rU (S:=⟨n,sl,bs,rs⟩) m (by rw[e];simpa[dM,Nv]using j) f g) ?_;rw[e];exact k
theorem qH{ty e:TypeId}{x y:Operand}{b off m:Nat}{cs:List Tree}{t:Tree}(s:o.op=.store ty x y)(i:o.guard=none)(a:o.dst=none)(j:St.ev ⟨n,sl,bs,rs⟩ x=.box b off)(l:bs[b]? =some (e,cs))(r:St.ev ⟨n,sl,bs,rs⟩ y=t)(f:t.oneA=true)(g:t.cells.all Tree.one=true)(q:t.cells.all Tree.noDig=true)(h:(Tryz.prog.info? ty).map (·.size)=some m)(p:t.cells.length=m)(c:Nat.ble (off+m) cs.length=true){bs':List (TypeId×List Tree)}(d:bs.set b (e,EI cs off t)=bs')
  (k:AOps w0 G0 ops rest Q ⟨n,sl,bs',rs⟩):AOps w0 G0 ops (o::rest) Q ⟨n,sl,bs,rs⟩:=by
 subst d;exact gj i (ly (S:=⟨n,sl,bs,rs⟩) s a j l r f g q h p (by simpa using c)) k
theorem cg{d k m b:Nat}{x y:Operand}{t:TypeId}{R:Row}{a:List Tree}(q:o.op=.call {callee:=.builtin .append,args:=#[x,y],argTypes:=#[t,t]})(u:o.guard=none)(h:o.dst=some d)(B:Nat.blt d n=true)(w:kM Tryz.prog t=some (R.e,R.sz,b))(j:St.ev ⟨n,sl,bs,rs⟩ x=.own k)(v:rs[k]? =some (some R))(A:St.ev ⟨n,sl,bs,rs⟩ y=.sl a)(r:R.sz=m)(z:Sized m a)(l:AllC Tree.one a)(s:AllC Tree.noDig a)(C:R.es.length+a.length<=1073741824)(i:Nat.ble b 100000=true){sl':List (Nat×Tree)}{bs':List (TypeId×List Tree)}{rs':List (Option Row)}(f:sl.map (fun p=>(p.1,mb k p.2))=sl')(g:bs.map (fun p=>(p.1,p.2.map (iC k)))=bs')(c:rs.set k (some ⟨R.e,R.sz,R.es++a,false⟩)=rs')
  (K:AOps w0 G0 ops rest Q ⟨n,(d,.own k)::sl',bs',rs'⟩):AOps w0 G0 ops (o::rest) Q ⟨n,sl,bs,rs⟩:=by
 subst r f g c;refine gj u (un (S:=⟨n,sl,bs,rs⟩) q (by rw[h];simpa[dM,Nv]using B) w j v A z l s C (by simpa using i)) ?_;rw[h];exact K
def jm:List (Nat×Tree)->List (Option Nat)->List Tree->List (Nat×Tree)
 |sl,some d::ds,t::ts=>jm ((d,t)::sl) ds ts
 |sl,none::ds,_::ts=>jm sl ds ts
 |sl,_,_=>sl
theorem kN(n:Nat)(bs:List (TypeId×List Tree))(rs:List (Option Row)):∀(a:List (Option Nat)) (ts:List Tree) (sl:List (Nat×Tree)),fq ⟨n,sl,bs,rs⟩ a ts=⟨n,jm sl a ts,bs,rs⟩
 |[],_,sl=>by cases sl<;>rfl
 |some d::a,[],sl=>rfl
 |none::a,[],sl=>rfl
 |some d::a,t::ts,sl=>kN n bs rs a ts _
 |none::a,t::ts,sl=>kN n bs rs a ts _
theorem cf{id fu:Nat}{ops:List Oper}(a:List (Option Nat))(ts:List Tree){sl':List (Nat×Tree)}(f:e8 ops.toArray=true)(g:ops.map (·.dst)=a)(e:b4 n a=true)(b:mp ops.toArray a fu=true)(d:jm sl a ts=sl')(c:Chain ops.toArray a fu 0 ⟨n,sl,bs,rs⟩ ops ts)(k:Q .normal ⟨n,sl',bs,rs⟩):AWP w0 G0 (.region id ops.toArray true) Q ⟨n,sl,bs,rs⟩:=
 EM f g e b c (by rw[kN,d];exact k)
theorem dI{id fu:Nat}{ops:List Oper}{c:Oper}(a:List (Option Nat))(ts:List Tree){sl':List (Nat×Tree)}{ty u:TypeId}{x y:Operand}{b off m:Nat}{cs:List Tree}{t:Tree}{bs':List (TypeId×List Tree)}(h:e8 (ops++[c]).toArray=true)(v:ops.map (·.dst)=a)(f:c.dst=none)(r:c.guard=none)(g:(ops.all fun o=>o.guard.isNone)=true)(p:b4 n (a++[none])=true)(d:mp (ops++[c]).toArray (a++[none]) fu=true)(e:(List.range ops.length).all (fun i=>reach (ops++[c]).toArray ops.length ops.length i)=true)(l:jm sl a ts=sl')
  (B:c.op=.store ty x y) (w:St.ev ⟨n,sl',bs,rs⟩ x=.box b off) (F:bs[b]? =some (u,cs)) (D:St.ev ⟨n,sl',bs,rs⟩ y=t) (A:t.oneA=true) (C:t.cells.all Tree.one=true) (G:t.cells.all Tree.noDig=true) (E:(Tryz.prog.info? ty).map (·.size)=some m) (z:t.cells.length=m) (q:Nat.ble (off+m) cs.length=true) (s:bs.set b (u,EI cs off t)=bs')
  (j:Chain (ops++[c]).toArray (a++[none]) fu 0 ⟨n,sl,bs,rs⟩ ops ts) (k:Q .normal ⟨n,sl',bs',rs⟩):AWP w0 G0 (.region id (ops++[c]).toArray true) Q ⟨n,sl,bs,rs⟩:=by
 subst l s;refine vW h v f r g p d e j ?_ k;rw[kN];exact ly (S:=⟨n,jm sl a ts,bs,rs⟩) B f w F D A C G E z (by simpa using q)
structure Le (S S':St) (m k:Nat):Prop where
 n:S'.n=S.n
 bs:S'.bs=S.bs.take m
 rs:S'.rs=S.rs.take k
 sl:Keeps S m k S'.sl
 ok:(S'.bs.all fun p=>p.2.all (within0 m k))=true
theorem Sim.le{S':St}{m k:Nat}{a:Act}{w:World}(h:Sim w0 G0 S a w)(f:Le S S' m k)(b:G0.pn<=m:=by first|exact Mp _|exact Nat.le_of_ble_eq_true Z):Sim w0 G0 S' a w:=by
 obtain⟨i,c,g,d,e⟩:=f;have:=h.less m k S'.sl d (by rw[<-c];exact e) b;rw[<-i,<-c,<-g]at this;exact this
theorem EO{c:Code}{S':St}(m k:Nat)(d:Le S S' m k)(h:AWP w0 G0 c Q S')(b:G0.pn<=m:=by first|exact Mp _|exact Nat.le_of_ble_eq_true Z):AWP w0 G0 c Q S:=fun a w e=>h a w (e.le d b)
theorem aR{c:Code}(I:Nat->St->Prop){j:Nat}{i:St}(m k:Nat)(q:I j i)(g:Le S i m k)(a:∀n S,I n S->AWP w0 G0 c (xw (fun S'=>∃d b,d<n/\I d b/\Le S' b m k) Q) S)(f:G0.pn<=m:=by first|exact Mp _|exact Nat.le_of_ble_eq_true Z):AWP w0 G0 (.loop c) Q S:=by
 refine EL (fun n S=>∃b,I n b/\Le S b m k) j ⟨i,q,g⟩ ?_;rintro n S ⟨b,l,r⟩;refine EO m k r ((a n b l).mono ?_) f;intro e S' h;cases e with
 |normal=>
  obtain⟨d,o,t,p,s⟩:=h;exact⟨d,t,o,p,s⟩
 |_=>exact h
theorem jN{x y:Code}{b:Exit->St->Prop}(d:St)(m k:Nat)(h:AWP w0 G0 x (xw (fun S'=>Le S' d m k) b) S)(f:AWP w0 G0 y Q d)(a:G0.pn<=m:=by first|exact Mp _|exact Nat.le_of_ble_eq_true Z):AWP w0 G0 x (xw (AWP w0 G0 y Q) b) S:=h.mono fun e S' c=>by
 cases e with
 |normal=>exact EO m k c f a
 |_=>exact c
end
theorem EP{a:Int}{m:Nat}(h:a=m)(b:m<9223372036854775808):(Tree.sc (.int .i64 (IntKind.i64.wrap a)))=.sc (.int .i64 (m:Nat)):=by
 subst h;congr 2;rw[Np];omega
theorem ft{c:TypeId}{x y:Operand}{a b:ByteArray}{w:World}(h:a.size+b.size<=4611686018427387904):(do eqGuard .add c x y (.string a) (.string b);binOp .add c (.string a) (.string b):Sem Value).run Tryz.prog w=.ok (.string (a++b)) w:=by
 simp[eqGuard,binOp,Op.stringOp];omega
theorem eR{α:Type}{a b:α}{l m:List α}(h:a=b)(c:l=m):a::l=b::m:=by rw[h,c]
theorem d8{k:IntKind}{a b:Int}(h:a=b):(Tree.sc (.int k a))=.sc (.int k b):=by rw[h]
theorem ar{p q:Bool}(h:p=q):(Tree.sc (.bool p))=.sc (.bool q):=by rw[h]
theorem gA(a b:Nat):decide ((a:Int)<(b:Int))=decide (a<b):=decide_eq_decide.2 (by omega)
theorem Ez(a b:Nat):decide ((a:Int)<=(b:Int))=decide (a<=b):=decide_eq_decide.2 (by omega)
theorem oF(a b:Nat):decide ((a:Int)>(b:Int))=decide (b<a):=decide_eq_decide.2 (by omega)
theorem Js(a b:Nat):decide ((a:Int)≥(b:Int))=decide (b<=a):=decide_eq_decide.2 (by omega)
theorem jF(a b:Nat):((a:Int)==(b:Int))=decide (a=b):=by
 rw[OJ,beq_iff_eq,decide_eq_true_eq];omega
theorem tV(a b:Nat):((a:Int) !=(b:Int))=decide (a≠b):=by
 rw[OJ,bne_iff_ne,decide_eq_true_eq];omega
structure LayT where
 agg:List (Nat×Nat)
 one:List (Nat×Bool)
 fld:List (Nat×List (Nat×Nat))
 siz:List (Nat×Nat)
 str:List (Nat×List (Nat×Nat)×List Value×List Tree)
 zer:List (Nat×List Value×List Tree)
structure LayT.OK (L:LayT):Prop where
 agg:∀t n,(t,n)∈L.agg->rj Tryz.prog t=some n
 one:∀t b,(t,b)∈L.one->jo Tryz.prog t=true
 fld:∀t l,(t,l)∈L.fld->∀j n,(j,n)∈l->ku Tryz.prog t j=some n
 siz:∀t n,(t,n)∈L.siz->(Tryz.prog.info? t).map (·.size)=some n
 str:∀t z,(t,z)∈L.str->ua Tryz.prog t=some (z.1,z.2.1)/\z.2.1.map dl=z.2.2
 zer:∀t z,(t,z)∈L.zer->gz Tryz.prog t=some z.1/\z.1.all bQ=true/\z.1.map dl=z.2
theorem pY{α β:Type}{P:α->β->Prop}:∀t n,(t,n)∈([]:List (α×β))->P t n:=fun _ _ h=>by cases h
theorem cQ{α β:Type}{P:α->β->Prop}{l:List (α×β)}{a:α}{b:β}(h:P a b)(d:∀t n,(t,n)∈l->P t n):∀t n,(t,n)∈(a,b)::l->P t n:=by
 intro t n c;rcases Mi.1 c with e|e
 ·cases e;exact h
 exact d t n e
section
variable {γ α β:Type}
def tW:List (Nat×α)->Nat->(α->Option γ)->Option γ
 |[],_,_=>none
 |(i,a)::l,j,k=>cond (Nat.beq i j) (k a) (tW l j k)
theorem iD{k:α->Option γ}{r:γ}{j:Nat}:∀{l:List (Nat×α)},tW l j k=some r->∃a,(j,a)∈l/\k a=some r
 |[],h=>by cases h
 |(i,a)::l,h=>by
  simp only[tW]at h;cases c:Nat.beq i j with
  |true=>
   rw[c]at h;cases Oh c;exact⟨a,Ml ..,h⟩
  |false=>
   rw[c]at h;obtain⟨b,e,d⟩:=iD (l:=l) h;exact⟨b,Ms _ e,d⟩
theorem xA{k:Tree->Option γ}{r:γ}{j:Nat}:∀{l:List (Nat×Tree)},tW l j k=some r->k (look l j)=some r
 |[],h=>by cases h
 |(i,a)::l,h=>by
  simp only[tW]at h;simp only[look];cases b:Nat.beq i j with
  |true=>rw[b]at h;exact h
  |false=>rw[b]at h;exact xA (l:=l) h
def EQ(sl:List (Nat×Tree))(x:Operand)(k:Tree->Option γ):Option γ:=
 match x with
 | .tmp s=>tW sl s k
 | .const v=>k (.sc v)
 |_=>none
theorem ER{n:Nat}{sl:List (Nat×Tree)}{bs:List (TypeId×List Tree)}{rs:List (Option Row)}{x:Operand}{k:Tree->Option γ}{r:γ}(h:EQ sl x k=some r):k (St.ev ⟨n,sl,bs,rs⟩ x)=some r:=by
 cases x with
 |tmp s=>exact xA h
 |const v=>exact h
 |_=>cases h
def vX:List α->Nat->(α->Option γ)->Option γ
 |[],_,_=>none
 |a::_,0,k=>k a
 |_::l,n+1,k=>vX l n k
theorem kg{k:α->Option γ}{r:γ}:∀{l:List α} {n:Nat},vX l n k=some r->∃a,l[n]? =some a/\k a=some r
 |[],_,h=>by cases h
 |a::_,0,h=>⟨a,Z,h⟩
 |_::l,n+1,h=>by simpa using kg (l:=l) (n:=n) h
def Jt:List α->Nat->α->(List α->Option γ)->Option γ
 |[],_,_,_=>none
 |_::l,0,v,k=>k (v::l)
 |a::l,n+1,v,k=>Jt l n v fun l'=>k (a::l')
theorem BJ{r:γ}{v:α}:∀{l:List α} {n:Nat} {k:List α->Option γ},Jt l n v k=some r->k (l.set n v)=some r
 |[],_,_,h=>by cases h
 |_::_,0,_,h=>h
 |_::l,n+1,k,h=>BJ (l:=l) (n:=n) h
def Hm:List α->α->(List α->Option γ)->Option γ
 |[],v,k=>k [v]
 |a::l,v,k=>Hm l v fun l'=>k (a::l')
theorem vY{r:γ}{v:α}:∀{l:List α} {k:List α->Option γ},Hm l v k=some r->k (l++[v])=some r
 |[],_,h=>h
 |_::l,_,h=>vY (l:=l) h
def BK:List α->Nat->(List α->Option γ)->Option γ
 |l,0,k=>k l
 |[],_+1,_=>none
 |_::l,n+1,k=>BK l n k
theorem oO{r:γ}{k:List α->Option γ}:∀{n:Nat} {l:List α},BK l n k=some r->n<=l.length/\k (l.drop n)=some r
 |0,l,h=>by cases l<;>exact⟨Mp _,h⟩
 |n+1,[],h=>by cases h
 |n+1,_::l,h=>⟨Nat.succ_le_succ (oO (n:=n) (l:=l) h).1,(oO (n:=n) (l:=l) h).2⟩
def BL:List α->Nat->(List α->Option γ)->Option γ
 |_,0,k=>k []
 |[],_+1,_=>none
 |a::l,n+1,k=>BL l n fun l'=>k (a::l')
theorem oP{r:γ}:∀{n:Nat} {l:List α} {k:List α->Option γ},BL l n k=some r->n<=l.length/\k (l.take n)=some r
 |0,l,_,h=>by cases l<;>exact⟨Mp _,h⟩
 |n+1,[],_,h=>by cases h
 |n+1,a::l,k,h=>⟨Nat.succ_le_succ (oP (n:=n) (l:=l) h).1,(oP (n:=n) (l:=l) h).2⟩
def ES:List α->Nat->List α->(List α->Option γ)->Option γ
 |l,0,[],k=>k l
 |_::l,0,v::vs,k=>ES l 0 vs fun l'=>k (v::l')
 |a::l,n+1,vs,k=>ES l n vs fun l'=>k (a::l')
 |_,_,_,_=>none
theorem ry{r:γ}:∀{l:List α} {n:Nat} {vs:List α} {k:List α->Option γ},ES l n vs k=some r->n+vs.length<=l.length/\k (l.take n++vs++l.drop (n+vs.length))=some r
 |[],0,[],_,h=>⟨L4 _,h⟩
 |_::_,0,[],_,h=>⟨Mp _,h⟩
 |_::l,0,v::vs,k,h=>by
  obtain⟨c,b⟩:=ry (l:=l) (n:=0) (vs:=vs) h;refine⟨by simp only[L9]at*;omega,?_⟩;simp only[Ox,MI,L9,MT]at b⊢;exact b
 |a::l,n+1,vs,k,h=>by
  obtain⟨c,b⟩:=ry (l:=l) (n:=n) (vs:=vs) h;refine⟨by simp only[L9];omega,?_⟩;rw[show n+1+vs.length=(n+vs.length)+1 by omega];exact b
 |[],0,_::_,_,h=>by cases h
 |[],_+1,_,_,h=>by cases h
def C8:List Nat:=[0,1,2,3,4,5,6,7,8,9,10,11,12,13,14,15,16,17,18,19,20,21,22,23]
theorem vZ{i a:Nat}(h:C8[i]? =some a):a=i:=by
 have:∀j:Fin 24,C8[j.1]? =some j.1:=by decide
 by_cases b:i<24
 ·have:=this ⟨i,b⟩;simp only at this;rw[this]at h;exact(MW h).symm
 rw[Nn (by simp only[C8,L9,Mg];omega)]at h;cases h
def KF(n:Nat)(k:Nat->Option γ):Option γ:=vX C8 n k
theorem Hn{n:Nat}{k:Nat->Option γ}{r:γ}(h:KF n k=some r):k n=some r:=by
 obtain⟨a,c,b⟩:=kg h;rw[vZ c]at b;exact b
def Ho:List α->List Nat->(Nat->Option γ)->Option γ
 |[],b::_,k=>k b
 |_::l,_::m,k=>Ho l m k
 |_,[],_=>none
theorem v7{k:Nat->Option γ}{r:γ}:∀{l:List α} {m:List Nat},Ho l m k=some r->∃b,m[l.length]? =some b/\k b=some r
 |[],b::_,h=>⟨b,Z,h⟩
 |_::l,_::m,h=>by simpa using v7 (l:=l) (m:=m) h
 |[],[],h=>by cases h
 |_::_,[],h=>by cases h
def Ju(b:Bool)(x:Option γ):Option γ:=cond b x none
theorem nU{b:Bool}{x:Option γ}{r:γ}(h:Ju b x=some r):b=true/\x=some r:=by
 cases b with
 |true=>exact⟨Z,h⟩
 |false=>cases h
def Jv(sl:List (Nat×Tree))(pl:List (Nat×Nat)):List (Nat×Operand)->List Tree->(List Tree->Option γ)->Option γ
 |[],cs,k=>k cs
 |(i,x)::ps,cs,k=>EQ sl x fun t=>Ju t.oneA (vX pl i fun p=>Ju (Nat.beq t.cells.length p.2) (ES cs p.1 t.cells fun cs'=>Jv sl pl ps cs' k))
theorem BM{n:Nat}{sl:List (Nat×Tree)}{bs:List (TypeId×List Tree)}{rs:List (Option Row)}{d:List (Nat×Nat)}{r:γ}{k:List Tree->Option γ}:∀{ps:List (Nat×Operand)} {cs:List Tree},Jv sl d ps cs k=some r->∃a,nC (d[·]?) cs (ps.map fun p=>(p.1,St.ev ⟨n,sl,bs,rs⟩ p.2))=some a/\((ps.map fun p=>(p.1,St.ev ⟨n,sl,bs,rs⟩ p.2)).all fun q=>q.2.oneA)=true/\k a=some r
 |[],cs,h=>⟨cs,Z,Z,h⟩
 |(i,x)::ps,cs,h=>by
  obtain⟨s,g⟩:=nU (ER (n:=n) (bs:=bs) (rs:=rs) h);obtain⟨p,o,e⟩:=kg g;obtain⟨j,l⟩:=nU e;obtain⟨t,f⟩:=ry l;obtain⟨a,m,c,b⟩:=BM (n:=n) (bs:=bs) (rs:=rs) f;refine⟨a,?_,?_,b⟩
  ·simp only[M3,nC,o];rw[if_neg (by rw[<-Oh j];omega)];exact m
  simp only[M3,Ny,s,c,Qh]
def oQ(n:Nat)(d:Option Nat)(k:Nat->Option γ):Option γ:=
 match d with
 |some d=>Ju (Nat.blt d n) (k d)
 |none=>none
theorem gl{n:Nat}{d:Option Nat}{k:Nat->Option γ}{r:γ}(h:oQ n d k=some r):∃e,d=some e/\Nat.blt e n=true/\k e=some r:=by
 cases d with
 |some e=>exact⟨e,Z,(nU h).1,(nU h).2⟩
 |none=>cases h
def LC(L:LayT)(n:Nat)(sl:List (Nat×Tree))(bs:List (TypeId×List Tree))(o:Oper)(k:List (Nat×Tree)->List (TypeId×List Tree)->Option γ):Option γ:=
 match o.guard with
 |some _=>none
 |none=>match o.op with
  | .move x=>EQ sl x fun t=>oQ n o.dst fun d=>k ((d,t)::sl) bs
  | .assign x=>EQ sl x fun t=>oQ n o.dst fun d=>k ((d,t)::sl) bs
  | .extract x j=>EQ sl x fun t=>match t with
   | .tup ts=>vX ts j fun t=>oQ n o.dst fun d=>k ((d,t)::sl) bs
   |_=>none
  | .fieldAddr s x j=>EQ sl x fun t=>match t with
   | .box b off=>tW L.fld s fun fs=>tW fs j fun fo=>KF (off+fo) fun m=>oQ n o.dst fun d=>k ((d,.box b m)::sl) bs
   | .elp b off=>tW L.fld s fun fs=>tW fs j fun fo=>oQ n o.dst fun d=>k ((d,.elp b (off+fo))::sl) bs
   | .ref cs=>tW L.fld s fun fs=>tW fs j fun fo=>BK cs fo fun cs'=>oQ n o.dst fun d=>k ((d,.ref cs')::sl) bs
   |_=>none
  | .load t x=>EQ sl x fun a=>match a with
   | .box b off=>vX bs b fun p=>match tW L.one t some with
    |some _=>vX p.2 off fun c=>oQ n o.dst fun d=>k ((d,c)::sl) bs
    |none=>tW L.agg t fun m=>BK p.2 off fun cs=>BL cs m fun cs'=>oQ n o.dst fun d=>k ((d,.agg cs')::sl) bs
   | .ref cs=>match tW L.one t some with
    |some _=>vX cs 0 fun c=>oQ n o.dst fun d=>k ((d,c)::sl) bs
    |none=>tW L.agg t fun m=>BL cs m fun cs'=>oQ n o.dst fun d=>k ((d,.agg cs')::sl) bs
   |_=>none
  | .store ty x y=>match o.dst with
   |some _=>none
   |none=>EQ sl x fun a=>match a with
    | .box b off=>vX bs b fun p=>EQ sl y fun t=>Ju (t.oneA&&t.cells.all Tree.one&&t.cells.all Tree.noDig) (tW L.siz ty fun m=>Ju (Nat.beq t.cells.length m) (ES p.2 off t.cells fun cs=>Jt bs b (p.1,cs) fun bs'=>k sl bs'))
    |_=>none
  | .alloc ty=>tW L.zer ty fun z=>Ho bs C8 fun b=>Hm bs (ty,z.2) fun bs'=>oQ n o.dst fun d=>k ((d,.box b 0)::sl) bs'
  | .box ty x=>EQ sl x fun t=>Ju (t.oneA&&t.cells.all Tree.noDig) (Ho bs C8 fun b=>Hm bs (ty,t.cells) fun bs'=>oQ n o.dst fun d=>k ((d,.box b 0)::sl) bs')
  | .build ty ps=>tW L.str ty fun z=>Jv sl z.1 ps.toList z.2.2 fun cs=>oQ n o.dst fun d=>k ((d,.agg cs)::sl) bs
  |_=>none
def LD(n:Nat)(sl:List (Nat×Tree))(bs:List (TypeId×List Tree))(o:Oper)(sl':List (Nat×Tree))(bs':List (TypeId×List Tree)):Prop:=∀(w0:World) (G0:Bse) (ops:Array Oper) (rest:List Oper) (Q:Exit->St->Prop) (rs:List (Option Row)),AOps w0 G0 ops rest Q ⟨n,sl',bs',rs⟩->AOps w0 G0 ops (o::rest) Q ⟨n,sl,bs,rs⟩
theorem kh{n:Nat}{sl:List (Nat×Tree)}{bs:List (TypeId×List Tree)}{rs rs':List (Option Row)}{x:Operand}:St.ev ⟨n,sl,bs,rs⟩ x=St.ev ⟨n,sl,bs,rs'⟩ x:=by cases x<;>rfl
theorem Jw{L:LayT}(G:L.OK){n:Nat}{sl:List (Nat×Tree)}{bs:List (TypeId×List Tree)}{o:Oper}{k:List (Nat×Tree)->List (TypeId×List Tree)->Option γ}{r:γ}(h:LC L n sl bs o k=some r):∃sl' bs',LD n sl bs o sl' bs'/\k sl' bs'=some r:=by
 have E:∀{x:Operand} {k:Tree->Option γ},EQ sl x k=some r->∀rs,k (St.ev ⟨n,sl,bs,rs⟩ x)=some r:=fun h rs=>ER h
 unfold LC at h;cases D:o.guard with
 |some g=>rw[D]at h;cases h
 |none=>
  rw[D]at h;simp only at h;cases v:o.op with
  |move x=>
   rw[v]at h;obtain⟨d,i,q,l⟩:=gl (E h []);refine⟨_,_,?_,l⟩;exact fun w0 G0 ops rest Q rs K=>af D i q (au v kh) K
  |assign x=>
   rw[v]at h;obtain⟨d,i,q,l⟩:=gl (E h []);refine⟨_,_,?_,l⟩;exact fun w0 G0 ops rest Q rs K=>af D i q (bp v kh) K
  |extract x j=>
   rw[v]at h;have f:=E h [];cases w:St.ev ⟨n,sl,bs,[]⟩ x with
   |tup ts=>
    rw[w]at f;obtain⟨t,C,B⟩:=kg f;obtain⟨d,i,q,l⟩:=gl B;refine⟨_,_,?_,l⟩;exact fun w0 G0 ops rest Q rs K=>af D i q (cT v (kh.trans w) C) K
   |_=>rw[w]at f;cases f
  |fieldAddr s x j=>
   rw[v]at h;have f:=E h [];cases w:St.ev ⟨n,sl,bs,[]⟩ x with
   |box b off=>
    rw[w]at f;obtain⟨U,F,C⟩:=iD f;obtain⟨fo,N,B⟩:=iD C;obtain⟨d,i,q,l⟩:=gl (Hn B);refine⟨_,_,?_,l⟩;exact fun w0 G0 ops rest Q rs K=>af D i q (av v (kh.trans w) (G.fld _ _ F _ _ N) Z) K
   |elp b off=>
    rw[w]at f;obtain⟨U,F,C⟩:=iD f;obtain⟨fo,N,B⟩:=iD C;obtain⟨d,i,q,l⟩:=gl B;refine⟨_,_,?_,l⟩;exact fun w0 G0 ops rest Q rs K=>af D i q (vT v (kh.trans w) (G.fld _ _ F _ _ N) Z) K
   |ref cs=>
    rw[w]at f;obtain⟨U,F,C⟩:=iD f;obtain⟨fo,N,B⟩:=iD C;obtain⟨_,A⟩:=oO B;obtain⟨d,i,q,l⟩:=gl A;refine⟨_,_,?_,l⟩;exact fun w0 G0 ops rest Q rs K=>af D i q (bH v (kh.trans w) (G.fld _ _ F _ _ N) Z) K
   |_=>rw[w]at f;cases f
  |load t x=>
   rw[v]at h;have f:=E h [];have O:∀{u},tW L.one t some=some u->jo Tryz.prog t=true:=fun H=>by
    obtain⟨a,m,_⟩:=iD H;exact G.one _ _ m
   cases w:St.ev ⟨n,sl,bs,[]⟩ x with
   |box b off=>
    rw[w]at f;obtain⟨p,C,B⟩:=kg f;cases H:tW L.one t some with
    |some u=>
     rw[H]at B;obtain⟨c,A,I⟩:=kg B;obtain⟨d,i,q,l⟩:=gl I;refine⟨_,_,?_,l⟩;exact fun w0 G0 ops rest Q rs K=>af D i q (aA v (kh.trans w) C (O H) A) K
    |none=>
     rw[H]at B;obtain⟨m,F,A⟩:=iD B;obtain⟨I,R⟩:=oO A;obtain⟨J,M⟩:=oP R;obtain⟨d,i,q,l⟩:=gl M;rw[MQ]at J;refine⟨_,_,?_,l⟩;exact fun w0 G0 ops rest Q rs K=>af D i q (aP v (kh.trans w) C (G.agg _ _ F) (by rw[QJ];show off+m<=p.2.length;omega) Z) K
   |ref cs=>
    rw[w]at f;cases H:tW L.one t some with
    |some u=>
     simp only[H]at f;obtain⟨c,A,I⟩:=kg f;obtain⟨d,i,q,l⟩:=gl I;refine⟨_,_,?_,l⟩;exact fun w0 G0 ops rest Q rs K=>af D i q (bz v (kh.trans w) (O H) A) K
    |none=>
     simp only[H]at f;obtain⟨m,F,A⟩:=iD f;obtain⟨J,M⟩:=oP A;obtain⟨d,i,q,l⟩:=gl M;refine⟨_,_,?_,l⟩;exact fun w0 G0 ops rest Q rs K=>af D i q (ck v (kh.trans w) (G.agg _ _ F) (by rw[QJ];exact J) Z) K
   |_=>rw[w]at f;cases f
  |store ty x y=>
   rw[v]at h;cases i:o.dst with
   |some d=>rw[i]at h;cases h
   |none=>
    rw[i]at h;have f:=E h [];cases w:St.ev ⟨n,sl,bs,[]⟩ x with
    |box b off=>
     rw[w]at f;obtain⟨p,C,B⟩:=kg f;obtain⟨A,I⟩:=nU (E B []);obtain⟨m,F,R⟩:=iD I;obtain⟨J,M⟩:=nU R;obtain⟨V,T⟩:=ry M;have l:=BJ T;simp only[L8]at A;have e:=Oh J;refine⟨_,_,?_,l⟩;exact fun w0 G0 ops rest Q rs K=>qH v D i (kh.trans w) C kh A.1.1 A.1.2 A.2 (G.siz _ _ F) e (by rw[QJ];show off+m<=p.2.length;rw[<-e];exact V) Z K
    |_=>rw[w]at f;cases f
  |alloc ty=>
   rw[v]at h;obtain⟨z,F,C⟩:=iD h;obtain⟨b,B,A⟩:=v7 C;obtain⟨d,i,q,l⟩:=gl (vY A);obtain⟨P,S,W⟩:=G.zer _ _ F;refine⟨_,_,?_,l⟩;exact fun w0 G0 ops rest Q rs K=>qG v D i q P S W (vZ B).symm Z K
  |box ty x=>
   rw[v]at h;obtain⟨f,C⟩:=nU (E h []);obtain⟨b,B,A⟩:=v7 C;obtain⟨d,i,q,l⟩:=gl (vY A);simp only[L8]at f;refine⟨_,_,?_,l⟩;exact fun w0 G0 ops rest Q rs K=>uo v D i q kh f.1 Z f.2 (vZ B).symm Z K
  |build ty ps=>
   rw[v]at h;obtain⟨z,F,C⟩:=iD h;obtain⟨cs,B,A,I⟩:=BM (n:=n) (bs:=bs) (rs:=[]) C;obtain⟨d,i,q,l⟩:=gl I;obtain⟨P,S⟩:=G.str _ _ F;refine⟨_,_,?_,l⟩;exact fun w0 G0 ops rest Q rs K=>af D i q (g8 v P (O3 fun p _=>congrArg (Prod.mk p.1) kh) A (by rw[S];exact B)) K
  |_=>rw[v]at h;cases h
end
def Hp(L:LayT)(n:Nat):Nat->List Oper->List (Nat×Tree)->List (TypeId×List Tree)->Option (List Oper×List (Nat×Tree)×List (TypeId×List Tree))
 |0,os,sl,bs=>some (os,sl,bs)
 |k+1,o::os,sl,bs=>LC L n sl bs o fun sl' bs'=>Hp L n k os sl' bs'
 |_+1,[],_,_=>none
theorem BN{L:LayT}(c:L.OK){w0:World}{G0:Bse}{ops:Array Oper}{Q:Exit->St->Prop}{n:Nat}{rs:List (Option Row)}:∀(k:Nat) {b a:List Oper} {sl sl':List (Nat×Tree)} {bs bs':List (TypeId×List Tree)},Hp L n k b sl bs=some (a,sl',bs')->AOps w0 G0 ops a Q ⟨n,sl',bs',rs⟩->AOps w0 G0 ops b Q ⟨n,sl,bs,rs⟩
 |0,_,_,_,_,_,_,h,K=>by cases h;exact K
 |k+1,[],_,_,_,_,_,h,_=>by cases h
 |k+1,o::b,_,_,_,_,_,h,K=>by
  obtain⟨d,g,f,e⟩:=Jw c h;exact f _ _ _ _ _ _ (BN c k e K)
def Jx:LayT where
 agg:=[(26,3),(30,4),(58,3),(65,3),(67,4),(77,3)]
 one:=[(2,true),(3,true),(4,true),(5,true),(9,true),(22,true),(23,true),(24,true),(28,true),(31,true),(50,true),(61,true),(63,true)]
 fld:=[(26,[(0,0),(1,1),(2,2)]),(30,[(0,0),(1,3)]),(58,[(0,0),(1,1),(2,2)]),(65,[(0,0),(1,1),(2,2)]),(67,[(0,0),(1,1)]),(77,[(0,0),(1,1),(2,2)]),(184,[(0,0),(1,1)])]
 siz:=[(4,1),(5,1),(9,1),(22,1),(23,1),(24,1),(26,3),(28,1),(30,4),(31,1),(58,3),(61,1),(65,3),(67,4),(77,3)]
 str:=[(26,[(0,1),(1,1),(2,1)],[.string (⟨#[]⟩),.bool false,.slice none 0 0],[.sc (.string (⟨#[]⟩)),.sc (.bool false),.sl []]),(30,[(0,3),(3,1)],[.string (⟨#[]⟩),.bool false,.slice none 0 0,.slice none 0 0],[.sc (.string (⟨#[]⟩)),.sc (.bool false),.sl [],.sl []]),(58,[(0,1),(1,1),(2,1)],[.string (⟨#[]⟩),.int .i64 0,.bool false],[.sc (.string (⟨#[]⟩)),.sc (.int .i64 0),.sc (.bool false)]),(65,[(0,1),(1,1),(2,1)],[.bool false,.slice none 0 0,.slice none 0 0],[.sc (.bool false),.sl [],.sl []]),(67,[(0,1),(1,3)],[.slice none 0 0,.bool false,.slice none 0 0,.slice none 0 0],[.sl [],.sc (.bool false),.sl [],.sl []]),(184,[(0,1),(1,1)],[.slice none 0 0,.int .i64 0],[.sl [],.sc (.int .i64 0)])]
 zer:=[(2,[.int .i64 0],[.sc (.int .i64 0)]),(3,[.int .i64 0],[.sc (.int .i64 0)]),(5,[.int .u8 0],[.sc (.int .u8 0)]),(9,[.string (⟨#[]⟩)],[.sc (.string (⟨#[]⟩))]),(23,[.slice none 0 0],[.sl []]),(26,[.string (⟨#[]⟩),.bool false,.slice none 0 0],[.sc (.string (⟨#[]⟩)),.sc (.bool false),.sl []]),(30,[.string (⟨#[]⟩),.bool false,.slice none 0 0,.slice none 0 0],[.sc (.string (⟨#[]⟩)),.sc (.bool false),.sl [],.sl []]),(58,[.string (⟨#[]⟩),.int .i64 0,.bool false],[.sc (.string (⟨#[]⟩)),.sc (.int .i64 0),.sc (.bool false)]),(61,[.slice none 0 0],[.sl []]),(65,[.bool false,.slice none 0 0,.slice none 0 0],[.sc (.bool false),.sl [],.sl []]),(67,[.slice none 0 0,.bool false,.slice none 0 0,.slice none 0 0],[.sl [],.sc (.bool false),.sl [],.sl []]),(77,[.int .i64 0,.int .i64 0,.string (⟨#[]⟩)],[.sc (.int .i64 0),.sc (.int .i64 0),.sc (.string (⟨#[]⟩))])]
theorem Hq:Jx.OK where
 agg:=cQ (by kernel_rfl)<|cQ (by kernel_rfl)<|cQ (by kernel_rfl)<|cQ (by kernel_rfl)<|cQ (by kernel_rfl)<|cQ (by kernel_rfl)<|pY
 one:=cQ (by kernel_rfl)<|cQ (by kernel_rfl)<|cQ (by kernel_rfl)<|cQ (by kernel_rfl)<|cQ (by kernel_rfl)<|cQ (by kernel_rfl)<|cQ (by kernel_rfl)<|cQ (by kernel_rfl)<|cQ (by kernel_rfl)<|cQ (by kernel_rfl)<|cQ (by kernel_rfl)<|cQ (by kernel_rfl)<|cQ (by kernel_rfl)<|pY
 fld:=cQ (cQ (by kernel_rfl)<|cQ (by kernel_rfl)<|cQ (by kernel_rfl)<|pY)<|cQ (cQ (by kernel_rfl)<|cQ (by kernel_rfl)<|pY)<|cQ (cQ (by kernel_rfl)<|cQ (by kernel_rfl)<|cQ (by kernel_rfl)<|pY)<|cQ (cQ (by kernel_rfl)<|cQ (by kernel_rfl)<|cQ (by kernel_rfl)<|pY)<|cQ (cQ (by kernel_rfl)<|cQ (by kernel_rfl)<|pY)<|cQ (cQ (by kernel_rfl)<|cQ (by kernel_rfl)<|cQ (by kernel_rfl)<|pY)<|cQ (cQ (by kernel_rfl)<|cQ (by kernel_rfl)<|pY)<|pY
 siz:=cQ (by kernel_rfl)<|cQ (by kernel_rfl)<|cQ (by kernel_rfl)<|cQ (by kernel_rfl)<|cQ (by kernel_rfl)<|cQ (by kernel_rfl)<|cQ (by kernel_rfl)<|cQ (by kernel_rfl)<|cQ (by kernel_rfl)<|cQ (by kernel_rfl)<|cQ (by kernel_rfl)<|cQ (by kernel_rfl)<|cQ (by kernel_rfl)<|cQ (by kernel_rfl)<|cQ (by kernel_rfl)<|pY
 str:=cQ (⟨by kernel_rfl,Z⟩)<|cQ (⟨by kernel_rfl,Z⟩)<|cQ (⟨by kernel_rfl,Z⟩)<|cQ (⟨by kernel_rfl,Z⟩)<|cQ (⟨by kernel_rfl,Z⟩)<|cQ (⟨by kernel_rfl,Z⟩)<|pY
 zer:=cQ (⟨by kernel_rfl,by kernel_rfl,Z⟩)<|cQ (⟨by kernel_rfl,by kernel_rfl,Z⟩)<|cQ (⟨by kernel_rfl,by kernel_rfl,Z⟩)<|cQ (⟨by kernel_rfl,by kernel_rfl,Z⟩)<|cQ (⟨by kernel_rfl,by kernel_rfl,Z⟩)<|cQ (⟨by kernel_rfl,by kernel_rfl,Z⟩)<|cQ (⟨by kernel_rfl,by kernel_rfl,Z⟩)<|cQ (⟨by kernel_rfl,by kernel_rfl,Z⟩)<|cQ (⟨by kernel_rfl,by kernel_rfl,Z⟩)<|cQ (⟨by kernel_rfl,by kernel_rfl,Z⟩)<|cQ (⟨by kernel_rfl,by kernel_rfl,Z⟩)<|cQ (⟨by kernel_rfl,by kernel_rfl,Z⟩)<|pY
theorem aa{w0:World}{G0:Bse}{ops:Array Oper}{Q:Exit->St->Prop}{n:Nat}{rs:List (Option Row)}(k:Nat){b a:List Oper}{sl sl':List (Nat×Tree)}{bs bs':List (TypeId×List Tree)}(h:Hp Jx n k b sl bs=some (a,sl',bs'))(K:AOps w0 G0 ops a Q ⟨n,sl',bs',rs⟩):AOps w0 G0 ops b Q ⟨n,sl,bs,rs⟩:=BN Hq k h K
theorem aj{w0:World}{G0:Bse}{id:Nat}{Q:Exit->St->Prop}{n:Nat}{rs:List (Option Row)}(k:Nat){a:List Oper}{sl sl':List (Nat×Tree)}{bs bs':List (TypeId×List Tree)}(h:Hp Jx n k a sl bs=some ([],sl',bs'))(K:Q .normal ⟨n,sl',bs',rs⟩):AWP w0 G0 (.region id a.toArray false) Q ⟨n,sl,bs,rs⟩:=ae (aa k h (ag K))
abbrev nI(i:Nat):Tree:=.sc (.int .i64 ((i:Nat):Int))
abbrev bT(b:Bool):Tree:=.sc (.bool b)
abbrev iT(i:Int):Tree:=.sc (.int .i64 i)
abbrev sT(s:ByteArray):Tree:=.sc (.string s)
theorem aD{w0:World}{G0:Bse}{Q:Exit->St->Prop}{S:St}{c:Operand}{x y:Code}{P:Prop}[Decidable P](a:S.ev c=.sc (.bool (decide P)))(b:P->AWP w0 G0 x Q S)(d:¬P->AWP w0 G0 y Q S):AWP w0 G0 (.cond c x y) Q S:=aF a (fun h=>b (of_decide_eq_true h)) fun h=>d (of_decide_eq_false h)
theorem bi{a:Int}{m:Nat}(h:a=m/\m<9223372036854775808):(Tree.sc (.int .i64 (IntKind.i64.wrap a)))=nI m:=EP h.1 h.2
theorem Keeps.rf{S:St}{m k:Nat}:∀{l:List (Nat×Tree)},l.map (fun p=>S.get p.1)=l.map (fun p=>p.2)->(l.all fun p=>within m k p.2)=true->Keeps S m k l
 |[],_,_=>.nil
 |(i,t)::l,h,hw=>by
  rw[M3,M3]at h;injection h with b a
  rw[Ny,L8]at hw;exact .cons b hw.1 (Keeps.rf a hw.2)
theorem Le.rf{S S':St}{m k:Nat}(f:S'.n=S.n:=by rfl)(b:S'.bs=S.bs.take m:=by rfl)(e:S'.rs=S.rs.take k:=by rfl)(a:S'.sl.map (fun p=>S.get p.1)=S'.sl.map (fun p=>p.2):=by rfl)(c:(S'.sl.all fun p=>within m k p.2)=true:=by rfl)(d:(S'.bs.all fun p=>p.2.all (within0 m k))=true:=by rfl):Le S S' m k:=⟨f,b,e,Keeps.rf a c,d⟩
def nE(k:Nat)(es:List Tree):Tree->Tree
 | .own j=>if j=k then .sl es else .own j
 | .elp j off=>if j=k then .any else .elp j off
 | .agg _| .tup _=>.any
 |t=>t
def ET(k:Nat)(es:List Tree):Tree->Tree
 | .agg cs=>.agg (cs.map (nE k es))
 |t=>nE k es t
section
variable {w0 w:World} {G0:Bse} {bs:List (TypeId×List Tree)} {rs:List (Option Row)} {bx:List Nat} {rv:List Value} {k:Nat} {R:Row} {v:Value}
theorem iQ(j:Nat)(X:Row)(h:(rs.set k none)[j]? =some (some X)):j≠k/\rs[j]? =some (some X):=by
 by_cases a:j=k
 ·subst a;have b:=(L6.1 h).1;rw[MJ]at b;rw[Nw b]at h;cases h
 rw[Nm (fun e=>a e.symm)]at h;exact⟨a,h⟩
theorem nV{b:Nat}(h:b∈cR bx rv (rs.set k none)):b∈cR bx rv rs:=by
 rcases aY.1 h with a|⟨j,u,X,a,d,c⟩
 ·exact aY.2 (.inl a)
 exact aY.2 (.inr ⟨j,u,X,a,(iQ j X d).2,c⟩)
theorem mq:∀b,b<w.heap.size->¬GG G0 bx rv rs b->w.heap[b]? =w.heap[b]? /\¬GG G0 bx rv (rs.set k none) b:=fun _ _ a=>⟨Z,fun h=>a (h.imp id nV)⟩
theorem v8(j:Nat)(u:Value)(a:j≠k)(h:fl rv rs j=some u):fl rv (rs.set k none) j=some u:=by
 unfold fl at h⊢;rw[Nm (fun e=>a e.symm)];exact h
theorem BO(b:Mem w0 G0 bs rs bx rv w)(c:rs[k]? =some (some R))(h:fl rv rs k=some v):PT w (GG G0 bx rv (rs.set k none)) [v] [.sl R.es]:=by
 have d:rv[k]? =some v:=by simpa[fl,c]using h
 obtain⟨xs,n,s,C,_⟩:=b.row k v R d c;have e:=s.mono (G':=GG G0 bx rv (rs.set k none)) (L4 _) mq;rcases n.2 with⟨rfl,m⟩|⟨g,i,cur,rfl,B,t,m,f,A,z⟩
 ·have:R.es=[]:=Mr m;rw[this];exact dk _ _
 refine .sl g 0 i _ xs R.es (MD.1 t).1 (fun a=>?_) (fun j u y=>?_) Z m (by unfold maxLen at f;omega) e .nil
 ·rcases a with a|a
  ·have r:=b.g0 g a;rcases b.ge g (aY.2 (.inr ⟨k,_,R,d,c,rfl⟩))with o|o
   ·omega
   exact r.2.2 o
  rcases aY.1 a with a|⟨j,u,X,p,l,x⟩
  ·exact b.nodup.br k _ R g d c Z a
  obtain⟨q,l⟩:=iQ j X l;exact b.nodup.rr j k u _ X R g q p l d c x Z
 have:=n.cells (g:=g) Z j u y;rw[Addr.add_mid]at this;exact this
theorem BP(d:Mem w0 G0 bs rs bx rv w)(a:rs[k]? =some (some R)){u:Value}{t:Tree}(h:FT (en w G0 bx rv rs) [u] [t]):FT (en w G0 bx rv (rs.set k none)) [u] [nE k R.es t]:=by
 cases h with
 |pure h _=>
  cases t<;>first
   |exact .pure (h.mono (L4 _) mq) .nil
   |(simp only[nE];exact .any _ .nil)
   |(cases h)
 |any=>exact .any _ .nil
 |box b off g h _=>exact .box b off g h .nil
 |own j n c A hv _=>
  simp only[nE];split
  ·next e=>subst e;exact .pure (BO d a hv) .nil
  next e=>exact .own j n c A (v8 j _ e hv) .nil
 |elp j off g n c hv _=>
  simp only[nE];split
  ·exact .any _ .nil
  next e=>exact .elp j off g n c (v8 j _ e hv) .nil
 |agg=>exact .any _ .nil
 |tup=>exact .any _ .nil
theorem rV(b:Mem w0 G0 bs rs bx rv w)(a:rs[k]? =some (some R)):∀{us:List Value} {ts:List Tree},FT (en w G0 bx rv rs) us ts->FT (en w G0 bx rv (rs.set k none)) us (ts.map (nE k R.es))
 |[],[],_=>.nil
 |[],_::_,h=>by cases h
 |_::_,[],h=>by cases h
 |u::us,t::ts,h=>FT.cons (BP b a h.head) (rV b a h.tail)
theorem Jy(b:Mem w0 G0 bs rs bx rv w)(a:rs[k]? =some (some R)){u:Value}{t:Tree}(h:FT (en w G0 bx rv rs) [u] [t]):FT (en w G0 bx rv (rs.set k none)) [u] [ET k R.es t]:=by
 cases t with
 |agg cs=>
  obtain⟨xs,rfl,c⟩:=h.isAgg;exact .agg xs _ (rV b a c) .nil
 |_=>exact BP b a h
end
section
variable {w0:World} {G0:Bse} {ops:Array Oper} {rest:List Oper} {Q:Exit->St->Prop} {o:Oper} {n:Nat} {sl:List (Nat×Tree)} {bs:List (TypeId×List Tree)} {rs:List (Option Row)} {S:St}
theorem Sim.rel{a:Act}{w:World}{k:Nat}{R:Row}(h:Sim w0 G0 ⟨n,sl,bs,rs⟩ a w)(r:rs[k]? =some (some R)):Sim w0 G0 ⟨n,sl.map fun p=>(p.1,ET k R.es p.2),bs.map fun p=>(p.1,p.2.map (nE k R.es)),rs.set k none⟩ a w:=by
 obtain⟨bx,rv,c,y,m,o⟩:=h;refine⟨bx,rv,⟨c.below,c.env0,c.g0,by simp[c.nb],by simp[c.nr],fun i g z=>?_,fun j u X e d=>?_,⟨c.nodup.bb,fun j u X b e d=>c.nodup.br j u X b e (iQ j X d).2,fun i j u v X Y b q e d l f=>c.nodup.rr i j u v X Y b q e (iQ i X d).2 l (iQ j Y f).2⟩,fun b x=>c.ge b (nV x),c.pin⟩,y,m,fun i=>?_⟩
 ·obtain⟨ty,cs,us,e,d,l,f⟩:=c.box i g z;exact⟨ty,cs.map (nE k R.es),us,by rw[MN,e];rfl,d,rV c r l,f⟩
 ·obtain⟨xs,l,f,s,t⟩:=c.row j u X e (iQ j X d).2;exact⟨xs,l,f.mono (L4 _) mq,s,t⟩
 show FT _ _ [look (sl.map fun p=>(p.1,ET k R.es p.2)) i]
 rw[jL (ET k R.es) Z];exact Jy c r (o i)
theorem ek{c:Code}(k:Nat){R:Row}{sl':List (Nat×Tree)}{bs':List (TypeId×List Tree)}{rs':List (Option Row)}(g:rs[k]? =some (some R))(d:sl.map (fun p=>(p.1,ET k R.es p.2))=sl')(b:bs.map (fun p=>(p.1,p.2.map (nE k R.es)))=bs')(e:rs.set k none=rs')(h:AWP w0 G0 c Q ⟨n,sl',bs',rs'⟩):AWP w0 G0 c Q ⟨n,sl,bs,rs⟩:=by
 subst d b e;exact fun a w f=>h a w (f.rel g)
theorem dh{rs:List (Option Row)}{rv:List Value}{v:Value}{R:Row}(d:rv.length=rs.length)(j:Nat)(u:Value)(X:Row)(b:(rv++[v])[j]? =some u)(a:(rs++[some R])[j]? =some (some X)):(j=rs.length/\u=v/\X=R)\/(j<rs.length/\rv[j]? =some u/\rs[j]? =some (some X)):=by
 by_cases c:j<rs.length
 ·rw[My (by omega)]at b;rw[My c]at a;exact .inr ⟨c,b,a⟩
 have:=(L6.1 a).1;simp only[Mb,NL]at this;obtain rfl:j=rs.length:=by omega
 rw[Mz (by omega),show rs.length-rv.length=0 by omega]at b;rw[Mz (L4 _),M2]at a;simp only[MV,MK]at b a;exact .inl ⟨Z,b.symm,a.symm⟩
theorem gW{d k e sz:Nat}(A:o.op=.move (.const (.slice none 0 0))\/o.op=.assign (.const (.slice none 0 0)))(E:o.guard=none)(J:o.dst=some d)(hn:Nat.blt d n=true)(U:rs.length=k){rs':List (Option Row)}(C:rs++[some ⟨e,sz,[],false⟩]=rs')(K:AOps w0 G0 ops rest Q ⟨n,(d,.own k)::sl,bs,rs'⟩):AOps w0 G0 ops (o::rest) Q ⟨n,sl,bs,rs⟩:=by
 subst C U;refine gj E (S':=⟨n,(d,.own rs.length)::sl,bs,rs++[some ⟨e,sz,[],false⟩]⟩) ?_ K;rintro a w ⟨bx,rv,f,z,D,F⟩;have c:rv.length=rs.length:=f.nr;have x:∀b,b∈cR bx (rv++[.slice none 0 0]) (rs++[some ⟨e,sz,[],false⟩])->b∈cR bx rv rs:=fun b H=>by
  rcases aY.1 H with l|⟨j,u,X,l,q,s⟩
  ·exact aY.2 (.inl l)
  rcases dh c j u X l q with⟨_,rfl,_⟩|⟨_,p,t⟩
  ·simp[Value.ownBlock]at s
  exact aY.2 (.inr ⟨j,u,X,p,t,s⟩)
 have m:∀b,b<w.heap.size->¬GG G0 bx rv rs b->w.heap[b]? =w.heap[b]? /\¬GG G0 bx (rv++[.slice none 0 0]) (rs++[some ⟨e,sz,[],false⟩]) b:=fun b _ W=>⟨Z,fun h=>W (h.imp id (x b))⟩
 have G:∀j u,fl rv rs j=some u->fl (rv++[.slice none 0 0]) (rs++[some ⟨e,sz,[],false⟩]) j=some u:=fun j u h=>by
  unfold fl at h⊢;cases L:rs[j]? with
  |none=>simp[L]at h
  |some r=>
   have P:=(L6.1 L).1;rw[My P,My (by omega)];exact h
 have y:∀{us ts},FT (en w G0 bx rv rs) us ts->FT (en w G0 bx (rv++[.slice none 0 0]) (rs++[some ⟨e,sz,[],false⟩])) us ts:=fun h=>h.mono (L4 _) m (fun _ _ h=>h) G
 refine aC (v:=.slice none 0 0) (W':=w) ?_ ⟨bx,rv++[.slice none 0 0],⟨f.below,f.env0,f.g0,f.nb,by simp[c],fun i g V=>?_,fun j u X l q=>?_,⟨f.nodup.bb,fun j u X b l q s=>?_,fun i j u v X Y b I l q s p t B=>?_⟩,fun b H=>f.ge b (x b H),f.pin⟩,by rw[dY];exact z,by rw[dg,D],?_⟩
 ·rcases A with A|A<;>simp[execOp,A,dU]
 ·obtain⟨ty,cs,us,l,q,s,p⟩:=f.box i g V;exact⟨ty,cs,us,l,q,y s,p⟩
 ·rcases dh c j u X l q with⟨_,rfl,rfl⟩|⟨_,p,t⟩
  ·exact⟨[],World.ownsRow_nil _ _ _ _,.nil,⟨(fun _ h=>by cases h),fun h=>by cases h⟩,(fun g E=>by cases E)⟩
  obtain⟨xs,B,R,T,M⟩:=f.row j u X p t;exact⟨xs,B,R.mono (L4 _) m,T,M⟩
 ·rcases dh c j u X l q with⟨_,rfl,_⟩|⟨_,p,t⟩
  ·simp[Value.ownBlock]at s
  exact f.nodup.br j u X b p t s
 ·rcases dh c i u X l q with⟨_,rfl,_⟩|⟨_,N,a2⟩
  ·simp[Value.ownBlock]at t
  rcases dh c j v Y s p with⟨_,rfl,_⟩|⟨_,S,O⟩
  ·simp[Value.ownBlock]at B
  exact f.nodup.rr i j u v X Y b I N a2 S O t B
 intro i;rw[gD a o.dst _ n z (by rw[J];simpa[dM,Nv]using hn),J];show FT _ _ [look ((d,.own rs.length)::sl) i]
 rw[cZ];simp only[MK];split
 ·refine .own _ 0 0 none ?_ .nil;show fl (rv++[.slice none 0 0]) (rs++[some ⟨e,sz,[],false⟩]) rs.length=_
  unfold fl;rw[Mz (L4 _),M2,Mz (by omega),show rs.length-rv.length=0 by omega];rfl
 exact y (F i)
end
end Go.Proofs.YtfoejfohbkmmeaaGreatDoor
