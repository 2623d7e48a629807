import Derived.Test.YtmhcanmapkenbaaGreatDoorA05
set_option linter.defProp false
open Go.Proofs.Tryz
namespace Go.Proofs.YtmhcanmapkenbaaGreatDoor
open Go.RowKit
open Lib renaming hid→J
variable{y:Operand}
def Md(P:Program)(s:TypeId)(j:Nat):Option Nat:=
 match P.underlying s with
 |some (.struct fs)=>(fs[j]?).bind λf=>if eN P f.type then some f.offset else none
 |_=>none
def BE{S:St}{o:Oper}{x:Operand}{s:TypeId}{j off:Nat}{cs:List Tree}{t:Tree}(g:o.op=.field s x j)(p:S.ev x=.agg cs)(a:Md prog s j=some off)(n:cs[off]? =some t):OpOK o S t:=by
 intro w0 G0 bx rv w T q m;obtain⟨xs,h,i⟩:=(bY m p (by rw[g];simp[Op.operands])).isAgg;obtain⟨u,k,l⟩:=i.get off t n;unfold Md at a;split at a
 ·next fs hu=>
  cases b:fs[j]? with
  |none=>simp[b]at a
  |some f=>
   simp only[b,QY]at a;split at a
   ·next hone=>
    injection a with a
    subst a;obtain⟨d,e,hd⟩:=vg hone;have c:(isAgg f.type).run prog w=.ok false w:=by
     unfold isAgg;rw[Sem.run_bind,run_underlying e w];cases d<;>simp_all
    refine OpRuns.of_ok (v:=u) (W':=w) ?_ ⟨l,Below.refl _ _⟩;simp[execOp,g,h,Instr.field,run_underlying hu,b,part,c,asAgg,k]
   cases a
 cases a
section
variable {w0:World} {G0:Bse} {ops:Array Oper} {rest:List Oper} {Q:Exit->St->Prop} {o:Oper} {n:Nat} {sl:List (Nat×Tree)} {bs:List (TypeId×List Tree)} {rs:List (Option Row)} {S:St}
def DE{d b:Nat}{ty:TypeId}{x:Operand}{t:Tree}{cs:List Tree}(j:o.op=.box ty x)(h:o.guard=none)(hd:o.dst=some d)(i:Nat.blt d n=true)(l:St.ev ⟨n,sl,bs,rs⟩ x=t)(c:t.oneA=true)(g:t.cells=cs)(e:cs.all Tree.noDig=true)(f:bs.length=b){bs':List (TypeId×List Tree)}(a:bs++[(ty,cs)]=bs')
  (k:AOps w0 G0 ops rest Q ⟨n,(d,.box b 0)::sl,bs',rs⟩):AOps w0 G0 ops (o::rest) Q ⟨n,sl,bs,rs⟩:=by
 subst g f a;refine eA h (Mb (S:=⟨n,sl,bs,rs⟩) j (by rw[hd];simpa[df,Q7]using i) l c e) ?_;rw[hd];exact k
def xr{d b:Nat}{ty:TypeId}{c:List Value}{cs:List Tree}(j:o.op=.alloc ty)(h:o.guard=none)(hd:o.dst=some d)(i:Nat.blt d n=true)(l:gn prog ty=some c)(e:c.all cj=true)(g:c.map c7=cs)(f:bs.length=b){bs':List (TypeId×List Tree)}(a:bs++[(ty,cs)]=bs')
  (k:AOps w0 G0 ops rest Q ⟨n,(d,.box b 0)::sl,bs',rs⟩):AOps w0 G0 ops (o::rest) Q ⟨n,sl,bs,rs⟩:=by
 subst g f a;refine eA h (rg (S:=⟨n,sl,bs,rs⟩) j (by rw[hd];simpa[df,Q7]using i) l e) ?_;rw[hd];exact k
def xu{ty e:TypeId}{x:Operand}{b off m:Nat}{cs:List Tree}{t:Tree}(l:o.op=.store ty x y)(j:o.guard=none)(a:o.dst=none)(r:St.ev ⟨n,sl,bs,rs⟩ x=.box b off)(i:bs[b]? =some (e,cs))(q:St.ev ⟨n,sl,bs,rs⟩ y=t)(f:t.oneA=true)(g:t.cells.all Tree.one=true)(h:t.cells.all Tree.noDig=true)(p:(prog.info? ty).map (·.size)=some m)(hl:t.cells.length=m)(d:Nat.ble (off+m) cs.length=true){bs':List (TypeId×List Tree)}(c:bs.set b (e,EY cs off t)=bs')
  (k:AOps w0 G0 ops rest Q ⟨n,sl,bs',rs⟩):AOps w0 G0 ops (o::rest) Q ⟨n,sl,bs,rs⟩:=by
 subst c;exact eA j (kv (S:=⟨n,sl,bs,rs⟩) l a r i q f g h p hl (by simpa using d)) k
def bD{d k m b:Nat}{x:Operand}{t:TypeId}{R:Row}{a:List Tree}(v:o.op=.call {callee:=.builtin .append,args:=#[x,y],argTypes:=#[t,t]})(r:o.guard=none)(hd:o.dst=some d)(u:Nat.blt d n=true)(z:nY prog t=some (R.e,R.sz,b))(A:St.ev ⟨n,sl,bs,rs⟩ x=.own k)(q:rs[k]? =some (some R))(B:St.ev ⟨n,sl,bs,rs⟩ y=.sl a)(s:R.sz=m)(w:Sized m a)(h:AllC Tree.one a)(i:AllC Tree.noDig a)(j:R.es.length+a.length<=1073741824)(l:Nat.ble b 100000=true){sl':List (Nat×Tree)}{bs':List (TypeId×List Tree)}{rs':List (Option Row)}(g:sl.map (λp=>(p.1,gJ k p.2))=sl')(c:bs.map (λp=>(p.1,p.2.map (iy k)))=bs')(f:rs.set k (some ⟨R.e,R.sz,R.es++a,false⟩)=rs')
  (K:AOps w0 G0 ops rest Q ⟨n,(d,.own k)::sl',bs',rs'⟩):AOps w0 G0 ops (o::rest) Q ⟨n,sl,bs,rs⟩:=by
 subst s g c f;refine eA r (uf (S:=⟨n,sl,bs,rs⟩) v (by rw[hd];simpa[df,Q7]using u) z A q B w h i j (by simpa using l)) ?_;rw[hd];exact K
def iC:List (Nat×Tree)->List (Option Nat)->List Tree->List (Nat×Tree)
 |sl,some d::ds,t::ts=>iC ((d,t)::sl) ds ts
 |sl,none::ds,_::ts=>iC sl ds ts
 |sl,_,_=>sl
def lZ(n:Nat)(bs:List (TypeId×List Tree))(rs:List (Option Row)):∀(ds:List (Option Nat)) (ts:List Tree) (sl:List (Nat×Tree)),fE ⟨n,sl,bs,rs⟩ ds ts=⟨n,iC sl ds ts,bs,rs⟩
 |[],_,sl=>by cases sl<;>rfl
 |some d::ds,[],sl=>rfl
 |none::ds,[],sl=>rfl
 |some d::ds,t::ts,sl=>lZ n bs rs ds ts _
 |none::ds,t::ts,sl=>lZ n bs rs ds ts _
def cu{id fu:Nat}{ops:List Oper}(a:List (Option Nat))(ts:List Tree){sl':List (Nat×Tree)}(c:d7 ops.toArray=true)(hd:ops.map (·.dst)=a)(d:cc n a=true)(b:rk ops.toArray a fu=true)(f:iC sl a ts=sl')(e:Chain ops.toArray a fu 0 ⟨n,sl,bs,rs⟩ ops ts)(k:Q .normal ⟨n,sl',bs,rs⟩):AWP w0 G0 (.region id ops.toArray true) Q ⟨n,sl,bs,rs⟩:=
 E5 c hd d b e (by rw[lZ,f];exact k)
def tQ{id fu:Nat}{ops:List Oper}{c:Oper}(a:List (Option Nat))(ts:List Tree){sl':List (Nat×Tree)}{ty u:TypeId}{x:Operand}{b off m:Nat}{cs:List Tree}{t:Tree}{bs':List (TypeId×List Tree)}(g:d7 (ops++[c]).toArray=true)(hd:ops.map (·.dst)=a)(f:c.dst=none)(p:c.guard=none)(r:(ops.all λo=>o.guard.isNone)=true)(h:cc n (a++[none])=true)(e:rk (ops++[c]).toArray (a++[none]) fu=true)(d:(List.range ops.length).all (λi=>reach (ops++[c]).toArray ops.length ops.length i)=true)(s:iC sl a ts=sl')
  (B:c.op=.store ty x y) (E:St.ev ⟨n,sl',bs,rs⟩ x=.box b off) (A:bs[b]? =some (u,cs)) (D:St.ev ⟨n,sl',bs,rs⟩ y=t) (v:t.oneA=true) (w:t.cells.all Tree.one=true) (z:t.cells.all Tree.noDig=true) (C:(prog.info? ty).map (·.size)=some m) (hl:t.cells.length=m) (q:Nat.ble (off+m) cs.length=true) (j:bs.set b (u,EY cs off t)=bs')
  (l:Chain (ops++[c]).toArray (a++[none]) fu 0 ⟨n,sl,bs,rs⟩ ops ts) (k:Q .normal ⟨n,sl',bs',rs⟩):AWP w0 G0 (.region id (ops++[c]).toArray true) Q ⟨n,sl,bs,rs⟩:=by
 subst s j;refine vj g hd f p r h e d l ?_ k;rw[lZ];exact kv (S:=⟨n,iC sl a ts,bs,rs⟩) B f E A D v w z C hl (by simpa using q)
structure Le (S S':St) (m k:Nat):Prop where
 n:S'.n=S.n
 bs:S'.bs=S.bs.take m
 rs:S'.rs=S.rs.take k
 sl:Keeps S m k S'.sl
 ok:(S'.bs.all λp=>p.2.all (within0 m k))=true
def Sim.le{S':St}{m k:Nat}{a:Act}{w:World}(h:Sim w0 G0 S a w)(hl:Le S S' m k)(b:G0.pn<=m:=by first|exact QF _|exact Nat.le_of_ble_eq_true Z):Sim w0 G0 S' a w:=by
 obtain⟨d,c,e,f,g⟩:=hl;have:=h.less m k S'.sl f (by rw[<-c];exact g) b;rw[<-d,<-c,<-e]at this;exact this
def jM{c:Code}{S':St}(m k:Nat)(hl:Le S S' m k)(h:AWP w0 G0 c Q S')(b:G0.pn<=m:=by first|exact QF _|exact Nat.le_of_ble_eq_true Z):AWP w0 G0 c Q S:=λa w d=>h a w (d.le hl b)
def bn{c:Code}(I:Nat->St->Prop){j:Nat}{f:St}(m k:Nat)(o:I j f)(g:Le S f m k)(b:∀n S,I n S->AWP w0 G0 c (ug (λS'=>∃d a,d<n/\I d a/\Le S' a m k) Q) S)(i:G0.pn<=m:=by first|exact QF _|exact Nat.le_of_ble_eq_true Z):AWP w0 G0 (.loop c) Q S:=by
 refine E3 (λn S=>∃a,I n a/\Le S a m k) j ⟨f,o,g⟩ ?_;rintro n S ⟨a,s,hl⟩;refine jM m k hl ((b n a s).mono ?_) i;intro e S' h;cases e with
 |normal=>
  obtain⟨d,l,p,q,r⟩:=h;exact⟨d,p,l,q,r⟩
 |_=>exact h
def jZ{x y:Code}{b:Exit->St->Prop}(c:St)(m k:Nat)(h:AWP w0 G0 x (ug (λS'=>Le S' c m k) b) S)(f:AWP w0 G0 y Q c)(a:G0.pn<=m:=by first|exact QF _|exact Nat.le_of_ble_eq_true Z):AWP w0 G0 x (ug (AWP w0 G0 y Q) b) S:=h.mono λe S' d=>by
 cases e with
 |normal=>exact jM m k d f a
 |_=>exact d
end
def Lr{a:Int}{m:Nat}(h:a=m)(b:m<9223372036854775808):(Tree.sc (.int .i64 (IntKind.i64.wrap a)))=.sc (.int .i64 (m:Nat)):=by
 subst h;congr 2;rw[Sz];omega
def cB{c:TypeId}{x:Operand}{a b:ByteArray}{w:World}(h:a.size+b.size<=4611686018427387904):(do eqGuard .add c x y (.string a) (.string b);binOp .add c (.string a) (.string b):Sem Value).run prog w=.ok (.string (a++b)) w:=by
 simp[eqGuard,binOp,Op.stringOp];omega
def dm{α:Type}{a b:α}{l m:List α}(h:a=b)(c:l=m):a::l=b::m:=by rw[h,c]
def PD{k:IntKind}{a b:Int}(h:a=b):(Tree.sc (.int k a))=.sc (.int k b):=by rw[h]
def aw{p q:Bool}(h:p=q):(Tree.sc (.bool p))=.sc (.bool q):=by rw[h]
def D:type_of% @aw:=@aw
def iL(a b:Nat):decide ((a:Int)<(b:Int))=decide (a<b):=decide_eq_decide.2 O
def Me(a b:Nat):decide ((a:Int)<=(b:Int))=decide (a<=b):=decide_eq_decide.2 O
def DF(a b:Nat):decide ((a:Int)>(b:Int))=decide (b<a):=decide_eq_decide.2 O
def Ls(a b:Nat):decide ((a:Int)≥(b:Int))=decide (b<=a):=decide_eq_decide.2 O
def e9(a b:Nat):((a:Int)==(b:Int))=decide (a=b):=by
 rw[R4,beq_iff_eq,decide_eq_true_eq];omega
def qj(a b:Nat):((a:Int) !=(b:Int))=decide (a≠b):=by
 rw[R4,bne_iff_ne,decide_eq_true_eq];omega
structure LayT where
 agg:List (Nat×Nat)
 one:List (Nat×Bool)
 fld:List (Nat×List (Nat×Nat))
 siz:List (Nat×Nat)
 str:List (Nat×List (Nat×Nat)×List Value×List Tree)
 zer:List (Nat×List Value×List Tree)
structure LayT.OK (L:LayT):Prop where
 agg:∀t n,(t,n)∈L.agg->nT prog t=some n
 one:∀t b,(t,b)∈L.one->eN prog t=true
 fld:∀t l,(t,l)∈L.fld->∀j n,(j,n)∈l->gm prog t j=some n
 siz:∀t n,(t,n)∈L.siz->(prog.info? t).map (·.size)=some n
 str:∀t z,(t,z)∈L.str->mY prog t=some (z.1,z.2.1)/\z.2.1.map c7=z.2.2
 zer:∀t z,(t,z)∈L.zer->gn prog t=some z.1/\z.1.all cj=true/\z.1.map c7=z.2
def iW{α β:Type}{P:α->β->Prop}:∀t n,(t,n)∈([]:List (α×β))->P t n:=λ_ _ h=>by cases h
def bf{α β:Type}{P:α->β->Prop}{l:List (α×β)}{a:α}{b:β}(h:P a b)(d:∀t n,(t,n)∈l->P t n):∀t n,(t,n)∈(a,b)::l->P t n:=by
 intro t n c;rcases Qw.1 c with e|e
 ·cases e;exact h
 exact d t n e
section
variable {γ α β:Type}
def tJ:List (Nat×α)->Nat->(α->Option γ)->Option γ
 |[],_,_=>none
 |(i,a)::l,j,k=>cond (Nat.beq i j) (k a) (tJ l j k)
def gO{k:α->Option γ}{r:γ}{j:Nat}:∀{l:List (Nat×α)},tJ l j k=some r->∃a,(j,a)∈l/\k a=some r
 |[],h=>by cases h
 |(i,a)::l,h=>by
  simp only[tJ]at h;cases c:Nat.beq i j with
  |true=>
   rw[c]at h;cases Ql c;exact⟨a,Qs ..,h⟩
  |false=>
   rw[c]at h;obtain⟨b,d,e⟩:=gO (l:=l) h;exact⟨b,QA _ d,e⟩
def xv{k:Tree->Option γ}{r:γ}{j:Nat}:∀{l:List (Nat×Tree)},tJ l j k=some r->k (look l j)=some r
 |[],h=>by cases h
 |(i,a)::l,h=>by
  simp only[tJ]at h;simp only[look];cases b:Nat.beq i j with
  |true=>rw[b]at h;exact h
  |false=>rw[b]at h;exact xv (l:=l) h
def DG(sl:List (Nat×Tree))(x:Operand)(k:Tree->Option γ):Option γ:=
 match x with
 | .tmp s=>tJ sl s k
 | .const v=>k (.sc v)
 |_=>none
def vo{n:Nat}{sl:List (Nat×Tree)}{bs:List (TypeId×List Tree)}{rs:List (Option Row)}{x:Operand}{k:Tree->Option γ}{r:γ}(h:DG sl x k=some r):k (St.ev ⟨n,sl,bs,rs⟩ x)=some r:=by
 cases x with
 |tmp s=>exact xv h
 |const v=>exact h
 |_=>cases h
def vp:List α->Nat->(α->Option γ)->Option γ
 |[],_,_=>none
 |a::_,0,k=>k a
 |_::l,n+1,k=>vp l n k
def jw{k:α->Option γ}{r:γ}:∀{l:List α} {n:Nat},vp l n k=some r->∃a,l[n]? =some a/\k a=some r
 |[],_,h=>by cases h
 |a::_,0,h=>⟨a,Z,h⟩
 |_::l,n+1,h=>by simpa using jw (l:=l) (n:=n) h
def Mf:List α->Nat->α->(List α->Option γ)->Option γ
 |[],_,_,_=>none
 |_::l,0,v,k=>k (v::l)
 |a::l,n+1,v,k=>Mf l n v λl'=>k (a::l')
def BF{r:γ}{v:α}:∀{l:List α} {n:Nat} {k:List α->Option γ},Mf l n v k=some r->k (l.set n v)=some r
 |[],_,_,h=>by cases h
 |_::_,0,_,h=>h
 |_::l,n+1,k,h=>BF (l:=l) (n:=n) h
def I8:List α->α->(List α->Option γ)->Option γ
 |[],v,k=>k [v]
 |a::l,v,k=>I8 l v λl'=>k (a::l')
def vq{r:γ}{v:α}:∀{l:List α} {k:List α->Option γ},I8 l v k=some r->k (l++[v])=some r
 |[],_,h=>h
 |_::l,_,h=>vq (l:=l) h
def BG:List α->Nat->(List α->Option γ)->Option γ
 |l,0,k=>k l
 |[],_+1,_=>none
 |_::l,n+1,k=>BG l n k
def nZ{r:γ}{k:List α->Option γ}:∀{n:Nat} {l:List α},BG l n k=some r->n<=l.length/\k (l.drop n)=some r
 |0,l,h=>by cases l<;>exact⟨QF _,h⟩
 |n+1,[],h=>by cases h
 |n+1,_::l,h=>⟨Tr (nZ (n:=n) (l:=l) h).1,(nZ (n:=n) (l:=l) h).2⟩
def BH:List α->Nat->(List α->Option γ)->Option γ
 |_,0,k=>k []
 |[],_+1,_=>none
 |a::l,n+1,k=>BH l n λl'=>k (a::l')
def n3{r:γ}:∀{n:Nat} {l:List α} {k:List α->Option γ},BH l n k=some r->n<=l.length/\k (l.take n)=some r
 |0,l,_,h=>by cases l<;>exact⟨QF _,h⟩
 |n+1,[],_,h=>by cases h
 |n+1,a::l,k,h=>⟨Tr (n3 (n:=n) (l:=l) h).1,(n3 (n:=n) (l:=l) h).2⟩
def E7:List α->Nat->List α->(List α->Option γ)->Option γ
 |l,0,[],k=>k l
 |_::l,0,v::vs,k=>E7 l 0 vs λl'=>k (v::l')
 |a::l,n+1,vs,k=>E7 l n vs λl'=>k (a::l')
 |_,_,_,_=>none
def qr{r:γ}:∀{l:List α} {n:Nat} {vs:List α} {k:List α->Option γ},E7 l n vs k=some r->n+vs.length<=l.length/\k (l.take n++vs++l.drop (n+vs.length))=some r
 |[],0,[],_,h=>⟨Qi _,h⟩
 |_::_,0,[],_,h=>⟨QF _,h⟩
 |_::l,0,v::vs,k,h=>by
  obtain⟨c,b⟩:=qr (l:=l) (n:=0) (vs:=vs) h;refine⟨by simp only[Qn]at*;omega,?_⟩;simp only[Tb,Rv,Qn,QT]at b⊢;exact b
 |a::l,n+1,vs,k,h=>by
  obtain⟨c,b⟩:=qr (l:=l) (n:=n) (vs:=vs) h;refine⟨by simp only[Qn];omega,?_⟩;rw[show n+1+vs.length=(n+vs.length)+1 by omega];exact b
 |[],0,_::_,_,h=>by cases h
 |[],_+1,_,_,h=>by cases h
def DH:List Nat:=[0,1,2,3,4,5,6,7,8,9,10,11,12,13,14,15,16,17,18,19,20,21,22,23]
def vr{i a:Nat}(h:DH[i]? =some a):a=i:=by
 have:∀j:Fin 24,DH[j.1]? =some j.1:=I
 by_cases b:i<24
 ·have:=this ⟨i,b⟩;simp only at this;rw[this]at h;exact(QS h).symm
 rw[Rl (by simp only[DH,Qn,QC];omega)]at h;cases h
def Oh(n:Nat)(k:Nat->Option γ):Option γ:=vp DH n k
def I9{n:Nat}{k:Nat->Option γ}{r:γ}(h:Oh n k=some r):k n=some r:=by
 obtain⟨a,c,b⟩:=jw h;rw[vr c]at b;exact b
def Ja:List α->List Nat->(Nat->Option γ)->Option γ
 |[],b::_,k=>k b
 |_::l,_::m,k=>Ja l m k
 |_,[],_=>none
def vt{k:Nat->Option γ}{r:γ}:∀{l:List α} {m:List Nat},Ja l m k=some r->∃b,m[l.length]? =some b/\k b=some r
 |[],b::_,h=>⟨b,Z,h⟩
 |_::l,_::m,h=>by simpa using vt (l:=l) (m:=m) h
 |[],[],h=>by cases h
 |_::_,[],h=>by cases h
def Mg(b:Bool)(x:Option γ):Option γ:=cond b x none
def m5{b:Bool}{x:Option γ}{r:γ}(h:Mg b x=some r):b=true/\x=some r:=by
 cases b with
 |true=>exact⟨Z,h⟩
 |false=>cases h
def Mh(sl:List (Nat×Tree))(pl:List (Nat×Nat)):List (Nat×Operand)->List Tree->(List Tree->Option γ)->Option γ
 |[],cs,k=>k cs
 |(i,x)::ps,cs,k=>DG sl x λt=>Mg t.oneA (vp pl i λp=>Mg (Nat.beq t.cells.length p.2) (E7 cs p.1 t.cells λcs'=>Mh sl pl ps cs' k))
def BI{n:Nat}{sl:List (Nat×Tree)}{bs:List (TypeId×List Tree)}{rs:List (Option Row)}{d:List (Nat×Nat)}{r:γ}{k:List Tree->Option γ}:∀{ps:List (Nat×Operand)} {cs:List Tree},Mh sl d ps cs k=some r->∃a,ln (d[·]?) cs (ps.map λp=>(p.1,St.ev ⟨n,sl,bs,rs⟩ p.2))=some a/\((ps.map λp=>(p.1,St.ev ⟨n,sl,bs,rs⟩ p.2)).all λq=>q.2.oneA)=true/\k a=some r
 |[],cs,h=>⟨cs,Z,Z,h⟩
 |(i,x)::ps,cs,h=>by
  obtain⟨e,f⟩:=m5 (vo (n:=n) (bs:=bs) (rs:=rs) h);obtain⟨p,g,j⟩:=jw f;obtain⟨l,m⟩:=m5 j;obtain⟨t,o⟩:=qr m;obtain⟨a,s,b,c⟩:=BI (n:=n) (bs:=bs) (rs:=rs) o;refine⟨a,?_,?_,c⟩
  ·simp only[QM,ln,g];rw[if_neg (by rw[<-Ql l];omega)];exact s
  simp only[QM,Rc,e,b,Bool.and_self]
def m6(n:Nat)(d:Option Nat)(k:Nat->Option γ):Option γ:=
 match d with
 |some d=>Mg (Nat.blt d n) (k d)
 |none=>none
def fa{n:Nat}{d:Option Nat}{k:Nat->Option γ}{r:γ}(h:m6 n d k=some r):∃e,d=some e/\Nat.blt e n=true/\k e=some r:=by
 cases d with
 |some e=>exact⟨e,Z,(m5 h).1,(m5 h).2⟩
 |none=>cases h
def Pw(L:LayT)(n:Nat)(sl:List (Nat×Tree))(bs:List (TypeId×List Tree))(o:Oper)(k:List (Nat×Tree)->List (TypeId×List Tree)->Option γ):Option γ:=
 match o.guard with
 |some _=>none
 |none=>match o.op with
  | .move x=>DG sl x λt=>m6 n o.dst λd=>k ((d,t)::sl) bs
  | .assign x=>DG sl x λt=>m6 n o.dst λd=>k ((d,t)::sl) bs
  | .extract x j=>DG sl x λt=>match t with
   | .tup ts=>vp ts j λt=>m6 n o.dst λd=>k ((d,t)::sl) bs
   |_=>none
  | .fieldAddr s x j=>DG sl x λt=>match t with
   | .box b off=>tJ L.fld s λfs=>tJ fs j λfo=>Oh (off+fo) λm=>m6 n o.dst λd=>k ((d,.box b m)::sl) bs
   | .elp b off=>tJ L.fld s λfs=>tJ fs j λfo=>m6 n o.dst λd=>k ((d,.elp b (off+fo))::sl) bs
   | .ref cs=>tJ L.fld s λfs=>tJ fs j λfo=>BG cs fo λcs'=>m6 n o.dst λd=>k ((d,.ref cs')::sl) bs
   |_=>none
  | .load t x=>DG sl x λa=>match a with
   | .box b off=>vp bs b λp=>match tJ L.one t some with
    |some _=>vp p.2 off λc=>m6 n o.dst λd=>k ((d,c)::sl) bs
    |none=>tJ L.agg t λm=>BG p.2 off λcs=>BH cs m λcs'=>m6 n o.dst λd=>k ((d,.agg cs')::sl) bs
   | .ref cs=>match tJ L.one t some with
    |some _=>vp cs 0 λc=>m6 n o.dst λd=>k ((d,c)::sl) bs
    |none=>tJ L.agg t λm=>BH cs m λcs'=>m6 n o.dst λd=>k ((d,.agg cs')::sl) bs
   |_=>none
  | .store ty x y=>match o.dst with
   |some _=>none
   |none=>DG sl x λa=>match a with
    | .box b off=>vp bs b λp=>DG sl y λt=>Mg (t.oneA&&t.cells.all Tree.one&&t.cells.all Tree.noDig) (tJ L.siz ty λm=>Mg (Nat.beq t.cells.length m) (E7 p.2 off t.cells λcs=>Mf bs b (p.1,cs) λbs'=>k sl bs'))
    |_=>none
  | .alloc ty=>tJ L.zer ty λz=>Ja bs DH λb=>I8 bs (ty,z.2) λbs'=>m6 n o.dst λd=>k ((d,.box b 0)::sl) bs'
  | .box ty x=>DG sl x λt=>Mg (t.oneA&&t.cells.all Tree.noDig) (Ja bs DH λb=>I8 bs (ty,t.cells) λbs'=>m6 n o.dst λd=>k ((d,.box b 0)::sl) bs')
  | .build ty ps=>tJ L.str ty λz=>Mh sl z.1 ps.toList z.2.2 λcs=>m6 n o.dst λd=>k ((d,.agg cs)::sl) bs
  |_=>none
def PE(n:Nat)(sl:List (Nat×Tree))(bs:List (TypeId×List Tree))(o:Oper)(sl':List (Nat×Tree))(bs':List (TypeId×List Tree)):Prop:=∀(w0:World) (G0:Bse) (ops:Array Oper) (rest:List Oper) (Q:Exit->St->Prop) (rs:List (Option Row)),AOps w0 G0 ops rest Q ⟨n,sl',bs',rs⟩->AOps w0 G0 ops (o::rest) Q ⟨n,sl,bs,rs⟩
def jx{n:Nat}{sl:List (Nat×Tree)}{bs:List (TypeId×List Tree)}{rs rs':List (Option Row)}{x:Operand}:St.ev ⟨n,sl,bs,rs⟩ x=St.ev ⟨n,sl,bs,rs'⟩ x:=by cases x<;>rfl
def E8{L:LayT}(G:L.OK){n:Nat}{sl:List (Nat×Tree)}{bs:List (TypeId×List Tree)}{o:Oper}{k:List (Nat×Tree)->List (TypeId×List Tree)->Option γ}{r:γ}(h:Pw L n sl bs o k=some r):∃sl' bs',PE n sl bs o sl' bs'/\k sl' bs'=some r:=by
 have E:∀{x:Operand} {k:Tree->Option γ},DG sl x k=some r->∀rs,k (St.ev ⟨n,sl,bs,rs⟩ x)=some r:=λh rs=>vo h
 unfold Pw at h;cases D:o.guard with
 |some g=>rw[D]at h;cases h
 |none=>
  rw[D]at h;simp only at h;cases v:o.op with
  |move x=>
   rw[v]at h;obtain⟨d,hd,q,l⟩:=fa (E h []);refine⟨_,_,?_,l⟩;exact λw0 G0 ops f Q rs K=>iz D hd q (ai v jx) K
  |assign x=>
   rw[v]at h;obtain⟨d,hd,q,l⟩:=fa (E h []);refine⟨_,_,?_,l⟩;exact λw0 G0 ops f Q rs K=>iz D hd q (b7 v jx) K
  |extract x j=>
   rw[v]at h;have i:=E h [];cases w:St.ev ⟨n,sl,bs,[]⟩ x with
   |tup ts=>
    rw[w]at i;obtain⟨t,C,A⟩:=jw i;obtain⟨d,hd,q,l⟩:=fa A;refine⟨_,_,?_,l⟩;exact λw0 G0 ops f Q rs K=>iz D hd q (zC v (jx.trans w) C) K
   |_=>rw[w]at i;cases i
  |fieldAddr s x j=>
   rw[v]at h;have i:=E h [];cases w:St.ev ⟨n,sl,bs,[]⟩ x with
   |box b off=>
    rw[w]at i;obtain⟨T,F,C⟩:=gO i;obtain⟨S,N,A⟩:=gO C;obtain⟨d,hd,q,l⟩:=fa (I9 A);refine⟨_,_,?_,l⟩;exact λw0 G0 ops f Q rs K=>iz D hd q (ao v (jx.trans w) (G.fld _ _ F _ _ N) Z) K
   |elp b off=>
    rw[w]at i;obtain⟨T,F,C⟩:=gO i;obtain⟨S,N,A⟩:=gO C;obtain⟨d,hd,q,l⟩:=fa A;refine⟨_,_,?_,l⟩;exact λw0 G0 ops f Q rs K=>iz D hd q (vh v (jx.trans w) (G.fld _ _ F _ _ N) Z) K
   |ref cs=>
    rw[w]at i;obtain⟨T,F,C⟩:=gO i;obtain⟨S,N,A⟩:=gO C;obtain⟨_,B⟩:=nZ A;obtain⟨d,hd,q,l⟩:=fa B;refine⟨_,_,?_,l⟩;exact λw0 G0 ops f Q rs K=>iz D hd q (be v (jx.trans w) (G.fld _ _ F _ _ N) Z) K
   |_=>rw[w]at i;cases i
  |load t x=>
   rw[v]at h;have i:=E h [];have O:∀{u},tJ L.one t some=some u->eN prog t=true:=λH=>by
    obtain⟨a,m,_⟩:=gO H;exact G.one _ _ m
   cases w:St.ev ⟨n,sl,bs,[]⟩ x with
   |box b off=>
    rw[w]at i;obtain⟨p,C,A⟩:=jw i;cases H:tJ L.one t some with
    |some u=>
     rw[H]at A;obtain⟨c,B,I⟩:=jw A;obtain⟨d,hd,q,l⟩:=fa I;refine⟨_,_,?_,l⟩;exact λw0 G0 ops f Q rs K=>iz D hd q (aA v (jx.trans w) C (O H) B) K
    |none=>
     rw[H]at A;obtain⟨m,F,B⟩:=gO A;obtain⟨I,R⟩:=nZ B;obtain⟨J,M⟩:=n3 R;obtain⟨d,hd,q,l⟩:=fa M;rw[QZ]at J;refine⟨_,_,?_,l⟩;exact λw0 G0 ops f Q rs K=>iz D hd q (bw v (jx.trans w) C (G.agg _ _ F) (by rw[Rh];show off+m<=p.2.length;omega) Z) K
   |ref cs=>
    rw[w]at i;cases H:tJ L.one t some with
    |some u=>
     simp only[H]at i;obtain⟨c,B,I⟩:=jw i;obtain⟨d,hd,q,l⟩:=fa I;refine⟨_,_,?_,l⟩;exact λw0 G0 ops f Q rs K=>iz D hd q (aX v (jx.trans w) (O H) B) K
    |none=>
     simp only[H]at i;obtain⟨m,F,B⟩:=gO i;obtain⟨J,M⟩:=n3 B;obtain⟨d,hd,q,l⟩:=fa M;refine⟨_,_,?_,l⟩;exact λw0 G0 ops f Q rs K=>iz D hd q (bm v (jx.trans w) (G.agg _ _ F) (by rw[Rh];exact J) Z) K
   |_=>rw[w]at i;cases i
  |store ty x y=>
   rw[v]at h;cases hd:o.dst with
   |some d=>rw[hd]at h;cases h
   |none=>
    rw[hd]at h;have i:=E h [];cases w:St.ev ⟨n,sl,bs,[]⟩ x with
    |box b off=>
     rw[w]at i;obtain⟨p,C,A⟩:=jw i;obtain⟨B,I⟩:=m5 (E A []);obtain⟨m,F,R⟩:=gO I;obtain⟨J,M⟩:=m5 R;obtain⟨U,P⟩:=qr M;have l:=BF P;simp only[Qh]at B;have e:=Ql J;refine⟨_,_,?_,l⟩;exact λw0 G0 ops f Q rs K=>xu v D hd (jx.trans w) C jx B.1.1 B.1.2 B.2 (G.siz _ _ F) e (by rw[Rh];show off+m<=p.2.length;rw[<-e];exact U) Z K
    |_=>rw[w]at i;cases i
  |alloc ty=>
   rw[v]at h;obtain⟨z,F,C⟩:=gO h;obtain⟨b,A,B⟩:=vt C;obtain⟨d,hd,q,l⟩:=fa (vq B);obtain⟨z1,z2,V⟩:=G.zer _ _ F;refine⟨_,_,?_,l⟩;exact λw0 G0 ops f Q rs K=>xr v D hd q z1 z2 V (vr A).symm Z K
  |box ty x=>
   rw[v]at h;obtain⟨i,C⟩:=m5 (E h []);obtain⟨b,A,B⟩:=vt C;obtain⟨d,hd,q,l⟩:=fa (vq B);simp only[Qh]at i;refine⟨_,_,?_,l⟩;exact λw0 G0 ops f Q rs K=>DE v D hd q jx i.1 Z i.2 (vr A).symm Z K
  |build ty ps=>
   rw[v]at h;obtain⟨z,F,C⟩:=gO h;obtain⟨cs,A,B,I⟩:=BI (n:=n) (bs:=bs) (rs:=[]) C;obtain⟨d,hd,q,l⟩:=fa I;obtain⟨z1,z2⟩:=G.str _ _ F;refine⟨_,_,?_,l⟩;exact λw0 G0 ops f Q rs K=>iz D hd q (rc v z1 (SE λp _=>congrArg (Prod.mk p.1) jx) B (by rw[z2];exact A)) K
  |_=>rw[v]at h;cases h
end
def DJ(L:LayT)(n:Nat):Nat->List Oper->List (Nat×Tree)->List (TypeId×List Tree)->Option (List Oper×List (Nat×Tree)×List (TypeId×List Tree))
 |0,os,sl,bs=>some (os,sl,bs)
 |k+1,o::os,sl,bs=>Pw L n sl bs o λsl' bs'=>DJ L n k os sl' bs'
 |_+1,[],_,_=>none
def BJ{L:LayT}(c:L.OK){w0:World}{G0:Bse}{ops:Array Oper}{Q:Exit->St->Prop}{n:Nat}{rs:List (Option Row)}:∀(k:Nat) {b a:List Oper} {sl sl':List (Nat×Tree)} {bs bs':List (TypeId×List Tree)},DJ L n k b sl bs=some (a,sl',bs')->AOps w0 G0 ops a Q ⟨n,sl',bs',rs⟩->AOps w0 G0 ops b Q ⟨n,sl,bs,rs⟩
 |0,_,_,_,_,_,_,h,K=>by cases h;exact K
 |k+1,[],_,_,_,_,_,h,_=>by cases h
 |k+1,o::b,_,_,_,_,_,h,K=>by
  obtain⟨g,d,e,f⟩:=E8 c h;exact e _ _ _ _ _ _ (BJ c k f K)
def vu:LayT where
 agg:=[(27,3),(31,4),(34,3),(43,2),(82,2),(134,2),(144,3),(146,4),(148,9),(166,3),(181,4),(184,4),(230,3)]
 one:=[(2,true),(3,true),(4,true),(5,true),(9,true),(22,true),(25,true),(29,true),(40,true),(41,true),(46,true),(49,true),(79,true),(80,true),(88,true),(96,true),(114,true),(142,true),(164,true),(179,true)]
 fld:=[(27,[(0,0),(1,1),(2,2)]),(31,[(0,0),(1,1)]),(34,[(0,0),(1,1),(2,2)]),(43,[(0,0),(1,1)]),(59,[(1,1)]),(82,[(0,0),(1,1)]),(92,[(0,0),(1,1),(2,2)]),(101,[(0,0),(1,1),(2,2)]),(134,[(0,0),(1,1)]),(140,[(0,0),(1,1)]),(144,[(0,0),(1,1),(2,2)]),(146,[(0,0),(1,1)]),(148,[(0,0),(1,1),(2,5)]),(166,[(0,0),(1,1),(2,2)]),(181,[(0,0),(1,3)]),(184,[(0,0),(1,1)]),(230,[(0,0),(1,1),(2,2)])]
 siz:=[(3,1),(4,1),(5,1),(9,1),(22,1),(27,3),(29,1),(31,4),(34,3),(40,1),(41,1),(43,2),(46,1),(49,1),(79,1),(80,1),(82,2),(92,3),(134,2),(142,1),(144,3),(146,4),(148,9),(164,1),(166,3),(179,1),(181,4),(184,4),(230,3)]
 str:=[(27,[(0,1),(1,1),(2,1)],[.bool false,.slice none 0 0,.slice none 0 0],[.sc (.bool false),.sl [],.sl []]),(31,[(0,1),(1,3)],[.slice none 0 0,.bool false,.slice none 0 0,.slice none 0 0],[.sl [],.sc (.bool false),.sl [],.sl []]),(34,[(0,1),(1,1),(2,1)],[.int .i64 0,.int .i64 0,.string (⟨#[]⟩)],[.sc (.int .i64 0),.sc (.int .i64 0),.sc (.string (⟨#[]⟩))]),(43,[(0,1),(1,1)],[.slice none 0 0,.slice none 0 0],[.sl [],.sl []]),(82,[(0,1),(1,1)],[.slice none 0 0,.slice none 0 0],[.sl [],.sl []]),(92,[(0,1),(1,1),(2,1)],[.slice none 0 0,.int .i64 0,.bool false],[.sl [],.sc (.int .i64 0),.sc (.bool false)]),(101,[(0,1),(1,1),(2,1)],[.slice none 0 0,.int .i64 0,.bool false],[.sl [],.sc (.int .i64 0),.sc (.bool false)]),(134,[(0,1),(1,1)],[.int .i64 0,.string (⟨#[]⟩)],[.sc (.int .i64 0),.sc (.string (⟨#[]⟩))]),(140,[(0,1),(1,1)],[.int .i64 0,.string (⟨#[]⟩)],[.sc (.int .i64 0),.sc (.string (⟨#[]⟩))]),(144,[(0,1),(1,1),(2,1)],[.string (⟨#[]⟩),.bool false,.slice none 0 0],[.sc (.string (⟨#[]⟩)),.sc (.bool false),.sl []]),(146,[(0,1),(1,3)],[.string (⟨#[]⟩),.int .i64 0,.int .i64 0,.string (⟨#[]⟩)],[.sc (.string (⟨#[]⟩)),.sc (.int .i64 0),.sc (.int .i64 0),.sc (.string (⟨#[]⟩))]),(148,[(0,1),(1,4),(5,4)],[.int .i64 0,.string (⟨#[]⟩),.int .i64 0,.int .i64 0,.string (⟨#[]⟩),.string (⟨#[]⟩),.int .i64 0,.int .i64 0,.string (⟨#[]⟩)],[.sc (.int .i64 0),.sc (.string (⟨#[]⟩)),.sc (.int .i64 0),.sc (.int .i64 0),.sc (.string (⟨#[]⟩)),.sc (.string (⟨#[]⟩)),.sc (.int .i64 0),.sc (.int .i64 0),.sc (.string (⟨#[]⟩))]),(166,[(0,1),(1,1),(2,1)],[.string (⟨#[]⟩),.bool false,.slice none 0 0],[.sc (.string (⟨#[]⟩)),.sc (.bool false),.sl []]),(181,[(0,3),(3,1)],[.string (⟨#[]⟩),.bool false,.slice none 0 0,.slice none 0 0],[.sc (.string (⟨#[]⟩)),.sc (.bool false),.sl [],.sl []]),(184,[(0,1),(1,3)],[.slice none 0 0,.bool false,.slice none 0 0,.slice none 0 0],[.sl [],.sc (.bool false),.sl [],.sl []]),(230,[(0,1),(1,1),(2,1)],[.string (⟨#[]⟩),.int .i64 0,.bool false],[.sc (.string (⟨#[]⟩)),.sc (.int .i64 0),.sc (.bool false)])]
 zer:=[(2,[.int .i64 0],[.sc (.int .i64 0)]),(3,[.int .i64 0],[.sc (.int .i64 0)]),(5,[.int .u8 0],[.sc (.int .u8 0)]),(9,[.string (⟨#[]⟩)],[.sc (.string (⟨#[]⟩))]),(22,[.slice none 0 0],[.sl []]),(27,[.bool false,.slice none 0 0,.slice none 0 0],[.sc (.bool false),.sl [],.sl []]),(29,[.slice none 0 0],[.sl []]),(31,[.slice none 0 0,.bool false,.slice none 0 0,.slice none 0 0],[.sl [],.sc (.bool false),.sl [],.sl []]),(34,[.int .i64 0,.int .i64 0,.string (⟨#[]⟩)],[.sc (.int .i64 0),.sc (.int .i64 0),.sc (.string (⟨#[]⟩))]),(43,[.slice none 0 0,.slice none 0 0],[.sl [],.sl []]),(59,[.pointer none,.slice none 0 0],[.sc (.pointer none),.sl []]),(82,[.slice none 0 0,.slice none 0 0],[.sl [],.sl []]),(92,[.slice none 0 0,.int .i64 0,.bool false],[.sl [],.sc (.int .i64 0),.sc (.bool false)]),(134,[.int .i64 0,.string (⟨#[]⟩)],[.sc (.int .i64 0),.sc (.string (⟨#[]⟩))]),(140,[.int .i64 0,.string (⟨#[]⟩)],[.sc (.int .i64 0),.sc (.string (⟨#[]⟩))]),(144,[.string (⟨#[]⟩),.bool false,.slice none 0 0],[.sc (.string (⟨#[]⟩)),.sc (.bool false),.sl []]),(146,[.string (⟨#[]⟩),.int .i64 0,.int .i64 0,.string (⟨#[]⟩)],[.sc (.string (⟨#[]⟩)),.sc (.int .i64 0),.sc (.int .i64 0),.sc (.string (⟨#[]⟩))]),(148,[.int .i64 0,.string (⟨#[]⟩),.int .i64 0,.int .i64 0,.string (⟨#[]⟩),.string (⟨#[]⟩),.int .i64 0,.int .i64 0,.string (⟨#[]⟩)],[.sc (.int .i64 0),.sc (.string (⟨#[]⟩)),.sc (.int .i64 0),.sc (.int .i64 0),.sc (.string (⟨#[]⟩)),.sc (.string (⟨#[]⟩)),.sc (.int .i64 0),.sc (.int .i64 0),.sc (.string (⟨#[]⟩))]),(166,[.string (⟨#[]⟩),.bool false,.slice none 0 0],[.sc (.string (⟨#[]⟩)),.sc (.bool false),.sl []]),(181,[.string (⟨#[]⟩),.bool false,.slice none 0 0,.slice none 0 0],[.sc (.string (⟨#[]⟩)),.sc (.bool false),.sl [],.sl []]),(184,[.slice none 0 0,.bool false,.slice none 0 0,.slice none 0 0],[.sl [],.sc (.bool false),.sl [],.sl []]),(230,[.string (⟨#[]⟩),.int .i64 0,.bool false],[.sc (.string (⟨#[]⟩)),.sc (.int .i64 0),.sc (.bool false)])]
def BK:vu.OK where
 agg:=bf U<|bf U<|bf U<|bf U<|bf U<|bf U<|bf U<|bf U<|bf U<|bf U<|bf U<|bf U<|bf U<|iW
 one:=bf U<|bf U<|bf U<|bf U<|bf U<|bf U<|bf U<|bf U<|bf U<|bf U<|bf U<|bf U<|bf U<|bf U<|bf U<|bf U<|bf U<|bf U<|bf U<|bf U<|iW
 fld:=bf (bf U<|bf U<|bf U<|iW)<|bf (bf U<|bf U<|iW)<|bf (bf U<|bf U<|bf U<|iW)<|bf (bf U<|bf U<|iW)<|bf (bf U<|iW)<|bf (bf U<|bf U<|iW)<|bf (bf U<|bf U<|bf U<|iW)<|bf (bf U<|bf U<|bf U<|iW)<|bf (bf U<|bf U<|iW)<|bf (bf U<|bf U<|iW)<|bf (bf U<|bf U<|bf U<|iW)<|bf (bf U<|bf U<|iW)<|bf (bf U<|bf U<|bf U<|iW)<|bf (bf U<|bf U<|bf U<|iW)<|bf (bf U<|bf U<|iW)<|bf (bf U<|bf U<|iW)<|bf (bf U<|bf U<|bf U<|iW)<|iW
 siz:=bf U<|bf U<|bf U<|bf U<|bf U<|bf U<|bf U<|bf U<|bf U<|bf U<|bf U<|bf U<|bf U<|bf U<|bf U<|bf U<|bf U<|bf U<|bf U<|bf U<|bf U<|bf U<|bf U<|bf U<|bf U<|bf U<|bf U<|bf U<|bf U<|iW
 str:=bf (⟨U,Z⟩)<|bf (⟨U,Z⟩)<|bf (⟨U,Z⟩)<|bf (⟨U,Z⟩)<|bf (⟨U,Z⟩)<|bf (⟨U,Z⟩)<|bf (⟨U,Z⟩)<|bf (⟨U,Z⟩)<|bf (⟨U,Z⟩)<|bf (⟨U,Z⟩)<|bf (⟨U,Z⟩)<|bf (⟨U,Z⟩)<|bf (⟨U,Z⟩)<|bf (⟨U,Z⟩)<|bf (⟨U,Z⟩)<|bf (⟨U,Z⟩)<|iW
 zer:=bf (⟨U,U,Z⟩)<|bf (⟨U,U,Z⟩)<|bf (⟨U,U,Z⟩)<|bf (⟨U,U,Z⟩)<|bf (⟨U,U,Z⟩)<|bf (⟨U,U,Z⟩)<|bf (⟨U,U,Z⟩)<|bf (⟨U,U,Z⟩)<|bf (⟨U,U,Z⟩)<|bf (⟨U,U,Z⟩)<|bf (⟨U,U,Z⟩)<|bf (⟨U,U,Z⟩)<|bf (⟨U,U,Z⟩)<|bf (⟨U,U,Z⟩)<|bf (⟨U,U,Z⟩)<|bf (⟨U,U,Z⟩)<|bf (⟨U,U,Z⟩)<|bf (⟨U,U,Z⟩)<|bf (⟨U,U,Z⟩)<|bf (⟨U,U,Z⟩)<|bf (⟨U,U,Z⟩)<|bf (⟨U,U,Z⟩)<|iW
def ay{w0:World}{G0:Bse}{ops:Array Oper}{Q:Exit->St->Prop}{n:Nat}{rs:List (Option Row)}(k:Nat){b a:List Oper}{sl sl':List (Nat×Tree)}{bs bs':List (TypeId×List Tree)}(h:DJ vu n k b sl bs=some (a,sl',bs'))(K:AOps w0 G0 ops a Q ⟨n,sl',bs',rs⟩):AOps w0 G0 ops b Q ⟨n,sl,bs,rs⟩:=BJ BK k h K
def bO{w0:World}{G0:Bse}{id:Nat}{Q:Exit->St->Prop}{n:Nat}{rs:List (Option Row)}(k:Nat){a:List Oper}{sl sl':List (Nat×Tree)}{bs bs':List (TypeId×List Tree)}(h:DJ vu n k a sl bs=some ([],sl',bs'))(K:Q .normal ⟨n,sl',bs',rs⟩):AWP w0 G0 (.region id a.toArray false) Q ⟨n,sl,bs,rs⟩:=am (ay k h (ah K))
abbrev nI(i:Nat):Tree:=.sc (.int .i64 ((i:Nat):Int))
abbrev bT(b:Bool):Tree:=.sc (.bool b)
abbrev iT(i:Int):Tree:=.sc (.int .i64 i)
abbrev sT(s:ByteArray):Tree:=.sc (.string s)
def an{w0:World}{G0:Bse}{Q:Exit->St->Prop}{S:St}{c:Operand}{x y:Code}{P:Prop}[Decidable P](a:S.ev c=.sc (.bool (decide P)))(d:P->AWP w0 G0 x Q S)(b:¬P->AWP w0 G0 y Q S):AWP w0 G0 (.cond c x y) Q S:=aF a (λh=>d (of_decide_eq_true h)) λh=>b (of_decide_eq_false h)
def jy{a:Int}{m:Nat}(h:a=m/\m<9223372036854775808):(Tree.sc (.int .i64 (IntKind.i64.wrap a)))=nI m:=Lr h.1 h.2
def Keeps.rf{S:St}{m k:Nat}:∀{l:List (Nat×Tree)},l.map (λp=>S.get p.1)=l.map (λp=>p.2)->(l.all λp=>within m k p.2)=true->Keeps S m k l
 |[],_,_=>.nil
 |(i,t)::l,h,hw=>by
  rw[QM,QM]at h;injection h with a b
  rw[Rc,Qh]at hw;exact .cons a hw.1 (Keeps.rf b hw.2)
def Le.rf{S S':St}{m k:Nat}(a:S'.n=S.n:=by rfl)(b:S'.bs=S.bs.take m:=by rfl)(c:S'.rs=S.rs.take k:=by rfl)(d:S'.sl.map (λp=>S.get p.1)=S'.sl.map (λp=>p.2):=by rfl)(e:(S'.sl.all λp=>within m k p.2)=true:=by rfl)(f:(S'.bs.all λp=>p.2.all (within0 m k))=true:=by rfl):Le S S' m k:=⟨a,b,c,Keeps.rf d e,f⟩
