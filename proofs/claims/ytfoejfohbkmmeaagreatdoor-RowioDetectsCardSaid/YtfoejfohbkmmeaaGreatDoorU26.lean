import Derived.Test.YtfoejfohbkmmeaaGreatDoorU25
import Derived.Test.YtfoejfohbkmmeaaGreatDoorU08
import Derived.Test.YtfoejfohbkmmeaaGreatDoorU00
import Derived.Test.YtfoejfohbkmmeaaGreatDoorU11
import Derived.Test.YtfoejfohbkmmeaaGreatDoorU17
import Derived.Lib.AppendZerosOnto
import Derived.ArgAppend
import Derived.Laws.NewBlocks
import Derived.Shelf.Spec.SlicesInsert
set_option maxRecDepth 100000
set_option maxHeartbeats 4000000
namespace Go.Proofs.YtfoejfohbkmmeaaGreatDoor
open Go.RowKit
open Lib renaming hid→J
def lO(p q:Rat):Int:=if p<q then-1 else if q<p then 1 else 0
theorem xL(a b:Nat):eu (a:Int) (b:Int)=if a<b then-1 else if b<a then 1 else 0:=by
 unfold eu;by_cases h:a<b
 ·rw[if_pos h,if_pos (by omega)]
 by_cases c:b<a
 ·rw[if_neg h,if_pos c,if_neg (by omega),if_pos (by omega)]
 rw[if_neg h,if_neg c,if_neg (by omega),if_neg (by omega)]
theorem BT{p q:Rat}(h:bP p<bP q):p<q:=by
 unfold bP at h;rw[Rat.lt_iff];have d:=p.den_pos;have f:=q.den_pos;rcases Ph p.num 0 with a|a|a<;>rcases Ph q.num 0 with b|b|b<;>
  first
   |(rw[NR a,NR b]at h;omega)
   |(rw[N3 a,N3 b]at h;omega)
   |(rw[a,b]at h;simp at h)
   |(rw[N3 a,NR b]at h;omega)
   |(rw[a,NR b]at h;simp at h)
   |(rw[N3 a,b]at h;simp at h)
   |skip
 ·rw[b];simp only[Int.zero_mul];exact PS a (by omega)
 ·have c:p.num*q.den<0:=PS a (by omega);have e:0<q.num*p.den:=Int.mul_pos b (by omega);omega
 rw[a];simp only[Int.zero_mul];exact Int.mul_pos b (by omega)
theorem xM{p q:Rat}(h:bP p=bP q):bP p*eu ((p.num.natAbs*q.den:Nat):Int) ((q.num.natAbs*p.den:Nat):Int)=lO p q:=by
 have d:p<q↔p.num*q.den<q.num*p.den:=Rat.lt_iff p q;have c:q<p↔q.num*p.den<p.num*q.den:=Rat.lt_iff q p;unfold lO;simp only[d,c];rw[xL];unfold bP at h⊢;rcases Ph p.num 0 with a|a|a
 ·rw[NR a]at h⊢;have b:q.num<0:=Int.sign_neg_iff.1 (by omega);have f:((p.num.natAbs*q.den:Nat):Int)= -(p.num*q.den):=by push_cast;rw[PL (by omega)];simp[Qz]
  have e:((q.num.natAbs*p.den:Nat):Int)= -(q.num*p.den):=by push_cast;rw[PL (by omega)];simp[Qz]
  generalize p.num.natAbs*q.den=A at*;generalize q.num.natAbs*p.den=B at*;generalize p.num*(q.den:Int)=X at*;generalize q.num*(p.den:Int)=Y at*;split<;>split<;>first|omega|(split<;>omega)|skip
  all_goals (split<;>first|omega|(split<;>omega))
 ·rw[a]at h⊢;have b:q.num=0:=PR.1 (by rw[<-h];rfl);rw[b];simp
 rw[N3 a]at h⊢;have b:0<q.num:=Int.sign_pos_iff.1 (by omega);have f:((p.num.natAbs*q.den:Nat):Int)=p.num*q.den:=by push_cast;rw[Qj (by omega)]
 have e:((q.num.natAbs*p.den:Nat):Int)=q.num*p.den:=by push_cast;rw[Qj (by omega)]
 generalize p.num.natAbs*q.den=A at*;generalize q.num.natAbs*p.den=B at*;generalize p.num*(q.den:Int)=X at*;generalize q.num*(p.den:Int)=Y at*;split<;>split<;>first|omega|(split<;>omega)|skip
 all_goals (split<;>first|omega|(split<;>omega))
theorem z6(p q:Rat): -1<=lO p q/\lO p q<=1:=by
 unfold lO;split
 ·omega
 split<;>omega
theorem sB(p q:Rat):0<lO p q↔q<p:=by
 unfold lO;by_cases h:p<q
 ·rw[if_pos h];simp;rw[Rat.not_lt];exact Rat.le_of_lt h
 rw[if_neg h];by_cases a:q<p
 ·rw[if_pos a];simp[a]
 rw[if_neg a];simp[a]
theorem xN{a b:Nat}(g:(ay a).length<=262144)(f:(ay b).length<=262144):(ay (a*b)).length<=1073741823:=by
 have c:=b4 (ay a) (bY a);have d:=b4 (ay b) (bY b);rw[aI]at c d;have e:a*b<4294967296^((ay a).length+(ay b).length):=by
  rw[N2];exact PY c d
 exact L6 (aR e) (by omega)
theorem jA{n:Nat}(h:n<18446744073709551616):(ay n).length<=262144:=L6 (aR (k:=2) (Mp h (by decide))) (by decide)
theorem fX:j4 Tryz.prog 65 1=some 1:=by kernel_rfl
theorem fY:j4 Tryz.prog 65 2=some 2:=by kernel_rfl
theorem dU:iU Tryz.prog 63=true:=by kernel_rfl
theorem Hm(p q:Rat)(c:Fit 262144 p)(g:Fit 262144 q):Ct 82 [dp p,dp q] (iT (lO p q)):=by
 refine Ct.of (n:=32) Tryz.func82 Z Z Z Z Z fun w0 G0=>?_
 refine ab<|aj 3 Z<|ab<|ci (fu:=6) [some 7,some 8,some 9,some 10,some 5,some 6] [.agg (aU p),iT (bP p),.agg (aU q),iT (bP q),iT (bP p),iT (bP q)] (by kernel_rfl) Z Z (by kernel_rfl) Z ?_ ?_
 ·refine Chain.op Z (aJ Z Z Z aN Z Z)<|Chain.op Z (ar Z (kE p c) Z Z)<|Chain.op Z (aJ Z Z Z aN Z Z)<|Chain.op Z (ar Z (kE q g) Z Z)<|Chain.op Z (bW Z Z)<|Chain.op Z (bW Z Z)<|Chain.nil
 refine ab<|ab<|ae<|aa 2 Z<|af (t:=bT ((bP p) !=(bP q))) Z Z Z (ai Z Z Z Zy)<|ag<|aH Z (fun a=>?_) (fun a=>?_)
 ·refine ab<|ab<|ae<|aa 2 Z<|af (t:=bT (decide ((bP p)<(bP q)))) Z Z Z (ai Z Z Z Zy)<|ag<|aF Z (fun b=>?_) (fun b=>?_)
  ·refine ab<|aj 1 Z<|aC<|⟨.inr Z,_,.cons Z .nil,ep (by unfold lO;rw[if_pos (BT b)]),Z⟩
  refine ax<|ab<|aj 1 Z<|aC<|⟨.inr Z,_,.cons Z .nil,ep (by unfold lO;have h:bP p≠bP q:=(by simpa using a);have f:=BT (p:=q) (q:=p) (by omega);rw[if_neg (by rw[Rat.not_lt];exact Rat.le_of_lt f),if_pos f]),Z⟩
 have d:bP p=bP q:=by simpa using a
 refine ax<|ab<|ab<|ae<|aa 1 Z<|af (t:=bT ((bP p)==0)) Z Z Z (ai Z Z Z Zy)<|ag<|aH Z (fun e=>?_) (fun e=>?_)
 ·refine ab<|aj 1 Z<|aC<|⟨.inr Z,_,.cons Z .nil,ep (by rw[<-xM d,show bP p=0 from by simpa using e];simp),Z⟩
 refine ax<|ab<|ci (fu:=14) [some 19,some 20,some 21,some 22,some 23,some 24,some 25,some 26,some 27,some 28,some 29,some 30,some 31,some 4] [iT (bP p),.box 0 1,aM p.num.natAbs,.box 1 2,aM q.den,aM (p.num.natAbs*q.den),.box 1 1,aM q.num.natAbs,.box 0 2,aM p.den,aM (q.num.natAbs*p.den),iT (eu ((p.num.natAbs*q.den:Nat):Int) ((q.num.natAbs*p.den:Nat):Int)),iT (lO p q),iT (lO p q)] (by kernel_rfl) Z Z (by kernel_rfl) Z ?_ ?_
 ·refine Chain.op Z (aw Z Z)<|Chain.op Z (az Z Z fX Z)<|Chain.op Z (aD Z Z Z dU Z)<|Chain.op Z (az Z Z fY Z)<|Chain.op Z (aD Z Z Z dU Z)<|Chain.op Z (ar Z (oI _ _ (L6 c.num (by decide)) (L6 g.den (by decide))) Z Z)<|Chain.op Z (az Z Z fX Z)<|Chain.op Z (aD Z Z Z dU Z)<|Chain.op Z (az Z Z fY Z)<|Chain.op Z (aD Z Z Z dU Z)<|Chain.op Z (ar Z (oI _ _ (L6 g.num (by decide)) (L6 c.den (by decide))) Z Z)<|Chain.op Z (ar Z (Hg _ _ (xN c.num g.den) (xN g.num c.den)) Z Z)<|Chain.op Z (ah (ai Z Z Z Zy) (ep (by rw[xM d,Ns];have:=z6 p q;omega)))<|Chain.op Z (bW Z Z)<|Chain.nil
 refine aC<|⟨.inr Z,_,.cons Z .nil,Z,Z⟩
theorem Hn(a b:Int)(e: -9223372036854775808<=a)(g:a<=9223372036854775807)(d: -9223372036854775808<=b)(f:b<=9223372036854775807)(h:b≠0):Ct 78 [iT a,iT b] (.tup [dp (cF ((decide (a<0)) !=(decide (b<0))) a.natAbs b.natAbs),iT 0]):=by
 refine Ct.of (n:=21) Tryz.func78 Z Z Z Z Z fun w0 G0=>?_
 refine ab<|aj 2 Z<|ab<|ab<|ae<|aa 1 Z<|af (t:=bT (b==0)) Z Z Z (ai Z Z Z Zy)<|ag<|aH Z (fun c=>?_) (fun c=>?_)
 ·exact absurd (by simpa using c) h
 refine ax<|ab<|ae<|aa 1 Z<|af (t:=bT (decide (a<0))) Z Z Z (ai Z Z Z Zy)<|aa 1 Z<|af (t:=bT (decide (b<0))) Z Z Z (ai Z Z Z Zy)<|af (t:=bT ((decide (a<0)) !=(decide (b<0)))) Z Z Z (ai Z Z Z Zy)<|aa 1 Z<|ag<|ab<|ae<|aa 2 Z<|af Z Z Z (ar Z (oN a e g) Z Z)<|aa 1 Z<|af Z Z Z (ar Z (oN b d f) Z Z)<|af Z Z Z (ar Z (mM _ _ _ (jA (by omega)) (jA (by omega))) Z Z)<|aa 2 Z<|ag<|aC<|⟨.inr Z,_,.cons ⟨_,_,_,_,Z,Z,.inl ⟨_,aN,Z,Z⟩⟩ (.cons Z .nil),Z,Z⟩
def bk(keys:List (List V))(k:List V):Nat:=(keys.takeWhile fun x=>decide (aO x k<0)).length
def gV(s:Sch)(st:List (List V)×List (List Nat))(i:Nat)(t:Tp):List (List V)×List (List Nat):=
 if aG s t.vals=[]then(st.1++[aG s t.vals],st.2++[[i]])
 else if(st.1[bk st.1 (aG s t.vals)]?).any (fun x=>aO x (aG s t.vals)==0)then(st.1,st.2.modify (bk st.1 (aG s t.vals)) (· ++[i]))
 else(st.1.insertIdx (bk st.1 (aG s t.vals)) (aG s t.vals),st.2.insertIdx (bk st.1 (aG s t.vals)) [i])
def dh(s:Sch):List (List V)×List (List Nat)->Nat->List Tp->List (List V)×List (List Nat)
 |st,_,[]=>st
 |st,i,t::ts=>dh s (gV s st i t) (i+1) ts
def aP(r:Rel):List (List Nat):=if r.sch.cert then []else(dh r.sch ([],[]) 0 r.tups).2
def iQ(b:List Nat):Tree:=.sl (b.map fw)
theorem lm(l:List (List Nat)):Sized 1 (l.map iQ):=Sized.map _ l fun _=>rfl
def bF(s:Sch):Option (List V)->List Tp->Int
 |_,[]=>0
 |none,t::ts=>if bG s t≠0 then bG s t else bF s (some t.vals) ts
 |some p,t::ts=>if bG s t≠0 then bG s t else if aO p t.vals=0 then 8 else if aO p t.vals=1 then 1 else bF s (some t.vals) ts
def nC(l:List (List Nat)):Bool:=l.any fun b=>decide (16<b.length)
def kG(ts:List Tp)(l:List (List Nat)):Bool:=l.any fun b=>decide (bP (1-dR ts b)<0)
def bm(r:Rel):Int:=if fF r.sch=false then 1 else if 64<r.tups.length then 4 else if bF r.sch none r.tups≠0 then bF r.sch none r.tups else if nC (aP r)then 4 else if kG r.tups (aP r)then 19 else 0
def gp(ts:List Tp)(i:Nat):Option (List V):=if i=0 then none else(ts[i-1]?).map (·.vals)
theorem oQ{s:Sch}{ts:List Tp}{i:Nat}{t:Tp}(h:ts[i]? =some t)(c:bG s t=0)(b:i=0):bF s (gp ts i) (ts.drop i)=bF s (gp ts (i+1)) (ts.drop (i+1)):=by
 obtain⟨a,rfl⟩:=L7.1 h;subst b;rw[Md a];simp only[gp,if_true,bF,c];simp[L4 a]
theorem qj{s:Sch}{ts:List Tp}{i:Nat}{t:Tp}(h:ts[i]? =some t)(b:bG s t≠0):bF s (gp ts i) (ts.drop i)=bG s t:=by
 obtain⟨a,rfl⟩:=L7.1 h;rw[Md a];cases gp ts i<;>simp only[bF,if_pos b]
theorem qk{s:Sch}{ts:List Tp}{i:Nat}{t p:Tp}(h:ts[i]? =some t)(d:bG s t=0)(f:i≠0)(e:ts[i-1]? =some p):bF s (gp ts i) (ts.drop i)=if aO p.vals t.vals=0 then 8 else if aO p.vals t.vals=1 then 1 else bF s (gp ts (i+1)) (ts.drop (i+1)):=by
 obtain⟨a,rfl⟩:=L7.1 h;rw[Md a];have c:gp ts i=some p.vals:=by simp[gp,f,e]
 have b:gp ts (i+1)=some ts[i].vals:=by simp[gp,L4 a]
 rw[c,b];simp only[bF,d];simp
theorem nD{l:List (List Nat)}(h:∀(j:Nat) (b:List Nat),l[j]? =some b->¬16<b.length):nC l=false:=by
 unfold nC;rw[N4];intro b c;obtain⟨j,a,rfl⟩:=Nb c;simpa using h j _ (L4 a)
theorem ut{l:List (List Nat)}{j:Nat}{b:List Nat}(h:l[j]? =some b)(a:16<b.length):nC l=true:=OI.2 ⟨b,L9 h,decide_eq_true a⟩
theorem md{ts:List Tp}{l:List (List Nat)}(h:∀(j:Nat) (b:List Nat),l[j]? =some b->¬bP (1-dR ts b)<0):kG ts l=false:=by
 unfold kG;rw[N4];intro b c;obtain⟨j,a,rfl⟩:=Nb c;simpa using h j _ (L4 a)
theorem sC{ts:List Tp}{l:List (List Nat)}{j:Nat}{b:List Nat}(h:l[j]? =some b)(a:bP (1-dR ts b)<0):kG ts l=true:=OI.2 ⟨b,L9 h,decide_eq_true a⟩
structure FitR (r:Rel):Prop where
 cols:r.sch.cols.length<=65536
 tups:r.tups.length<=65536
 tup:∀t∈r.tups,FitT t/\t.vals.length<=65536
def pN(vs:List V)(ts:List Tp):Nat:=(ts.takeWhile fun t=>decide (aO t.vals vs<0)).length
def cJ(r:Rel)(t:Tp):Int:=
 if bm r≠0 then bm r else if bG r.sch t≠0 then bG r.sch t else if(gU t.vals r.tups 0).isSome then 8
 else if 64<=r.tups.length\/16<=(eV r t.vals).length then 4 else if 0<lO t.prob (1-dR r.tups (eV r t.vals))then 19 else 0
def bD(r:Rel)(t:Tp):Rel:=⟨r.sch,r.tups.take (pN t.vals r.tups)++[t]++r.tups.drop (pN t.vals r.tups)⟩
def qZ:Tree:=.agg [.sc (.string ⟨#[]⟩),.sc (.bool false),.sl [],.sl []]
def sD(r:Rel)(t:Tp):Tree:=.tup [if cJ r t=0 then(bD r t).tree else qZ,.sc (.int .i64 (cJ r t))]
theorem mN{n k:Nat}(h:(ay n).length<=k):n<4294967296^k:=by
 have:=b4 (ay n) (bY n);rw[aI]at this;exact Mp this (MP (by decide) h)
theorem jl{a b j k:Nat}(c:(ay a).length<=j)(d:(ay b).length<=k):(ay (a*b)).length<=j+k:=by
 refine aR ?_;rw[N2];exact PY (mN c) (mN d)
theorem uu{a b k:Nat}(c:(ay a).length<=k)(d:(ay b).length<=k):(ay (a+b)).length<=k+1:=by
 refine aR ?_;have e:=mN c;have f:=mN d;rw[MM];omega
theorem oR(p q:Rat):p=cF (decide (p.num<0)) (p.num.natAbs*q.den) (p.den*q.den):=by
 conv=>lhs;rw[<-fd p]
 exact zM _ p.den_pos (Oi p.den_pos q.den_pos) (by rw[Mu,Mt q.den])
theorem pO(p q:Rat):q=cF (decide (q.num<0)) (q.num.natAbs*p.den) (p.den*q.den):=by
 rw[Mt p.den];exact oR q p
theorem xO{p q:Rat}(h:decide (p.num<0)=decide (q.num<0)):cF (decide (p.num<0)) (p.num.natAbs*q.den+q.num.natAbs*p.den) (p.den*q.den)=p+q:=by
 rw[<-lj _ _ _ (Oi p.den_pos q.den_pos),<-oR p q];congr 1;rw[h];exact(pO p q).symm
theorem Fb{p q:Rat}(h:decide (p.num<0)≠decide (q.num<0))(a:q.num.natAbs*p.den<=p.num.natAbs*q.den):cF (decide (p.num<0)) (p.num.natAbs*q.den-q.num.natAbs*p.den) (p.den*q.den)=p+q:=by
 rw[<-ny h (Oi p.den_pos q.den_pos) a,<-oR p q,<-pO p q]
theorem Fc{p q:Rat}(h:decide (p.num<0)≠decide (q.num<0))(a:p.num.natAbs*q.den<q.num.natAbs*p.den):cF (decide (q.num<0)) (q.num.natAbs*p.den-p.num.natAbs*q.den) (p.den*q.den)=p+q:=by
 rw[<-nA h (Oi p.den_pos q.den_pos) a,<-oR p q,<-pO p q]
theorem Jj(a:Bool)(N:Nat){D:Nat}(b:0<D):(cF a N D).num.natAbs<=N/\(cF a N D).den<=D:=by
 rcases M1 N with h|h
 ·subst h;rw[ky];exact⟨L5 _,b⟩
 obtain⟨_,d,c⟩:=pH a h b;rw[d,c];exact⟨NY _ _,NY _ _⟩
theorem mO{b:Bool}{N D L:Nat}(c:0<D)(d:(ay N).length<=L)(a:(ay D).length<=L):Fit L (cF b N D):=by
 obtain⟨e,f⟩:=Jj b N c;exact⟨L6 (aS e) d,L6 (aS f) a⟩
theorem BU{a b:Nat}{p q:Rat}(e:Fit a p)(g:Fit b q):Fit (a+b+1) (p+q):=by
 have c:=Oi p.den_pos q.den_pos;have f:(ay (p.den*q.den)).length<=a+b+1:=OT (jl e.den g.den);have i:(ay (p.num.natAbs*q.den)).length<=a+b:=jl e.num g.den;have j:(ay (q.num.natAbs*p.den)).length<=a+b:=by rw[NW];exact jl g.num e.den
 by_cases h:decide (p.num<0)=decide (q.num<0)
 ·rw[<-xO h];exact mO c (uu i j) f
 rcases MI (p.num.natAbs*q.den) (q.num.natAbs*p.den)with d|d
 ·rw[<-Fc h d];exact mO c (OT (L6 (aS (OZ _ _)) j)) f
 rw[<-Fb h d];exact mO c (OT (L6 (aS (OZ _ _)) i)) f
theorem BV{a:Nat}{p:Rat}(b:Fit a p):Fit a (-p):=⟨by rw[Rat.neg_num,Int.natAbs_neg];exact b.num,by rw[Rat.neg_den];exact b.den⟩
theorem oS{a b:Nat}{p q:Rat}(c:Fit a p)(d:Fit b q):Fit (a+b+1) (p-q):=by
 rw[Rat.sub_eq_add_neg];exact BU c (BV d)
theorem Fit.mono{a b:Nat}{p:Rat}(h:Fit a p)(c:a<=b):Fit b p:=⟨L6 h.num c,L6 h.den c⟩
theorem sE{α:Type}{f:α->α}:∀{l:List α} {i:Nat} {x:α},x∈l.modify i f->x∈l\/∃y∈l,x=f y
 |[],_,x,h=>by simp at h
 |a::l,0,x,h=>by
  simp only[List.modify_zero_cons,Mi]at h;rcases h with rfl|h
  ·exact .inr ⟨a,by simp,Z⟩
  exact .inl (by simp[h])
 |a::l,i+1,x,h=>by
  simp only[Qf,Mi]at h;rcases h with rfl|h
  ·exact .inl (by simp)
  rcases sE h with b|⟨y,b,c⟩
  ·exact .inl (by simp[b])
  exact .inr ⟨y,by simp[b],c⟩
theorem ka{α:Type}{a:α}:∀{l:List α} {i:Nat} {x:α},x∈l.insertIdx i a->x∈l\/x=a
 |l,0,x,h=>by
  simp only[List.insertIdx_zero,Mi]at h;exact h.symm
 |[],i+1,x,h=>by simp at h
 |b::l,i+1,x,h=>by
  simp only[List.insertIdx_succ_cons,Mi]at h;rcases h with rfl|h
  ·exact .inl (by simp)
  rcases ka h with h|rfl
  ·exact .inl (by simp[h])
  exact .inr Z
theorem tL{α:Type}{a:α}(l:List α)(i:Nat):(l.insertIdx i a).length<=l.length+1:=by
 rw[Qg];split<;>omega
def Fd(i:Nat)(l:List (List Nat)):Prop:=l.length<=i/\∀b∈l,b.length<=i/\∀j∈b,j<i
theorem C4{s:Sch}{e:List (List V)×List (List Nat)}{i:Nat}{t:Tp}(h:Fd i e.2):Fd (i+1) (gV s e i t).2:=by
 obtain⟨n,k⟩:=h;have g:∀b∈e.2,b.length<=i+1/\∀j∈b,j<i+1:=fun b c=>⟨by have:=(k b c).1;omega,fun j d=>by have:=(k b c).2 j d;omega⟩
 have l:([i]:List Nat).length<=i+1/\∀j∈[i],j<i+1:=⟨by simp,fun j d=>by simp at d;omega⟩;unfold gV;split
 ·refine⟨by simp;omega,fun b c=>?_⟩;rcases My.1 c with c|c
  ·exact g b c
  rw[Ml.1 c];exact l
 split
 ·refine⟨by simp;omega,fun b c=>?_⟩;rcases sE c with f|⟨y,f,m⟩
  ·exact g b f
  subst m;refine⟨by have:=(k y f).1;simp;omega,fun j d=>?_⟩;rcases My.1 d with d|d
  ·exact(g y f).2 j d
  rw[Ml.1 d];omega
 refine⟨by have:=tL (a:=[i]) e.2 (bk e.1 (aG s t.vals));show(e.2.insertIdx _ _).length<=_;omega,fun b c=>?_⟩;rcases ka c with c|rfl
 ·exact g b c
 exact l
theorem ln{s:Sch}:∀(ts:List Tp) (a:List (List V)×List (List Nat)) (i:Nat),Fd i a.2->Fd (i+ts.length) (dh s a i ts).2
 |[],a,i,h=>h
 |t::ts,a,i,h=>by
  have:=ln (s:=s) ts _ (i+1) (C4 (s:=s) (t:=t) h);rw[Mb,show i+(ts.length+1)=i+1+ts.length by omega];exact this
theorem ql(r:Rel):Fd r.tups.length (aP r):=by
 unfold aP;split
 ·exact⟨Mx _,fun b a=>by cases a⟩
 have:=ln (s:=r.sch) r.tups ([],[]) 0 ⟨L5 _,fun b a=>by cases a⟩;rwa[M0]at this
theorem sF(r:Rel):(aP r).length<=r.tups.length:=(ql r).1
theorem uv(r:Rel):∀b∈aP r,b.length<=r.tups.length/\∀i∈b,i<r.tups.length:=(ql r).2
theorem uw{s:Sch}{key:List V}:∀(ts:List Tp) (i:Nat),(bX s key ts i).length<=ts.length/\∀j∈bX s key ts i,j<i+ts.length
 |[],i=>⟨L5 _,fun j h=>by cases h⟩
 |t::ts,i=>by
  have h:=uw (s:=s) (key:=key) ts (i+1);unfold bX;split
  ·refine⟨by simp;exact h.1,fun j a=>?_⟩;simp only[Mi]at a;rcases a with rfl|a
   ·simp
   have:=h.2 j a;simp;omega
  exact⟨by have:=h.1;simp;omega,fun j a=>by have:=h.2 j a;simp;omega⟩
theorem Jk(r:Rel)(vs:List V):(eV r vs).length<=r.tups.length/\∀i∈eV r vs,i<r.tups.length:=by
 unfold eV;split
 ·exact⟨Mx _,fun i h=>by cases h⟩
 have:=uw (s:=r.sch) (key:=aG r.sch vs) r.tups 0;rw[M0]at this;exact this
theorem ek{s:Sch}{t:Tp}(h:bG s t=0):t.vals.length=s.cols.length/\gP s.cert t.prob=true/\fF s=true/\eW s.cols t.vals=false:=by
 unfold bG at h;split at h
 ·cases h
 next h1=>
 split at h
 ·cases h
 next h2=>
 split at h
 ·cases h
 next h3=>
 split at h
 ·next h4=>exact⟨NE.1 h2,h4,by simpa using h1,by simpa using h3⟩
 cases h
theorem fN{s:Sch}:∀{l:List Tp} {p:Option (List V)},bF s p l=0->∀t∈l,bG s t=0
 |[],_,_,t,a=>by cases a
 |x::l,p,h,t,a=>by
  have b:bG s x=0/\bF s (some x.vals) l=0:=by
   cases p with
   |none=>
    rw[bF]at h;split at h
    ·next h1=>exact absurd h h1
    next h1=>exact⟨NE.1 h1,h⟩
   |some q=>
    rw[bF]at h;split at h
    ·next h1=>exact absurd h h1
    next h1=>
    split at h
    ·cases h
    split at h
    ·cases h
    exact⟨NE.1 h1,h⟩
  rcases Mi.1 a with rfl|a
  ·exact b.1
  exact fN b.2 t a
theorem xP{r:Rel}(h:bF r.sch none r.tups=0):∀t∈r.tups,t.vals.length=r.sch.cols.length:=fun t a=>(ek (fN h t a)).1
theorem gf{cert:Bool}{q:Rat}(h:gP cert q=true):0<=q/\0<=1-q:=by
 unfold gP at h;simp only[Ma,Nj,Mz,decide_eq_false_iff_not]at h;have a:=h.1.1;rw[kF,kF,Rat.not_lt,Rat.not_lt]at a;exact a
theorem Fe{cert:Bool}{q:Rat}(h:gP cert q=true):Fit 2049 q:=by
 obtain⟨d,g⟩:=gf h;unfold gP at h;simp only[Ma,decide_eq_true_eq]at h;have b:=h.2;have a:(ay q.den).length<=2049:=by
  unfold c8 at b;rw[if_neg q.den_nz]at b;omega
 refine⟨L6 (aS ?_) a,a⟩;have f:=Rat.num_nonneg.2 d;have e:q<=1:=by grind
 have c:=(Rat.le_iff _ _).1 e;simp at c;omega
theorem ux{r:Rel}(h:bF r.sch none r.tups=0):∀(b:List Nat) (q:Rat) (k:Nat),(∀i∈b,i<r.tups.length)->Fit k q->Fit (k+2050*b.length) (b.foldl (fun q i=>q+gO r.tups i) q)
 |[],q,k,_,hq=>hq
 |i::b,q,k,hb,hq=>by
  have a:i<r.tups.length:=hb i (by simp);have c:Fit 2049 (gO r.tups i):=by
   unfold gO;rw[L4 a];exact Fe (ek (fN h _ (MY a))).2.1
  have:=ux h b (q+gO r.tups i) (k+2049+1) (fun j d=>hb j (by simp[d])) (BU hq c);rw[NH,Mb];exact this.mono (by omega)
theorem mP{r:Rel}{b:List Nat}(h:bF r.sch none r.tups=0)(d:∀i∈b,i<r.tups.length)(e:b.length<=16):Fit 262144 (dR r.tups b)/\Fit 262144 (1-dR r.tups b):=by
 have c:Fit 32802 (dR r.tups b):=(ux h b 0 1 d ⟨by decide,by decide⟩).mono (by omega);exact⟨c.mono (by decide),(oS (a:=1) ⟨by decide,by decide⟩ c).mono (by decide)⟩
theorem It{es:List Tree}(h:es=[]):(Tree.sl [])=.sl es:=by rw[h]
theorem sG:lM Tryz.prog 24=some (58,3,32):=by kernel_rfl
theorem uy(l:List Col)(e:l.length<=65536):Ct 27 [.sl (l.map Col.tree)] (.sl (l.map Col.tree)):=by
 refine Ct.of (n:=8) Tryz.func27 Z Z Z Z Z fun w0 G0=>?_
 refine ab<|ae<|af (t:=.sl []) Z Z Z (cW (.inr Z) dI)<|ag<|ab<|ab<|ae<|aa 1 Z<|jP (fun d=>∃c:Bool,(c=true->(l.map Col.tree)=[])/\d=bT c) Z Z Z (tZ Z bi Z) ?_;rintro _ ⟨nb,b,rfl⟩;refine ag<|aH Z (fun a=>?_) (fun a=>?_)
 ·refine ab<|ae<|af (t:=.sl []) Z Z Z (cW (.inr Z) dI)<|ag<|aC<|⟨.inr Z,_,.cons Z .nil,It (b a),Z⟩
 refine ax<|ab<|ae<|om (k:=0) (rs':=[some ⟨58,3,[].map Col.tree,true⟩]) Z Z Z Z sG Z Z<|aa 1 Z<|cD (bs':=[]) (rs':=[some ⟨58,3,l.map Col.tree,false⟩]) Z Z Z Z sG Z Z Z Z (ej _) (AllC.map _ _ fun _=>rfl) (AllC.map _ _ fun _=>rfl) (by simp only[L8,Mo];omega) Z Z Z Z<|aa 1 Z<|ag<|fD 0 (bs':=[]) (rs':=[none]) Z Z Z Z<|aC<|⟨.inr Z,_,.cons Z .nil,Z,Z⟩
theorem C5(l:List V)(e:l.length<=65536):Ct 155 [.sl (l.map V.tree)] (.sl (l.map V.tree)):=by
 refine Ct.of (n:=8) Tryz.func155 Z Z Z Z Z fun w0 G0=>?_
 refine ab<|ae<|af (t:=.sl []) Z Z Z (cW (.inr Z) dI)<|ag<|ab<|ab<|ae<|aa 1 Z<|jP (fun d=>∃c:Bool,(c=true->(l.map V.tree)=[])/\d=bT c) Z Z Z (tZ Z bz Z) ?_;rintro _ ⟨nb,b,rfl⟩;refine ag<|aH Z (fun a=>?_) (fun a=>?_)
 ·refine ab<|ae<|af (t:=.sl []) Z Z Z (cW (.inr Z) dI)<|ag<|aC<|⟨.inr Z,_,.cons Z .nil,It (b a),Z⟩
 refine ax<|ab<|ae<|om (k:=0) (rs':=[some ⟨77,3,[].map V.tree,true⟩]) Z Z Z Z ib Z Z<|aa 1 Z<|cD (bs':=[]) (rs':=[some ⟨77,3,l.map V.tree,false⟩]) Z Z Z Z ib Z Z Z Z (iZ _) (AllC.map _ _ fun _=>rfl) (AllC.map _ _ fun _=>rfl) (by simp only[L8,Mo];omega) Z Z Z Z<|aa 1 Z<|ag<|fD 0 (bs':=[]) (rs':=[none]) Z Z Z Z<|aC<|⟨.inr Z,_,.cons Z .nil,Z,Z⟩
theorem iR{w:World}{base g n a sz i:Nat}{e:TypeId}{xs:List Value}(h:w.ownsRow base e sz (.slice (some ⟨g,0,none⟩) n a) n xs)(u:Value):(w.setCell ⟨g,i,none⟩ u).ownsRow base e sz (.slice (some ⟨g,0,none⟩) n a) n (xs.set i u):=by
 obtain⟨f,r⟩:=h;rcases r with⟨c,_⟩|⟨s,d,cur,c,j,p,k,o,q,m⟩
 ·cases c
 injection c with b _ l
 injection b with b
 injection b with b
 subst b l;refine⟨by rw[MU];exact f,.inr ⟨g,a,cur.setIfInBounds i u,Z,j,?_,k,o,by simpa using q,?_⟩⟩
 ·simp[World.setCell,NJ,p]
 rw[<-m,NQ,PI]
def pP:List Value->Nat->List Value->List Value
 |xs,_,[]=>xs
 |xs,o,v::r=>pP (xs.set o v) (o+1) r
theorem cj{base g n a sz:Nat}{e:TypeId}:∀(vs:List Value) (o:Nat) (w:World) (xs:List Value),w.ownsRow base e sz (.slice (some ⟨g,0,none⟩) n a) n xs->(w.setCells g o vs).ownsRow base e sz (.slice (some ⟨g,0,none⟩) n a) n (pP xs o vs)
 |[],_,_,_,h=>h
 |v::r,o,_,_,h=>cj r (o+1) _ _ (iR h v)
theorem jB:∀(vs a b c:List Value),b.length=vs.length->pP (a++b++c) a.length vs=a++vs++c
 |[],a,b,c,h=>by
  obtain rfl:b=[]:=Mk h;rfl
 |v::r,a,[],c,h=>by cases h
 |v::r,a,x::b,c,h=>by
  have e:(a++x::b++c).set a.length v=(a++[v])++b++c:=by
   rw[MG,NK _ _ (L5 _),M4];simp
  have d:=jB r (a++[v]) b c (by simpa using h);rw[pP,e,show a.length+1=(a++[v]).length by simp,d];simp
theorem di{P:Program}(w:World)(n sT ty c:TypeId)(b o d h k:Nat)(a:Addr)(e g:Nat)(cs:List Value)
  (u:P.underlying n=some (.slice c)) (p:(P.info? c).map (·.size)=some k) (s:Nat.min e d*k=cs.length)
  (f:∀j v,cs[j]? =some v->w.cell? (a.add j)=some v) (t:∀j,j<cs.length->(w.cell? ⟨b,o+j,none⟩).isSome=true) (y:∀j,j<cs.length->w.frozen? ⟨b,o+j,none⟩=false) (x:∀v∈cs,v.oneCell'=true):
  (Builtin.copy_ #[n,sT] ty #[.slice (some ⟨b,o,none⟩) d h,.slice (some a) e g]).run P w=.ok (goInt (Nat.min e d)) (w.setCells b o cs):=by
 have q:=run_loadCells_list (P:=P) w a cs f;have m:=run_storeCells_cells (P:=P) b o cs 0 w (by simpa using t) (by simpa using y) x;cases l:P.info? c with
 |none=>simp[l]at p
 |some i=>
  have r:i.size=k:=by simpa[l]using p
  simp[Builtin.copy_,run_underlying u,Builtin.lenOf,Builtin.firstCells,sizeOf,typeInfo,l,r,s,q,m]
theorem BW:(Tryz.prog.info? 67).map (fun i=>(i.zero,i.size,i.bytes))=some (some (.agg #[.slice none 0 0,.bool false,.slice none 0 0,.slice none 0 0]),4,80):=by kernel_rfl
theorem iJ(k:Nat):(Builtin.zeroCells (Value.agg #[.slice none 0 0,.bool false,.slice none 0 0,.slice none 0 0]).cells k).size=k*4:=by
 simp[Builtin.zeroCells,Value.cells]
theorem z7(k:Nat):(Builtin.zeroCells (Value.agg #[.slice none 0 0,.bool false,.slice none 0 0,.slice none 0 0]).cells k).toList.length=k*4:=by rw[M7,iJ]
theorem C6(w:World)(b off n i:Nat)(a:List Value)(y:i<n)(z:n<=65536)(d:a.length=i*4)(l:∀j u,a[j]? =some u->w.cell? ⟨b,off+j,none⟩=some u):
  ∃c o s,(∀ty,(Builtin.append_ #[28,3] ty #[.slice (some ⟨b,off,none⟩) i n,.int .i64 ((n+1-i:Nat):Int)]).run Tryz.prog w=.ok (.slice (some ⟨w.heap.size,0,none⟩) (n+1) c) o)/\o.ownsRow w.heap.size 67 4 (.slice (some ⟨w.heap.size,0,none⟩) (n+1) c) (n+1) (a++s)/\s.length=(n+1-i)*4/\Below w.heap.size w o/\n+1<=c/\c<=9223372036854775807:=by
 obtain⟨r,q,m,p,k⟩:=info_parts BW;have h:(Builtin.firstCells r.size i (.slice (some ⟨b,off,none⟩) i n)).run Tryz.prog w.drew=.ok a.toArray w.drew:=by
  rw[p];exact run_firstCells_some w.drew 4 i ⟨b,off,none⟩ i n a d (fun j v x=>by rw[Addr.add_lit];exact l j v x)
 have f:=grownCap_ge w (i+(n+1-i)) n 67;have g:=grownCap_le_maxLen w (i+(n+1-i)) n 67 (by unfold maxLen;omega);have t:=fun ty=>Lib.run_append_grow_zeros w 28 3 ty 67 r _ .i64 .i64 Tryz.underlying28 Tryz.underlying3 q m (some ⟨b,off,none⟩) i n a h (n+1-i) (by omega) (by omega) (by omega) (by omega) (by rw[k];omega) (by rw[k];exact growslice_fits (by omega) (by omega))
 rw[show i+(n+1-i)=n+1 by omega]at t f g;refine⟨_,_,(Builtin.zeroCells (Value.agg #[.slice none 0 0,.bool false,.slice none 0 0,.slice none 0 0]).cells (n+1-i)).toList,t,⟨?_,.inr ⟨_,_,_,Z,L5 _,heap_alloc_new _ _,f,g,?_,?_⟩⟩,?_,((Below.refl _ _).drew).alloc (L5 _) _,f,by unfold maxLen at g;omega⟩
 ·rw[Mc,d,M7,iJ];omega
 ·rw[OG,OG,iJ,iJ,OR,d];omega
 ·have e:(a++(Builtin.zeroCells (Value.agg #[.slice none 0 0,.bool false,.slice none 0 0,.slice none 0 0]).cells (n+1-i)).toList).length=(n+1)*4:=by rw[Mc,z7,d];omega
  rw[Nv,Nv,OP (Ob e.symm)];exact Me (Ob e)
 rw[M7,iJ]
theorem C7(a us b d:List Value){n:Nat}(i:Nat)(k:us.length=4)(l:d.length=(n-i)*4)(j:b.length=(n+1-i)*4)(e:a.length=i*4)(g:i<n):pP (pP (a++b) (i*4) us) ((i+1)*4) d=a++us++d:=by
 have f:a++b=a++b.take 4++b.drop 4:=by rw[MG,M8]
 rw[f,<-e,jB us a (b.take 4) (b.drop 4) (by rw[Mf];omega)];have c:(i+1)*4=(a++us).length:=by rw[Mc];omega
 have h:=jB d (a++us) (b.drop 4) [] (by rw[MS];omega);rw[MA,MA]at h;rw[c,h]
theorem xQ{w w':World}(h:w.grownBy w' none):Below w.heap.size w w':=(Below.refl _ _).grown h (L5 _) (fun k e=>by cases e)
theorem eA{w:World}:∀(vs:List Value) (o:Nat) {W:World},Below w.heap.size w W->Below w.heap.size w (W.setCells w.heap.size o vs)
 |[],_,_,h=>h
 |v::r,o,_,h=>eA r (o+1) (h.setCell (p:=⟨w.heap.size,o,none⟩) (L5 _) v)
theorem dd{w:World}{base g n c sz:Nat}{e:TypeId}{xs:List Value}(h:w.ownsRow base e sz (.slice (some ⟨g,0,none⟩) n c) n xs)(i:Nat):w.frozen? ⟨g,i,none⟩=false:=by
 rcases h.2 with⟨b,_⟩|⟨k,d,cur,b,j,f,_⟩
 ·cases b
 injection b with a
 injection a with a
 injection a with a
 subst a;simp[World.frozen?,f]
theorem fO{w:World}{base g n a sz:Nat}{e:TypeId}{xs:List Value}(h:w.ownsRow base e sz (.slice (some ⟨g,0,none⟩) n a) n xs){j:Nat}(c:j<n*sz):(w.cell? ⟨g,j,none⟩).isSome=true:=by
 have b:=h.1;have:=World.ownsRow.cells h (g:=g) Z j xs[j] (L4 (by omega));rw[show(⟨g,0,none⟩:Addr).add j=⟨g,j,none⟩from by unfold Addr.add;split<;>simp_all]at this;rw[this];rfl
theorem Ff(b off n i r c H:Nat)(cs us:List Value)(w:World)(T:i<n)(R:n<=65536)(D:cs.length=n*4)(y:us.length=4)
  (l:∀j v,cs[j]? =some v->w.cell? ⟨b,off+j,none⟩=some v) (t:∀j v,us[j]? =some v->w.cell? ⟨r,c+j,none⟩=some v) (L:∀v∈cs,v.oneCell'=true) (I:∀v∈us,v.oneCell'=true):
  Calls Tryz.prog 84 #[.slice (some ⟨b,off,none⟩) n n,.int .i64 i,.slice (some ⟨r,c,none⟩) 1 H] w fun e w'=>
   ∃d,e=.returned (.slice (some ⟨w.heap.size,0,none⟩) (n+1) d)/\w'.ownsRow w.heap.size 67 4 (.slice (some ⟨w.heap.size,0,none⟩) (n+1) d) (n+1) (cs.take (i*4)++us++cs.drop (i*4))/\Below w.heap.size w w':=by
 have J:b<w.heap.size:=World.block_lt_of_cell? _ _ (l 0 _ (L4 (by omega)));have M:r<w.heap.size:=World.block_lt_of_cell? _ _ (t 0 _ (L4 (by omega)));obtain⟨d,s,zs,A,f,N,F,V,X⟩:=C6 w b off n i (cs.take (i*4)) T R (by rw[Mf];omega) (fun j u g=>by
  rw[MZ]at g;split at g
  ·exact l j u g
  cases g)
 rw[show((n+1-i:Nat):Int)=(n:Int)+1-(i:Int) by omega]at A;have U:IntKind.i64.wrap ((i:Int)+1)=(i:Int)+1:=by rw[Ns];omega
 have a1:(0:Int)<=(i:Int)+1:=by omega
 have Y:((i:Int)+1).toNat=i+1:=by omega
 have a2:(i:Int)<=(n:Int):=by omega
 have a0:¬((i:Int)=(n:Int)):=by omega
 have S:(n:Int)<(n:Int)+1:=by omega
 have h:(cs.drop (i*4)).length=(n-i)*4:=by rw[MS,D,Nat.sub_mul]
 have E:(Tryz.prog.info? 67).map (·.size)=some 4:=by kernel_rfl
 have k:∀ty m,(Builtin.copy_ #[28,28] ty #[.slice (some ⟨w.heap.size,i*4,none⟩) (n+1-i) m,.slice (some ⟨r,c,none⟩) 1 H]).run Tryz.prog s=.ok (goInt (Nat.min 1 (n+1-i))) (s.setCells w.heap.size (i*4) us):=fun ty m=>
  di s _ _ ty 67 w.heap.size (i*4) (n+1-i) m 4 ⟨r,c,none⟩ 1 H us Tryz.underlying28 E (by rw[y,show Nat.min 1 (n+1-i)=1 from Nl (by omega)])
   (fun j v g=>by rw[Addr.add_lit];exact(F.cell (p:=⟨r,c+j,none⟩) M).trans (t j v g))
   (fun j g=>fO f (by omega)) (fun j g=>dd f _) I
 have a:=cj us (i*4) s _ f;have o:Below w.heap.size w (s.setCells w.heap.size (i*4) us):=eA us _ F;obtain⟨q,B⟩:∃q,s.setCells w.heap.size (i*4) us=q:=⟨_,rfl⟩;rw[B]at a o;simp only[B]at k;have z:Nat.min (n-i) (n-i)=n-i:=Qv _;have O:Tryz.prog.follows .mixedOrders=true:=by kernel_rfl
 have K:¬(d=i+1):=by omega
 have G:¬(n=i):=by omega
 have C:∀(W:World),(∀x,W.cell? x=q.cell? x)->(∀x,W.frozen? x=q.frozen? x)->∀ty m sc,(Builtin.copy_ #[28,28] ty #[.slice (some ⟨w.heap.size,(i+1)*4,none⟩) (n-i) m,.slice (some ⟨b,off+i*4,none⟩) (n-i) sc]).run Tryz.prog W=.ok (goInt (Nat.min (n-i) (n-i))) (W.setCells w.heap.size ((i+1)*4) (cs.drop (i*4))):=fun W P hf ty m sc=>
  di W _ _ ty 67 w.heap.size ((i+1)*4) (n-i) m 4 ⟨b,off+i*4,none⟩ (n-i) sc (cs.drop (i*4)) Tryz.underlying28 E (by rw[z,h])
   (fun j v g=>by
    rw[Addr.add_lit,P,NT];exact(o.cell (p:=⟨b,off+(i*4+j),none⟩) J).trans (l _ v (by rwa[Nd]at g)))
   (fun j g=>by rw[P];exact fO a (by omega)) (fun j g=>by rw[hf];exact dd a _) (fun v hv=>L v (M2 hv))
 go_enter Tryz.func84,Tryz.ntmps84
 go_wp2_with (first
  |(at_builtin;refine Lib.wpList_append_run _ Z _ _ _ _ Z _ _ Z Z _ _ (A _) ?_)
  |(at_builtin;refine wpList_copy_runI _ Z _ _ 28 28 Z _ _ Z Z (k _ _) ?_))
 go_region_law_o (refine step_copy_runI Z _ _ 28 28 Z (.slice (some ⟨w.heap.size,(i+1)*4,none⟩) (n-i) (d-(i+1))) (.slice (some ⟨b,off+i*4,none⟩) (n-i) (n-i)) (by simp[Act.eval,Act.put]) (by simp[Act.eval,Act.put]) (C q.drew (fun _=>rfl) (fun _=>rfl) 3 (d-(i+1)) (n-i)) ?_)
 go_wp2
 go_ret
 refine⟨d,Z,?_,eA _ _ o.drew⟩;have Q:=cj (cs.drop (i*4)) ((i+1)*4) q.drew (pP (cs.take (i*4)++zs) (i*4) us) a;rw[C7 _ _ _ _ i y h N (by rw[Mf,D];omega) (by omega)]at Q;exact Q
theorem Fg(k:Option Addr)(n u c E:Nat)(cs us:List Value)(w:World)(U:n<=65536)(G:cs.length=n*4)(z:us.length=4)(i:k=none->n=0/\n=0)
  (r:∀b,k=some b->∀j v,cs[j]? =some v->w.cell? (b.add j)=some v) (p:∀b,k=some b->n=0\/∃g off,b=⟨g,off,none⟩) (y:∀j v,us[j]? =some v->w.cell? ⟨u,c+j,none⟩=some v) (F:∀v∈us,v.oneCell'=true):
  Calls Tryz.prog 84 #[.slice k n n,.int .i64 n,.slice (some ⟨u,c,none⟩) 1 E] w fun e w'=>
   ∃v',e=.returned v'/\w'.ownsRow w.heap.size 67 4 v' (n+1) (cs++us)/\Below w.heap.size w w':=by
 obtain⟨S,H,D,A,B⟩:=info_parts BW;have l:∀(ops:Array Oper) (m:List Oper) (o:Oper) (a:Act) (Q:Exit->Act->World->Prop) (N:o.guard=none) (s x:Operand) (q:o.op=Op.call {callee:=Callee.builtin Builtin.append,args:=#[s,x],argTypes:=#[28,28]}) (O:a.eval s=.slice k n n) (K:a.eval x=.slice (some ⟨u,c,none⟩) 1 E)
   (I:∀v' w',w'.ownsRow w.heap.size 67 4 v' (n+1) (cs++us)->Below w.heap.size w w'->wpList Tryz.prog ops Q m (a.put o.dst v') w'),wpList Tryz.prog ops Q (o::m) a w:=fun _ _ _ _ _ N s x q O K I=>
  wpList_append_grows w N s x 28 q 67 S _ 4 80 Tryz.underlying28 H D A B Z (by decide) k n n cs O i G r ⟨u,c,none⟩ 1 E us K (by rw[z]) (fun j v R=>by rw[Addr.add_lit];exact y j v R) F (by omega) (by unfold maxLen;omega) (by omega) (fun v' w' P T=>I v' w' P (xQ T))
 have t:k=none\/(n=0/\∃b,k=some b)\/∃g off,k=some ⟨g,off,none⟩:=by
  cases k with
  |none=>exact .inl Z
  |some b=>
   rcases p b rfl with h|⟨g,off,rfl⟩
   ·exact .inr (.inl ⟨h,b,Z⟩)
   exact .inr (.inr ⟨g,off,Z⟩)
 have C:=J l;clear l r i p;rcases t with rfl|⟨rfl,b,rfl⟩|⟨g,off,rfl⟩
 ·go_enter Tryz.func84,Tryz.ntmps84
  go_wp2_with (at_builtin;refine C.out _ _ _ _ _ rfl _ _ rfl rfl rfl ?_;intro M L f d)
  go_ret
  exact⟨_,Z,f,d⟩
 ·go_enter Tryz.func84,Tryz.ntmps84
  go_wp2_with (at_builtin;refine C.out _ _ _ _ _ rfl _ _ rfl rfl rfl ?_;intro M L f d)
  go_ret
  exact⟨_,Z,f,d⟩
 go_enter Tryz.func84,Tryz.ntmps84
 go_wp2_with (at_builtin;refine C.out _ _ _ _ _ rfl _ _ rfl rfl rfl ?_;intro M L f d)
 go_ret
 exact⟨_,Z,f,d⟩
theorem Jl{W W':World}{G:Nat->Prop}{e:TypeId}{sz:Nat}{v:Value}{xs:List Value}{es:List Tree}(l:OkG G W)(d:W'.ownsRow W.heap.size e sz v es.length xs)(f:PT W' G xs (flat es)):PT W' G [v] [.sl es]:=by
 rcases d.2 with⟨rfl,a⟩|⟨g,b,cur,rfl,n,k,a,c,o,m⟩
 ·have:es=[]:=Mk a;rw[this];exact dI _ _
 refine .sl g 0 b _ xs es (ML.1 k).1 (fun h=>?_) (fun j u i=>?_) Z a (by unfold maxLen at c;omega) f .nil
 ·have:=(l g h).1;omega
 have:=World.ownsRow.cells d (g:=g) Z j u i;rw[show(⟨g,0,none⟩:Addr).add j=⟨g,0+j,none⟩from Addr.add_lit ..]at this;exact this
theorem lp{W:World}{G:Nat->Prop}{us:List Value}{ts:List Tree}(h:PT W G us ts)(a:ts.all Tree.one=true):∀u∈us,u.oneCell'=true:=FT.ones (E:=⟨W,G,fun _=>none,fun _=>none⟩) (FT.of h) a
theorem z8(l:List Tp)(t:Tp)(i:Nat)(hi:i<=l.length)(M:l.length<=65536):Ct 84 [.tl (l.map Tp.tree),iT (i:Nat),.sl ([t].map Tp.tree)] (.sl ((l.take i++[t]++l.drop i).map Tp.tree)):=⟨⟨_,Tryz.func84,Z,Z⟩,fun G w vs _ Q U=>by
 obtain⟨v,x,y,rfl,S,V,P⟩:=mc U;cases V;have K:Sized 4 (l.map Tp.tree):=bQ _;have J:Sized 4 ([t].map Tp.tree):=bQ _;obtain⟨B,N,rfl,_,_,_,h4⟩:=P.slice;obtain⟨O,c,us,rfl,W,_,m,h⟩:=h4 (by simp);have o:us.length=4:=by rw[h.length,J.flat];rfl
 have r:∀u∈us,u.oneCell'=true:=lp h (AllC.map Tp.tree [t] (fun _=>rfl)).all;cases S with
 |tl A n _ hn hs _=>
  rw[L8]at hn;subst hn;obtain⟨A',c',Y,_,_,X,D⟩:=hs.slice;injection Y with E e2 e3
  subst E;rw[L8]at D;obtain⟨cs,s,k,p⟩:∃cs:List Value,cs.length=l.length*4/\PT w G cs (flat (l.map Tp.tree))/\∀b,A=some b->∀j u,cs[j]? =some u->w.cell? (b.add j)=some u:=by
   rcases M1 l.length with f|f
   ·obtain rfl:l=[]:=Mk f;exact⟨[],Z,.nil,fun b _ j u F=>by simp at F⟩
   obtain⟨b,off,xs,rfl,_,_,T,L⟩:=D f;refine⟨xs,by rw[L.length,K.flat,L8],L,fun b' I j u F=>?_⟩;rw[<-Nt I,Addr.add_lit];exact T j u F
  have d:∀{e:Ending} {w':World} (v':Value),e=.returned v'->w'.ownsRow w.heap.size 67 4 v' (l.length+1) (cs.take (i*4)++us++cs.drop (i*4))->Below w.heap.size w w'->∃v,e=.returned v/\PT w' G [v] [.sl ((l.take i++[t]++l.drop i).map Tp.tree)]/\Below w.heap.size w w':=fun{e w'} v' C z a=>by
   refine⟨v',C,Jl (sz:=4) (e:=67) (xs:=cs.take (i*4)++us++cs.drop (i*4)) Q ?_ ?_,a⟩
   ·rw[show((l.take i++[t]++l.drop i).map Tp.tree).length=l.length+1 by simp;omega];exact z
   rw[Nk,Nk,OB,OL,iF,iF,mw K,jh K];exact((((k.take _).later a).append (h.later a)).append ((k.drop _).later a))
  rcases MI i l.length with H|a0
  ·obtain⟨b,off,xs,rfl,_,_,_,_⟩:=D (by omega);refine(Ff b off l.length i O c N cs us w H M s o (fun j v q=>by rw[<-Addr.add_lit];exact p _ Z j v q) (fun j v q=>m j v q) (lp k (AllC.map Tp.tree l (fun _=>rfl)).all) r).mono ?_;rintro e w' ⟨R,C,z,a⟩;exact d _ C z a
  obtain rfl:i=l.length:=by omega
  refine(Fg A l.length O c N cs us w M s o (fun e=>by have:=X e;exact⟨by omega,by omega⟩) p (fun b a=>?_) (fun j v q=>m j v q) r).mono ?_
  ·rcases M1 l.length with f|f
   ·exact .inl f
   obtain⟨g,off,xs,E,_⟩:=D f;rw[a]at E;exact .inr ⟨g,off,Nt E⟩
  rintro e w' ⟨v',C,z,a⟩;refine d v' C ?_ a;rw[Me (by omega),Mg (by omega),MA];exact z⟩
end Go.Proofs.YtfoejfohbkmmeaaGreatDoor
