import Derived.Test.YtfoejfohbkmmeaaGreatDoorB20
import Derived.Test.YtfoejfohbkmmeaaGreatDoorB00
import Derived.Test.YtfoejfohbkmmeaaGreatDoorB11
import Derived.Test.YtfoejfohbkmmeaaGreatDoorB06
import Derived.Test.YtfoejfohbkmmeaaGreatDoorB16
import Derived.Lib.AppendZerosOnto
import Derived.ArgAppend
import Derived.Laws.NewBlocks
import Derived.Shelf.Spec.SlicesInsert
set_option maxRecDepth 100000
set_option maxHeartbeats 4000000
namespace Go.Proofs.YtfoejfohbkmmeaaGreatDoor
open Go.RowKit
open Lib renaming hid→J
def bF(keys:List (List V))(k:List V):Nat:=(keys.takeWhile fun x=>decide (bg x k<0)).length
def iI(s:Sch)(st:List (List V)×List (List Nat))(i:Nat)(t:Tp):List (List V)×List (List Nat):=
 if aJ s t.vals=[]then(st.1++[aJ s t.vals],st.2++[[i]])
 else if(st.1[bF st.1 (aJ s t.vals)]?).any (fun x=>bg x (aJ s t.vals)==0)then(st.1,st.2.modify (bF st.1 (aJ s t.vals)) (· ++[i]))
 else(st.1.insertIdx (bF st.1 (aJ s t.vals)) (aJ s t.vals),st.2.insertIdx (bF st.1 (aJ s t.vals)) [i])
def dP(s:Sch):List (List V)×List (List Nat)->Nat->List Tp->List (List V)×List (List Nat)
 |st,_,[]=>st
 |st,i,t::ts=>dP s (iI s st i t) (i+1) ts
def bf(r:Rel):List (List Nat):=if r.sch.cert then []else(dP r.sch ([],[]) 0 r.tups).2
def jo(b:List Nat):Tree:=.sl (b.map fV)
theorem ml(l:List (List Nat)):Sized 1 (l.map jo):=Sized.map _ l fun _=>rfl
def bU(s:Sch):Option (List V)->List Tp->Int
 |_,[]=>0
 |none,t::ts=>if bV s t≠0 then bV s t else bU s (some t.vals) ts
 |some p,t::ts=>if bV s t≠0 then bV s t else if bg p t.vals=0 then 8 else if bg p t.vals=1 then 1 else bU s (some t.vals) ts
def rY(l:List (List Nat)):Bool:=l.any fun b=>decide (16<b.length)
def og(ts:List Tp)(l:List (List Nat)):Bool:=l.any fun b=>decide (cF (1-eJ ts b)<0)
def bD(r:Rel):Int:=if gt r.sch=false then 1 else if 64<r.tups.length then 4 else if bU r.sch none r.tups≠0 then bU r.sch none r.tups else if rY (bf r)then 4 else if og r.tups (bf r)then 19 else 0
def hO(ts:List Tp)(i:Nat):Option (List V):=if i=0 then none else(ts[i-1]?).map (·.vals)
theorem pM{s:Sch}{ts:List Tp}{i:Nat}{t:Tp}(h:ts[i]? =some t)(b:bV s t=0)(c:i=0):bU s (hO ts i) (ts.drop i)=bU s (hO ts (i+1)) (ts.drop (i+1)):=by
 obtain⟨a,rfl⟩:=Ok.1 h;subst c;rw[Ow a];simp only[hO,if_true,bU,b];simp[Og a]
theorem rB{s:Sch}{ts:List Tp}{i:Nat}{t:Tp}(h:ts[i]? =some t)(b:bV s t≠0):bU s (hO ts i) (ts.drop i)=bV s t:=by
 obtain⟨a,rfl⟩:=Ok.1 h;rw[Ow a];cases hO ts i<;>simp only[bU,if_pos b]
theorem rC{s:Sch}{ts:List Tp}{i:Nat}{t p:Tp}(h:ts[i]? =some t)(e:bV s t=0)(c:i≠0)(b:ts[i-1]? =some p):bU s (hO ts i) (ts.drop i)=if bg p.vals t.vals=0 then 8 else if bg p.vals t.vals=1 then 1 else bU s (hO ts (i+1)) (ts.drop (i+1)):=by
 obtain⟨a,rfl⟩:=Ok.1 h;rw[Ow a];have f:hO ts i=some p.vals:=by simp[hO,c,b]
 have d:hO ts (i+1)=some ts[i].vals:=by simp[hO,Og a]
 rw[f,d];simp only[bU,e];simp
theorem oE{l:List (List Nat)}(h:∀(j:Nat) (b:List Nat),l[j]? =some b->¬16<b.length):rY l=false:=by
 unfold rY;rw[Qj];intro b c;obtain⟨j,a,rfl⟩:=Pv c;simpa using h j _ (Og a)
theorem vV{l:List (List Nat)}{j:Nat}{b:List Nat}(h:l[j]? =some b)(a:16<b.length):rY l=true:=Q1.2 ⟨b,Om h,decide_eq_true a⟩
theorem ni{ts:List Tp}{l:List (List Nat)}(h:∀(j:Nat) (b:List Nat),l[j]? =some b->¬cF (1-eJ ts b)<0):og ts l=false:=by
 unfold og;rw[Qj];intro b c;obtain⟨j,a,rfl⟩:=Pv c;simpa using h j _ (Og a)
theorem tN{ts:List Tp}{l:List (List Nat)}{j:Nat}{b:List Nat}(h:l[j]? =some b)(a:cF (1-eJ ts b)<0):og ts l=true:=Q1.2 ⟨b,Om h,decide_eq_true a⟩
structure FitR (r:Rel):Prop where
 cols:r.sch.cols.length<=65536
 tups:r.tups.length<=65536
 tup:∀t∈r.tups,FitT t/\t.vals.length<=65536
def xV(vs:List V)(ts:List Tp):Nat:=(ts.takeWhile fun t=>decide (bg t.vals vs<0)).length
def dH(r:Rel)(t:Tp):Int:=
 if bD r≠0 then bD r else if bV r.sch t≠0 then bV r.sch t else if(mN t.vals r.tups 0).isSome then 8
 else if 64<=r.tups.length\/16<=(gw r t.vals).length then 4 else if 0<qY t.prob (1-eJ r.tups (gw r t.vals))then 19 else 0
def cZ(r:Rel)(t:Tp):Rel:=⟨r.sch,r.tups.take (xV t.vals r.tups)++[t]++r.tups.drop (xV t.vals r.tups)⟩
def sn:Tree:=.agg [.sc (.string ⟨#[]⟩),.sc (.bool false),.sl [],.sl []]
def tO(r:Rel)(t:Tp):Tree:=.tup [if dH r t=0 then(cZ r t).tree else sn,.sc (.int .i64 (dH r t))]
theorem nH{n k:Nat}(h:(az n).length<=k):n<4294967296^k:=by
 have:=cf (az n) (cE n);rw[aS]at this;exact Oz this (OQ (by decide) h)
theorem jI{a b j k:Nat}(c:(az a).length<=j)(d:(az b).length<=k):(az (a*b)).length<=j+k:=by
 refine bk ?_;rw[PN];exact Sd (nH c) (nH d)
theorem vW{a b k:Nat}(c:(az a).length<=k)(d:(az b).length<=k):(az (a+b)).length<=k+1:=by
 refine bk ?_;have f:=nH c;have e:=nH d;rw[OO];omega
theorem pN(p q:Rat):p=eh (decide (p.num<0)) (p.num.natAbs*q.den) (p.den*q.den):=by
 conv=>lhs;rw[<-fU p]
 exact B2 _ p.den_pos (QZ p.den_pos q.den_pos) (by rw[OL,OF q.den])
theorem qZ(p q:Rat):q=eh (decide (q.num<0)) (q.num.natAbs*p.den) (p.den*q.den):=by
 rw[OF p.den];exact pN q p
theorem zC{p q:Rat}(h:decide (p.num<0)=decide (q.num<0)):eh (decide (p.num<0)) (p.num.natAbs*q.den+q.num.natAbs*p.den) (p.den*q.den)=p+q:=by
 rw[<-pD _ _ _ (QZ p.den_pos q.den_pos),<-pN p q];congr 1;rw[h];exact(qZ p q).symm
theorem Hp{p q:Rat}(h:decide (p.num<0)≠decide (q.num<0))(a:q.num.natAbs*p.den<=p.num.natAbs*q.den):eh (decide (p.num<0)) (p.num.natAbs*q.den-q.num.natAbs*p.den) (p.den*q.den)=p+q:=by
 rw[<-tG h (QZ p.den_pos q.den_pos) a,<-pN p q,<-qZ p q]
theorem Hq{p q:Rat}(h:decide (p.num<0)≠decide (q.num<0))(a:p.num.natAbs*q.den<q.num.natAbs*p.den):eh (decide (q.num<0)) (q.num.natAbs*p.den-p.num.natAbs*q.den) (p.den*q.den)=p+q:=by
 rw[<-tH h (QZ p.den_pos q.den_pos) a,<-pN p q,<-qZ p q]
theorem Mb(ng:Bool)(N:Nat){D:Nat}(a:0<D):(eh ng N D).num.natAbs<=N/\(eh ng N D).den<=D:=by
 rcases Pg N with h|h
 ·subst h;rw[nh];exact⟨Oh _,a⟩
 obtain⟨_,b,c⟩:=qU ng h a;rw[b,c];exact⟨Ql _ _,Ql _ _⟩
theorem nJ{ng:Bool}{N D L:Nat}(c:0<D)(e:(az N).length<=L)(a:(az D).length<=L):Fit L (eh ng N D):=by
 obtain⟨b,d⟩:=Mb ng N c;exact⟨Oq (bi b) e,Oq (bi d) a⟩
theorem DR{a b:Nat}{p q:Rat}(c:Fit a p)(g:Fit b q):Fit (a+b+1) (p+q):=by
 have f:=QZ p.den_pos q.den_pos;have e:(az (p.den*q.den)).length<=a+b+1:=R4 (jI c.den g.den);have i:(az (p.num.natAbs*q.den)).length<=a+b:=jI c.num g.den;have j:(az (q.num.natAbs*p.den)).length<=a+b:=by rw[P0];exact jI g.num c.den
 by_cases h:decide (p.num<0)=decide (q.num<0)
 ·rw[<-zC h];exact nJ f (vW i j) e
 rcases OS (p.num.natAbs*q.den) (q.num.natAbs*p.den)with d|d
 ·rw[<-Hq h d];exact nJ f (R4 (Oq (bi (RN _ _)) j)) e
 rw[<-Hp h d];exact nJ f (R4 (Oq (bi (RN _ _)) i)) e
theorem DS{a:Nat}{p:Rat}(b:Fit a p):Fit a (-p):=⟨by rw[Rat.neg_num,Int.natAbs_neg];exact b.num,by rw[Rat.neg_den];exact b.den⟩
theorem nK{a b:Nat}{p q:Rat}(d:Fit a p)(c:Fit b q):Fit (a+b+1) (p-q):=by
 rw[Rat.sub_eq_add_neg];exact DR d (DS c)
theorem Fit.mono{a b:Nat}{p:Rat}(h:Fit a p)(c:a<=b):Fit b p:=⟨Oq h.num c,Oq h.den c⟩
theorem tP{α:Type}{f:α->α}:∀{l:List α} {i:Nat} {x:α},x∈l.modify i f->x∈l\/∃y∈l,x=f y
 |[],_,x,h=>by simp at h
 |a::l,0,x,h=>by
  simp only[List.modify_zero_cons,OC]at h;rcases h with rfl|h
  ·exact .inr ⟨a,by simp,Z⟩
  exact .inl (by simp[h])
 |a::l,i+1,x,h=>by
  simp only[Sv,OC]at h;rcases h with rfl|h
  ·exact .inl (by simp)
  rcases tP h with b|⟨y,b,c⟩
  ·exact .inl (by simp[b])
  exact .inr ⟨y,by simp[b],c⟩
theorem kM{α:Type}{a:α}:∀{l:List α} {i:Nat} {x:α},x∈l.insertIdx i a->x∈l\/x=a
 |l,0,x,h=>by
  simp only[List.insertIdx_zero,OC]at h;exact h.symm
 |[],i+1,x,h=>by simp at h
 |b::l,i+1,x,h=>by
  simp only[List.insertIdx_succ_cons,OC]at h;rcases h with rfl|h
  ·exact .inl (by simp)
  rcases kM h with h|rfl
  ·exact .inl (by simp[h])
  exact .inr Z
theorem u7{α:Type}{a:α}(l:List α)(i:Nat):(l.insertIdx i a).length<=l.length+1:=by
 rw[Sw];split<;>omega
def Hr(i:Nat)(l:List (List Nat)):Prop:=l.length<=i/\∀b∈l,b.length<=i/\∀j∈b,j<i
theorem EP{s:Sch}{e:List (List V)×List (List Nat)}{i:Nat}{t:Tp}(h:Hr i e.2):Hr (i+1) (iI s e i t).2:=by
 obtain⟨n,k⟩:=h;have g:∀b∈e.2,b.length<=i+1/\∀j∈b,j<i+1:=fun b c=>⟨by have:=(k b c).1;omega,fun j d=>by have:=(k b c).2 j d;omega⟩
 have l:([i]:List Nat).length<=i+1/\∀j∈[i],j<i+1:=⟨by simp,fun j d=>by simp at d;omega⟩;unfold iI;split
 ·refine⟨by simp;omega,fun b c=>?_⟩;rcases OZ.1 c with c|c
  ·exact g b c
  rw[OG.1 c];exact l
 split
 ·refine⟨by simp;omega,fun b c=>?_⟩;rcases tP c with f|⟨y,f,m⟩
  ·exact g b f
  subst m;refine⟨by have:=(k y f).1;simp;omega,fun j d=>?_⟩;rcases OZ.1 d with d|d
  ·exact(g y f).2 j d
  rw[OG.1 d];omega
 refine⟨by have:=u7 (a:=[i]) e.2 (bF e.1 (aJ s t.vals));show(e.2.insertIdx _ _).length<=_;omega,fun b c=>?_⟩;rcases kM c with c|rfl
 ·exact g b c
 exact l
theorem mm{s:Sch}:∀(ts:List Tp) (a:List (List V)×List (List Nat)) (i:Nat),Hr i a.2->Hr (i+ts.length) (dP s a i ts).2
 |[],a,i,h=>h
 |t::ts,a,i,h=>by
  have:=mm (s:=s) ts _ (i+1) (EP (s:=s) (t:=t) h);rw[Oi,show i+(ts.length+1)=i+1+ts.length by omega];exact this
theorem rD(r:Rel):Hr r.tups.length (bf r):=by
 unfold bf;split
 ·exact⟨OA _,fun b a=>by cases a⟩
 have:=mm (s:=r.sch) r.tups ([],[]) 0 ⟨Oh _,fun b a=>by cases a⟩;rwa[Pk]at this
theorem tQ(r:Rel):(bf r).length<=r.tups.length:=(rD r).1
theorem vX(r:Rel):∀b∈bf r,b.length<=r.tups.length/\∀i∈b,i<r.tups.length:=(rD r).2
theorem vY{s:Sch}{key:List V}:∀(ts:List Tp) (i:Nat),(b8 s key ts i).length<=ts.length/\∀j∈b8 s key ts i,j<i+ts.length
 |[],i=>⟨Oh _,fun j h=>by cases h⟩
 |t::ts,i=>by
  have h:=vY (s:=s) (key:=key) ts (i+1);unfold b8;split
  ·refine⟨by simp;exact h.1,fun j a=>?_⟩;simp only[OC]at a;rcases a with rfl|a
   ·simp
   have:=h.2 j a;simp;omega
  exact⟨by have:=h.1;simp;omega,fun j a=>by have:=h.2 j a;simp;omega⟩
theorem Mc(r:Rel)(vs:List V):(gw r vs).length<=r.tups.length/\∀i∈gw r vs,i<r.tups.length:=by
 unfold gw;split
 ·exact⟨OA _,fun i h=>by cases h⟩
 have:=vY (s:=r.sch) (key:=aJ r.sch vs) r.tups 0;rw[Pk]at this;exact this
theorem ij{s:Sch}{t:Tp}(h:bV s t=0):t.vals.length=s.cols.length/\iA s.cert t.prob=true/\gt s=true/\fF s.cols t.vals=false:=by
 unfold bV at h;split at h
 ·cases h
 next h1=>
 split at h
 ·cases h
 next h2=>
 split at h
 ·cases h
 next h3=>
 split at h
 ·next h4=>exact⟨PV.1 h2,h4,by simpa using h1,by simpa using h3⟩
 cases h
theorem gD{s:Sch}:∀{l:List Tp} {p:Option (List V)},bU s p l=0->∀t∈l,bV s t=0
 |[],_,_,t,a=>by cases a
 |x::l,p,h,t,a=>by
  have b:bV s x=0/\bU s (some x.vals) l=0:=by
   cases p with
   |none=>
    rw[bU]at h;split at h
    ·next h1=>exact absurd h h1
    next h1=>exact⟨PV.1 h1,h⟩
   |some q=>
    rw[bU]at h;split at h
    ·next h1=>exact absurd h h1
    next h1=>
    split at h
    ·cases h
    split at h
    ·cases h
    exact⟨PV.1 h1,h⟩
  rcases OC.1 a with rfl|a
  ·exact b.1
  exact gD b.2 t a
theorem zD{r:Rel}(h:bU r.sch none r.tups=0):∀t∈r.tups,t.vals.length=r.sch.cols.length:=fun t a=>(ij (gD h t a)).1
theorem kN{cert:Bool}{q:Rat}(h:iA cert q=true):0<=q/\0<=1-q:=by
 unfold iA at h;simp only[Oo,Pu,OH,decide_eq_false_iff_not]at h;have a:=h.1.1;rw[j3,j3,Rat.not_lt,Rat.not_lt]at a;exact a
theorem Hs{cert:Bool}{q:Rat}(h:iA cert q=true):Fit 2049 q:=by
 obtain⟨d,f⟩:=kN h;unfold iA at h;simp only[Oo,decide_eq_true_eq]at h;have b:=h.2;have a:(az q.den).length<=2049:=by
  unfold bP at b;rw[if_neg q.den_nz]at b;omega
 refine⟨Oq (bi ?_) a,a⟩;have g:=Rat.num_nonneg.2 d;have e:q<=1:=by grind
 have c:=(Rat.le_iff _ _).1 e;simp at c;omega
theorem vZ{r:Rel}(h:bU r.sch none r.tups=0):∀(b:List Nat) (q:Rat) (k:Nat),(∀i∈b,i<r.tups.length)->Fit k q->Fit (k+2050*b.length) (b.foldl (fun q i=>q+iw r.tups i) q)
 |[],q,k,_,hq=>hq
 |i::b,q,k,hb,hq=>by
  have a:i<r.tups.length:=hb i (by simp);have d:Fit 2049 (iw r.tups i):=by
   unfold iw;rw[Og a];exact Hs (ij (gD h _ (Pm a))).2.1
  have:=vZ h b (q+iw r.tups i) (k+2049+1) (fun j c=>hb j (by simp[c])) (DR hq d);rw[Qk,Oi];exact this.mono (by omega)
theorem nL{r:Rel}{b:List Nat}(h:bU r.sch none r.tups=0)(d:∀i∈b,i<r.tups.length)(e:b.length<=16):Fit 262144 (eJ r.tups b)/\Fit 262144 (1-eJ r.tups b):=by
 have c:Fit 32802 (eJ r.tups b):=(vZ h b 0 1 d ⟨by decide,by decide⟩).mono (by omega);exact⟨c.mono (by decide),(nK (a:=1) ⟨by decide,by decide⟩ c).mono (by decide)⟩
theorem Lj{es:List Tree}(h:es=[]):(Tree.sl [])=.sl es:=by rw[h]
theorem oF:jP Tryz.prog 24=some (58,3,32):=by kernel_rfl
theorem v7(l:List Col)(e:l.length<=65536):Ct 27 [.sl (l.map Col.tree)] (.sl (l.map Col.tree)):=by
 refine Ct.of (n:=8) Tryz.func27 Z Z Z Z Z fun w0 G0=>?_
 refine ab<|ae<|ag (t:=.sl []) Z Z Z (bI (.inr Z) bQ)<|af<|ab<|ab<|ae<|aa 1 Z<|kp (fun d=>∃c:Bool,(c=true->(l.map Col.tree)=[])/\d=bT c) Z Z Z (vD Z bh Z) ?_;rintro _ ⟨nb,b,rfl⟩;refine af<|aH Z (fun a=>?_) (fun a=>?_)
 ·refine ab<|ae<|ag (t:=.sl []) Z Z Z (bI (.inr Z) bQ)<|af<|ax<|⟨.inr Z,_,.cons Z .nil,Lj (b a),Z⟩
 refine ar<|ab<|ae<|lW (k:=0) (rs':=[some ⟨58,3,[].map Col.tree,true⟩]) Z Z Z Z oF Z Z<|aa 1 Z<|a8 (bs':=[]) (rs':=[some ⟨58,3,l.map Col.tree,false⟩]) Z Z Z Z oF Z Z Z Z (ei _) (AllC.map _ _ fun _=>rfl) (AllC.map _ _ fun _=>rfl) (by simp only[Ol,Ou];omega) Z Z Z Z<|aa 1 Z<|af<|dI 0 (bs':=[]) (rs':=[none]) Z Z Z Z<|ax<|⟨.inr Z,_,.cons Z .nil,Z,Z⟩
theorem EQ(l:List V)(e:l.length<=65536):Ct 155 [.sl (l.map V.tree)] (.sl (l.map V.tree)):=by
 refine Ct.of (n:=8) Tryz.func155 Z Z Z Z Z fun w0 G0=>?_
 refine ab<|ae<|ag (t:=.sl []) Z Z Z (bI (.inr Z) bQ)<|af<|ab<|ab<|ae<|aa 1 Z<|kp (fun d=>∃c:Bool,(c=true->(l.map V.tree)=[])/\d=bT c) Z Z Z (vD Z bw Z) ?_;rintro _ ⟨nb,b,rfl⟩;refine af<|aH Z (fun a=>?_) (fun a=>?_)
 ·refine ab<|ae<|ag (t:=.sl []) Z Z Z (bI (.inr Z) bQ)<|af<|ax<|⟨.inr Z,_,.cons Z .nil,Lj (b a),Z⟩
 refine ar<|ab<|ae<|lW (k:=0) (rs':=[some ⟨77,3,[].map V.tree,true⟩]) Z Z Z Z iP Z Z<|aa 1 Z<|a8 (bs':=[]) (rs':=[some ⟨77,3,l.map V.tree,false⟩]) Z Z Z Z iP Z Z Z Z (gc _) (AllC.map _ _ fun _=>rfl) (AllC.map _ _ fun _=>rfl) (by simp only[Ol,Ou];omega) Z Z Z Z<|aa 1 Z<|af<|dI 0 (bs':=[]) (rs':=[none]) Z Z Z Z<|ax<|⟨.inr Z,_,.cons Z .nil,Z,Z⟩
theorem jp{w:World}{base g n a sz i:Nat}{e:TypeId}{xs:List Value}(h:w.ownsRow base e sz (.slice (some ⟨g,0,none⟩) n a) n xs)(u:Value):(w.setCell ⟨g,i,none⟩ u).ownsRow base e sz (.slice (some ⟨g,0,none⟩) n a) n (xs.set i u):=by
 obtain⟨f,p⟩:=h;rcases p with⟨c,_⟩|⟨s,d,cur,c,k,j,r,o,q,m⟩
 ·cases c
 injection c with b _ l
 injection b with b
 injection b with b
 subst b l;refine⟨by rw[O4];exact f,.inr ⟨g,a,cur.setIfInBounds i u,Z,k,?_,r,o,by simpa using q,?_⟩⟩
 ·simp[World.setCell,P4,j]
 rw[<-m,P8,RW]
def ra:List Value->Nat->List Value->List Value
 |xs,_,[]=>xs
 |xs,o,v::r=>ra (xs.set o v) (o+1) r
theorem cH{base g n a sz:Nat}{e:TypeId}:∀(vs:List Value) (o:Nat) (w:World) (xs:List Value),w.ownsRow base e sz (.slice (some ⟨g,0,none⟩) n a) n xs->(w.setCells g o vs).ownsRow base e sz (.slice (some ⟨g,0,none⟩) n a) n (ra xs o vs)
 |[],_,_,_,h=>h
 |v::r,o,w,xs,h=>cH r (o+1) _ _ (jp h v)
theorem j5:∀(vs a b c:List Value),b.length=vs.length->ra (a++b++c) a.length vs=a++vs++c
 |[],a,b,c,h=>by
  obtain rfl:b=[]:=OB h;rfl
 |v::r,a,[],c,h=>by cases h
 |v::r,a,x::b,c,h=>by
  have e:(a++x::b++c).set a.length v=(a++[v])++b++c:=by
   rw[O0,P5 _ _ (Oh _),Pb];simp
  have d:=j5 r (a++[v]) b c (by simpa using h);rw[ra,e,show a.length+1=(a++[v]).length by simp,d];simp
theorem dU{P:Program}(w:World)(p sT ty c:TypeId)(b o e h k:Nat)(a:Addr)(d g:Nat)(cs:List Value)
  (t:P.underlying p=some (.slice c)) (n:(P.info? c).map (·.size)=some k) (y:Nat.min d e*k=cs.length)
  (f:∀j v,cs[j]? =some v->w.cell? (a.add j)=some v) (x:∀j,j<cs.length->(w.cell? ⟨b,o+j,none⟩).isSome=true) (u:∀j,j<cs.length->w.frozen? ⟨b,o+j,none⟩=false) (s:∀v∈cs,v.oneCell'=true):
  (Builtin.copy_ #[p,sT] ty #[.slice (some ⟨b,o,none⟩) e h,.slice (some a) d g]).run P w=.ok (goInt (Nat.min d e)) (w.setCells b o cs):=by
 have q:=run_loadCells_list (P:=P) w a cs f;have l:=run_storeCells_cells (P:=P) b o cs 0 w (by simpa using x) (by simpa using u) s;cases m:P.info? c with
 |none=>simp[m]at n
 |some i=>
  have r:i.size=k:=by simpa[m]using n
  simp[Builtin.copy_,run_underlying t,Builtin.lenOf,Builtin.firstCells,sizeOf,typeInfo,m,r,y,q,l]
theorem DT:(Tryz.prog.info? 67).map (fun i=>(i.zero,i.size,i.bytes))=some (some (.agg #[.slice none 0 0,.bool false,.slice none 0 0,.slice none 0 0]),4,80):=by kernel_rfl
theorem je(k:Nat):(Builtin.zeroCells (Value.agg #[.slice none 0 0,.bool false,.slice none 0 0,.slice none 0 0]).cells k).size=k*4:=by
 simp[Builtin.zeroCells,Value.cells]
theorem B8(k:Nat):(Builtin.zeroCells (Value.agg #[.slice none 0 0,.bool false,.slice none 0 0,.slice none 0 0]).cells k).toList.length=k*4:=by rw[Po,je]
theorem ER(w:World)(b off n i:Nat)(a:List Value)(y:i<n)(z:n<=65536)(c:a.length=i*4)(m:∀j u,a[j]? =some u->w.cell? ⟨b,off+j,none⟩=some u):
  ∃d p r,(∀ty,(Builtin.append_ #[28,3] ty #[.slice (some ⟨b,off,none⟩) i n,.int .i64 ((n+1-i:Nat):Int)]).run Tryz.prog w=.ok (.slice (some ⟨w.heap.size,0,none⟩) (n+1) d) p)/\p.ownsRow w.heap.size 67 4 (.slice (some ⟨w.heap.size,0,none⟩) (n+1) d) (n+1) (a++r)/\r.length=(n+1-i)*4/\Below w.heap.size w p/\n+1<=d/\d<=9223372036854775807:=by
 obtain⟨t,q,l,o,h⟩:=info_parts DT;have k:(Builtin.firstCells t.size i (.slice (some ⟨b,off,none⟩) i n)).run Tryz.prog w.drew=.ok a.toArray w.drew:=by
  rw[o];exact run_firstCells_some w.drew 4 i ⟨b,off,none⟩ i n a c (fun j v x=>by rw[Addr.add_lit];exact m j v x)
 have g:=grownCap_ge w (i+(n+1-i)) n 67;have f:=grownCap_le_maxLen w (i+(n+1-i)) n 67 (by unfold maxLen;omega);have s:=fun ty=>Lib.run_append_grow_zeros w 28 3 ty 67 t _ .i64 .i64 Tryz.underlying28 Tryz.underlying3 q l (some ⟨b,off,none⟩) i n a k (n+1-i) (by omega) (by omega) (by omega) (by omega) (by rw[h];omega) (by rw[h];exact growslice_fits (by omega) (by omega))
 rw[show i+(n+1-i)=n+1 by omega]at s g f;refine⟨_,_,(Builtin.zeroCells (Value.agg #[.slice none 0 0,.bool false,.slice none 0 0,.slice none 0 0]).cells (n+1-i)).toList,s,⟨?_,.inr ⟨_,_,_,Z,Oh _,heap_alloc_new _ _,g,f,?_,?_⟩⟩,?_,((Below.refl _ _).drew).alloc (Oh _) _,g,by unfold maxLen at f;omega⟩
 ·rw[Oj,c,Po,je];omega
 ·rw[QU,QU,je,je,Rw,c];omega
 ·have e:(a++(Builtin.zeroCells (Value.agg #[.slice none 0 0,.bool false,.slice none 0 0,.slice none 0 0]).cells (n+1-i)).toList).length=(n+1)*4:=by rw[Oj,B8,c];omega
  rw[PK,PK,Rc (Qb e.symm)];exact Oy (Qb e)
 rw[Po,je]
theorem ES(a us b d:List Value){n:Nat}(i:Nat)(k:us.length=4)(l:d.length=(n-i)*4)(j:b.length=(n+1-i)*4)(c:a.length=i*4)(g:i<n):ra (ra (a++b) (i*4) us) ((i+1)*4) d=a++us++d:=by
 have f:a++b=a++b.take 4++b.drop 4:=by rw[O0,Pz]
 rw[f,<-c,j5 us a (b.take 4) (b.drop 4) (by rw[Ox];omega)];have e:(i+1)*4=(a++us).length:=by rw[Oj];omega
 have h:=j5 d (a++us) (b.drop 4) [] (by rw[OP];omega);rw[O5,O5]at h;rw[e,h]
theorem zE{w w':World}(h:w.grownBy w' none):Below w.heap.size w w':=(Below.refl _ _).grown h (Oh _) (fun k e=>by cases e)
theorem eU{w:World}:∀(vs:List Value) (o:Nat) {W:World},Below w.heap.size w W->Below w.heap.size w (W.setCells w.heap.size o vs)
 |[],_,_,h=>h
 |v::r,o,_,h=>eU r (o+1) (h.setCell (p:=⟨w.heap.size,o,none⟩) (Oh _) v)
theorem dJ{w:World}{base g n c sz:Nat}{e:TypeId}{xs:List Value}(h:w.ownsRow base e sz (.slice (some ⟨g,0,none⟩) n c) n xs)(i:Nat):w.frozen? ⟨g,i,none⟩=false:=by
 rcases h.2 with⟨b,_⟩|⟨k,d,cur,b,j,f,_⟩
 ·cases b
 injection b with a
 injection a with a
 injection a with a
 subst a;simp[World.frozen?,f]
theorem gE{w:World}{base g n a sz:Nat}{e:TypeId}{xs:List Value}(h:w.ownsRow base e sz (.slice (some ⟨g,0,none⟩) n a) n xs){j:Nat}(c:j<n*sz):(w.cell? ⟨g,j,none⟩).isSome=true:=by
 have b:=h.1;have:=World.ownsRow.cells h (g:=g) Z j xs[j] (Og (by omega));rw[show(⟨g,0,none⟩:Addr).add j=⟨g,j,none⟩from by unfold Addr.add;split<;>simp_all]at this;rw[this];rfl
theorem Ht(b off n i r c K:Nat)(cs us:List Value)(w:World)(R:i<n)(U:n<=65536)(B:cs.length=n*4)(D:us.length=4)
  (l:∀j v,cs[j]? =some v->w.cell? ⟨b,off+j,none⟩=some v) (E:∀j v,us[j]? =some v->w.cell? ⟨r,c+j,none⟩=some v) (G:∀v∈cs,v.oneCell'=true) (H:∀v∈us,v.oneCell'=true):
  Calls Tryz.prog 84 #[.slice (some ⟨b,off,none⟩) n n,.int .i64 i,.slice (some ⟨r,c,none⟩) 1 K] w fun e w'=>
   ∃f,e=.returned (.slice (some ⟨w.heap.size,0,none⟩) (n+1) f)/\w'.ownsRow w.heap.size 67 4 (.slice (some ⟨w.heap.size,0,none⟩) (n+1) f) (n+1) (cs.take (i*4)++us++cs.drop (i*4))/\Below w.heap.size w w':=by
 have L:b<w.heap.size:=World.block_lt_of_cell? _ _ (l 0 _ (Og (by omega)));have I:r<w.heap.size:=World.block_lt_of_cell? _ _ (E 0 _ (Og (by omega)));obtain⟨f,q,V,A,d,M,F,S,a3⟩:=ER w b off n i (cs.take (i*4)) R U (by rw[Ox];omega) (fun j u g=>by
  rw[Ph]at g;split at g
  ·exact l j u g
  cases g)
 rw[show((n+1-i:Nat):Int)=(n:Int)+1-(i:Int) by omega]at A;have a2:IntKind.i64.wrap ((i:Int)+1)=(i:Int)+1:=by rw[Pj];omega
 have a5:(0:Int)<=(i:Int)+1:=by omega
 have a1:((i:Int)+1).toNat=i+1:=by omega
 have a4:(i:Int)<=(n:Int):=by omega
 have a0:¬((i:Int)=(n:Int)):=by omega
 have T:(n:Int)<(n:Int)+1:=by omega
 have k:(cs.drop (i*4)).length=(n-i)*4:=by rw[OP,B,Nat.sub_mul]
 have z:(Tryz.prog.info? 67).map (·.size)=some 4:=by kernel_rfl
 have h:∀ty m,(Builtin.copy_ #[28,28] ty #[.slice (some ⟨w.heap.size,i*4,none⟩) (n+1-i) m,.slice (some ⟨r,c,none⟩) 1 K]).run Tryz.prog q=.ok (goInt (Nat.min 1 (n+1-i))) (q.setCells w.heap.size (i*4) us):=fun ty m=>
  dU q _ _ ty 67 w.heap.size (i*4) (n+1-i) m 4 ⟨r,c,none⟩ 1 K us Tryz.underlying28 z (by rw[D,show Nat.min 1 (n+1-i)=1 from PM (by omega)])
   (fun j v g=>by rw[Addr.add_lit];exact(F.cell (p:=⟨r,c+j,none⟩) I).trans (E j v g))
   (fun j g=>gE d (by omega)) (fun j g=>dJ d _) H
 have a:=cH us (i*4) q _ d;have o:Below w.heap.size w (q.setCells w.heap.size (i*4) us):=eU us _ F;obtain⟨s,y⟩:∃s,q.setCells w.heap.size (i*4) us=s:=⟨_,rfl⟩;rw[y]at a o;simp only[y]at h;have C:Nat.min (n-i) (n-i)=n-i:=SO _;have O:Tryz.prog.follows .mixedOrders=true:=by kernel_rfl
 have N:¬(f=i+1):=by omega
 have J:¬(n=i):=by omega
 have t:∀(W:World),(∀x,W.cell? x=s.cell? x)->(∀x,W.frozen? x=s.frozen? x)->∀ty m sc,(Builtin.copy_ #[28,28] ty #[.slice (some ⟨w.heap.size,(i+1)*4,none⟩) (n-i) m,.slice (some ⟨b,off+i*4,none⟩) (n-i) sc]).run Tryz.prog W=.ok (goInt (Nat.min (n-i) (n-i))) (W.setCells w.heap.size ((i+1)*4) (cs.drop (i*4))):=fun W Q X ty m sc=>
  dU W _ _ ty 67 w.heap.size ((i+1)*4) (n-i) m 4 ⟨b,off+i*4,none⟩ (n-i) sc (cs.drop (i*4)) Tryz.underlying28 z (by rw[C,k])
   (fun j v g=>by
    rw[Addr.add_lit,Q,P9];exact(o.cell (p:=⟨b,off+(i*4+j),none⟩) L).trans (l _ v (by rwa[PB]at g)))
   (fun j g=>by rw[Q];exact gE a (by omega)) (fun j g=>by rw[X];exact dJ a _) (fun v Y=>G v (Pq Y))
 go_enter Tryz.func84,Tryz.ntmps84
 go_wp2_with (first
  |(at_builtin;refine Lib.wpList_append_run _ Z _ _ _ _ Z _ _ Z Z _ _ (A _) ?_)
  |(at_builtin;refine wpList_copy_runI _ Z _ _ 28 28 Z _ _ Z Z (h _ _) ?_))
 go_region_law_o (refine step_copy_runI Z _ _ 28 28 Z (.slice (some ⟨w.heap.size,(i+1)*4,none⟩) (n-i) (f-(i+1))) (.slice (some ⟨b,off+i*4,none⟩) (n-i) (n-i)) (by simp[Act.eval,Act.put,N]) (by simp[Act.eval,Act.put,J]) (t s.drew (fun _=>rfl) (fun _=>rfl) 3 (f-(i+1)) (n-i)) ?_)
 go_wp2
 go_ret
 refine⟨f,Z,?_,eU _ _ o.drew⟩;have P:=cH (cs.drop (i*4)) ((i+1)*4) s.drew (ra (cs.take (i*4)++V) (i*4) us) a;rw[ES _ _ _ _ i D k M (by rw[Ox,B];omega) (by omega)]at P;exact P
theorem Hu(k:Option Addr)(n u c E:Nat)(cs us:List Value)(w:World)(U:n<=65536)(B:cs.length=n*4)(G:us.length=4)(d:k=none->n=0/\n=0)
  (r:∀b,k=some b->∀j v,cs[j]? =some v->w.cell? (b.add j)=some v) (p:∀b,k=some b->n=0\/∃g off,b=⟨g,off,none⟩) (H:∀j v,us[j]? =some v->w.cell? ⟨u,c+j,none⟩=some v) (C:∀v∈us,v.oneCell'=true):
  Calls Tryz.prog 84 #[.slice k n n,.int .i64 n,.slice (some ⟨u,c,none⟩) 1 E] w fun e w'=>
   ∃v',e=.returned v'/\w'.ownsRow w.heap.size 67 4 v' (n+1) (cs++us)/\Below w.heap.size w w':=by
 obtain⟨R,z,A,D,y⟩:=info_parts DT;have l:∀(ops:Array Oper) (m:List Oper) (o:Oper) (a:Act) (Q:Exit->Act->World->Prop) (L:o.guard=none) (s x:Operand) (q:o.op=Op.call {callee:=Callee.builtin Builtin.append,args:=#[s,x],argTypes:=#[28,28]}) (O:a.eval s=.slice k n n) (I:a.eval x=.slice (some ⟨u,c,none⟩) 1 E)
   (M:∀v' w',w'.ownsRow w.heap.size 67 4 v' (n+1) (cs++us)->Below w.heap.size w w'->wpList Tryz.prog ops Q m (a.put o.dst v') w'),wpList Tryz.prog ops Q (o::m) a w:=fun _ _ _ _ _ L s x q O I M=>
  wpList_append_grows w L s x 28 q 67 R _ 4 80 Tryz.underlying28 z A D y Z (by decide) k n n cs O d B r ⟨u,c,none⟩ 1 E us I (by rw[G]) (fun j v S=>by rw[Addr.add_lit];exact H j v S) C (by omega) (by unfold maxLen;omega) (by omega) (fun v' w' T P=>M v' w' T (zE P))
 have t:k=none\/(n=0/\∃b,k=some b)\/∃g off,k=some ⟨g,off,none⟩:=by
  cases k with
  |none=>exact .inl Z
  |some b=>
   rcases p b rfl with h|⟨g,off,rfl⟩
   ·exact .inr (.inl ⟨h,b,Z⟩)
   exact .inr (.inr ⟨g,off,Z⟩)
 have F:=J l;clear l r d p;rcases t with rfl|⟨rfl,b,rfl⟩|⟨g,off,rfl⟩
 ·go_enter Tryz.func84,Tryz.ntmps84
  go_wp2_with (at_builtin;refine F.out _ _ _ _ _ rfl _ _ rfl rfl rfl ?_;intro N K i f)
  go_ret
  exact⟨_,Z,i,f⟩
 ·go_enter Tryz.func84,Tryz.ntmps84
  go_wp2_with (at_builtin;refine F.out _ _ _ _ _ rfl _ _ rfl rfl rfl ?_;intro N K i f)
  go_ret
  exact⟨_,Z,i,f⟩
 go_enter Tryz.func84,Tryz.ntmps84
 go_wp2_with (at_builtin;refine F.out _ _ _ _ _ rfl _ _ rfl rfl rfl ?_;intro N K i f)
 go_ret
 exact⟨_,Z,i,f⟩
theorem tR{W W':World}{G:Nat->Prop}{e:TypeId}{sz:Nat}{v:Value}{xs:List Value}{es:List Tree}(i:OkG G W)(d:W'.ownsRow W.heap.size e sz v es.length xs)(k:PT W' G xs (flat es)):PT W' G [v] [.sl es]:=by
 rcases d.2 with⟨rfl,b⟩|⟨g,c,cur,rfl,m,f,b,a,o,n⟩
 ·have:es=[]:=OB b;rw[this];exact bQ _ _
 refine .sl g 0 c _ xs es (O3.1 f).1 (fun h=>?_) (fun j u l=>?_) Z b (by unfold maxLen at a;omega) k .nil
 ·have:=(i g h).1;omega
 have:=World.ownsRow.cells d (g:=g) Z j u l;rw[show(⟨g,0,none⟩:Addr).add j=⟨g,0+j,none⟩from Addr.add_lit ..]at this;exact this
theorem mn{W:World}{G:Nat->Prop}{us:List Value}{ts:List Tree}(h:PT W G us ts)(a:ts.all Tree.one=true):∀u∈us,u.oneCell'=true:=FT.ones (E:=⟨W,G,fun _=>none,fun _=>none⟩) (FT.of h) a
theorem B9(l:List Tp)(t:Tp)(i:Nat)(hi:i<=l.length)(L:l.length<=65536):Ct 84 [.tl (l.map Tp.tree),iT (i:Nat),.sl ([t].map Tp.tree)] (.sl ((l.take i++[t]++l.drop i).map Tp.tree)):=⟨⟨_,Tryz.func84,Z,Z⟩,fun G w vs _ V W=>by
 obtain⟨v,x,y,rfl,X,S,Y⟩:=pA W;cases S;have I:Sized 4 (l.map Tp.tree):=bS _;have H:Sized 4 ([t].map Tp.tree):=bS _;obtain⟨B,O,rfl,_,_,_,P⟩:=Y.slice;obtain⟨N,d,us,rfl,a0,_,z,k⟩:=P (by simp);have C:us.length=4:=by rw[k.length,H.flat];rfl
 have m:∀u∈us,u.oneCell'=true:=mn k (AllC.map Tp.tree [t] (fun _=>rfl)).all;cases X with
 |tl A n _ hn hs _=>
  rw[Ol]at hn;subst hn;obtain⟨A',c',R,_,_,T,E⟩:=hs.slice;injection R with D e2 e3
  subst D;rw[Ol]at E;obtain⟨cs,p,f,s⟩:∃cs:List Value,cs.length=l.length*4/\PT w G cs (flat (l.map Tp.tree))/\∀b,A=some b->∀j u,cs[j]? =some u->w.cell? (b.add j)=some u:=by
   rcases Pg l.length with h|h
   ·obtain rfl:l=[]:=OB h;exact⟨[],Z,.nil,fun b _ j u F=>by simp at F⟩
   obtain⟨b,off,xs,rfl,_,_,hc,M⟩:=E h;refine⟨xs,by rw[M.length,I.flat,Ol],M,fun b' K j u F=>?_⟩;rw[<-PF K,Addr.add_lit];exact hc j u F
  have c:∀{e:Ending} {w':World} (v':Value),e=.returned v'->w'.ownsRow w.heap.size 67 4 v' (l.length+1) (cs.take (i*4)++us++cs.drop (i*4))->Below w.heap.size w w'->∃v,e=.returned v/\PT w' G [v] [.sl ((l.take i++[t]++l.drop i).map Tp.tree)]/\Below w.heap.size w w':=fun{e w'} v' r o a=>by
   refine⟨v',r,tR (sz:=4) (e:=67) (xs:=cs.take (i*4)++us++cs.drop (i*4)) V ?_ ?_,a⟩
   ·rw[show((l.take i++[t]++l.drop i).map Tp.tree).length=l.length+1 by simp;omega];exact o
   rw[PE,PE,Q4,QS,i8,i8,nv I,kV I];exact((((f.take _).later a).append (k.later a)).append ((f.drop _).later a))
  rcases OS i l.length with J|Q
  ·obtain⟨b,off,xs,rfl,_,_,_,_⟩:=E (by omega);refine(Ht b off l.length i N d O cs us w J L p C (fun j v q=>by rw[<-Addr.add_lit];exact s _ Z j v q) (fun j v q=>z j v q) (mn f (AllC.map Tp.tree l (fun _=>rfl)).all) m).mono ?_;rintro e w' ⟨U,r,o,a⟩;exact c _ r o a
  obtain rfl:i=l.length:=by omega
  refine(Hu A l.length N d O cs us w L p C (fun e=>by have:=T e;exact⟨by omega,by omega⟩) s (fun b a=>?_) (fun j v q=>z j v q) m).mono ?_
  ·rcases Pg l.length with h|h
   ·exact .inl h
   obtain⟨g,off,xs,D,_⟩:=E h;rw[a]at D;exact .inr ⟨g,off,PF D⟩
  rintro e w' ⟨v',r,o,a⟩;refine c v' r ?_ a;rw[Oy (by omega),Ov (by omega),O5];exact o⟩
end Go.Proofs.YtfoejfohbkmmeaaGreatDoor
