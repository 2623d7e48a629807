import Derived.Test.YtfoejfohbkmmeaaGreatDoorK35
set_option maxRecDepth 100000
set_option maxHeartbeats 4000000
set_option linter.defProp false
open Go.Proofs.Tryz
namespace Go.Proofs.YtfoejfohbkmmeaaGreatDoor
open Go.RowKit
open Lib renaming hid→J
variable{α:Type}
def jo(c:Col):List UInt8:=em c.name.data.toList++(cZ c.ty.toNat++gP c.key)
def nW(s:Sch):List UInt8:=em s.name.data.toList++(gP s.cert++cZ s.cols.length)
def gz(t:Tp):List UInt8:=em (eJ t.vals)++mF t.prob
def fV(r:Rel):List UInt8:=nW r.sch++(r.sch.cols.flatMap jo++(cZ r.tups.length++r.tups.flatMap gz))
def dH(r:Rel):List UInt8:=fV r++jv (ft (fV r))
def gj(l:List UInt8)(h:l.length<=1000000000):(em l).length<=l.length+10/\l.length+1<=(em l).length:=by
 have a:=dz (n:=l.length) O;have b:=oG l.length;unfold em;rw[Q4];omega
def iY(b:Bool):(gP b).length<=10/\1<=(gP b).length:=by
 unfold gP;exact⟨dz (by split<;>decide),oG _⟩
def ib(s:ByteArray):s.data.toList.length=s.size:=F
structure Enc (r:Rel):Prop where
 valid:bK r=0
 fit:FitR r/\True
 rng:∀t∈r.tups,∀v∈t.vals,v.rng
def Enc.len{r:Rel}(h:Enc r):r.tups.length<=64:=(nH.1 h.valid).2.1
def Good.enc{r:Rel}(h:Good r):Enc r:=⟨h.valid,⟨h.fit.1,trivial⟩,h.rng⟩
def wP{s:ByteArray}(h:j5 s=true):1<=s.size/\s.size<=24:=by
 unfold j5 at h;rw[Q9,Q9]at h;exact⟨of_decide_eq_true h.1.1,of_decide_eq_true h.1.2⟩
def tI{cert:Bool}:∀{l b:List Col},ik cert b l=false->∀c∈l,m9 cert c=false
 |[],_,_,c,a=>by cases a
 |d::l,b,h,c,a=>by
  rw[ik,Rp,Rp]at h;rcases Ri.1 a with rfl|a
  ·exact h.1.1
  exact tI h.2 c a
def Lq{s:Sch}(h:im s=true):(1<=s.name.size/\s.name.size<=24)/\(1<=s.cols.length/\s.cols.length<=6)/\∀c∈s.cols,c.name.size<=24/\0<=c.ty/\c.ty<=2:=by
 have d:=mu h;unfold im at h;rw[Sk,Rp]at h;refine⟨?_,d,λc e=>?_⟩
 ·have a:=h.1;unfold nd at a;rw[Rp,Rp]at a;exact wP (by simpa using a.1.1)
 have a:=tI h.2 c e;unfold m9 at a;rw[Rp,Rp]at a;refine⟨(wP (by simpa using a.1.1)).2,?_⟩;have b:=a.1.2;rw[SZ]at b;rcases b with b|b
 ·have:c.ty=1:=by simpa using b
  omega
 have:c.ty=2:=by simpa using b
 omega
def rT{r:Rel}(h:Enc r):(1<=r.sch.name.size/\r.sch.name.size<=24)/\(1<=r.sch.cols.length/\r.sch.cols.length<=6)/\∀c∈r.sch.cols,c.name.size<=24/\0<=c.ty/\c.ty<=2:=Lq (nH.1 h.valid).1
def rU{r:Rel}(h:Enc r){t:Tp}(c:t∈r.tups):t.vals.all V.ok=true/\t.vals.length<=6/\(eJ t.vals).length<=396:=by
 have a:=iV (((tC _).1 (nH.1 h.valid).2.2.1).1 t c);have b:t.vals.all V.ok=true:=Rl.2 λv e=>CJ a.2.2.2 a.1 v e
 have d:=oD h.valid t c;have f:=Ck b;exact⟨b,d,O⟩
def CR{r:Rel}(h:Good r):(1<=r.sch.name.size/\r.sch.name.size<=24)/\(1<=r.sch.cols.length/\r.sch.cols.length<=6)/\∀c∈r.sch.cols,c.name.size<=24/\0<=c.ty/\c.ty<=2:=rT h.enc
def CS{r:Rel}(h:Good r){t:Tp}(a:t∈r.tups):t.vals.all V.ok=true/\t.vals.length<=6/\(eJ t.vals).length<=396:=rU h.enc a
def mH{f:α->List UInt8}{l:List α}{i:Nat}{x:α}(h:l[i]? =some x):(l.drop i).flatMap f=f x++(l.drop (i+1)).flatMap f:=by
 obtain⟨a,rfl⟩:=Q6.1 h;rw[Re a,SI]
def CT(q:Rat)(h:Fit 262144 q):(mF q).length<=2097175:=by
 have a:=rS _ h.num;have b:=rS _ h.den;unfold mF;rw[Q5,Q4];omega
def O4{z:Int}(a:0<=z)(b:z<=2):(Tree.sc (.int .u64 (IntKind.u64.wrap z)))=.sc (.int .u64 ((z.toNat:Nat):Int)):=by
 rw[IntKind.wrap_u64];congr 2;omega
def No(l:List UInt8)(a:l.length<=4611686018427387904):CtO 54 [.sl (ak l)] 5 1 (ak (jv (ft l))):=by
 refine CtO.of (n:=18) func54 Z Z Z Z Z λw0 G0=>?_
 refine C<|M 0 (t:=.sl []) Z (bz (.inr Z) bS)<|E<|C<|M 1 Z (D Z (Lp l a) Z Z)<|Y 1 Z<|C<|M 1 (t:=.sc (.int .u32 ((ft l/2^24:Nat):Int))) Z (aC Z Z Z (λw=>eQ (ft l) 24 I1 w))<|M 0 (t:=.sc (.int .u8 ((ft l/2^24%256:Nat):Int))) Z (aj (bp Z cA b7 Z) lh)<|M 1 (t:=.sc (.int .u32 ((ft l/2^16:Nat):Int))) Z (aC Z Z Z (λw=>eQ (ft l) 16 I1 w))<|M 0 (t:=.sc (.int .u8 ((ft l/2^16%256:Nat):Int))) Z (aj (bp Z cA b7 Z) lh)<|M 1 (t:=.sc (.int .u32 ((ft l/2^8:Nat):Int))) Z (aC Z Z Z (λw=>eQ (ft l) 8 I1 w))<|M 0 (t:=.sc (.int .u8 ((ft l/2^8%256:Nat):Int))) Z (aj (bp Z cA b7 Z) lh)<|M 1 (t:=.sc (.int .u8 ((ft l%256:Nat):Int))) Z (aj (bp Z cA b7 Z) lh)<|AP (k:=0) (rs':=[some ⟨5,1,ak (jv (ft l)),true⟩]) Z Z Z Z Z Z Z Z Z (by rw[oH];rfl)<|Y 1 Z<|aQ<|⟨.inr Z,0,true,Z,Z⟩
def EV{r:Rel}(g:Enc r):CtP 18 [r.tree] 5 1 (ak (dH r)) (.int .i64 0):=by
 refine CtP.of (n:=90) func18 Z Z Z Z Z λw0 G0=>?_
 refine C<|M 1 (t:=.sl []) Z (bz (.inr Z) bS)<|Y 1 Z<|H<|H ?_;obtain⟨⟨a2,a3⟩,⟨a5,a4⟩,K⟩:=rT g;have R:=ib r.sch.name;have O:=gj r.sch.name.data.toList O0;have T:=iY r.sch.cert;have a9:=dz (n:=r.sch.cols.length) O0;refine am<|M 1 Z (D Z (lJ r g.fit.1) Z Z)<|Y 1 Z<|C<|M 1 (t:=bT ((bK r) !=0)) Z (aC Z Z Z Zy)<|E<|aK Z (λu=>?_) (λu=>?_)
 ·exact absurd g.valid (by simpa using u)
 refine ar<|C<|M 3 (t:=.sl (ak r.sch.name.data.toList)) Z (pk Z Z O0)<|mY (k:=0) (rs':=[some ⟨5,1,ak (em r.sch.name.data.toList),false⟩]) Z Z Z Z (uq _ O0) Z Z Z Z<|Y 1 Z<|C<|M 4 Z (D Z (Gj _) Z Z)<|a7 (bs':=[(30,(bQ r))]) (rs':=[some ⟨5,1,ak ((em r.sch.name.data.toList)++gP r.sch.cert),false⟩]) Z Z Z Z aZ Z Z Z Z (aP _) (AllC.map _ _ λ_=>rfl) (AllC.map _ _ λ_=>rfl) (by simp only[aA,Q4,Q5,Ra];omega) Z Z Z (by simp only[bg];rfl)<|Y 1 Z<|C<|M 4 Z (aU Z bk Z)<|M 0 (t:=.sc (.int .u64 ((r.sch.cols.length:Nat):Int))) Z (aj (bp Z cf b6 Z) (jt O0))<|M 0 Z (D Z ((pm _ O0).ct) Z Z)<|a7 (bs':=[(30,(bQ r))]) (rs':=[some ⟨5,1,ak (((em r.sch.name.data.toList)++gP r.sch.cert)++cZ r.sch.cols.length),false⟩]) Z Z Z Z aZ Z Z Z Z (aP _) (AllC.map _ _ λ_=>rfl) (AllC.map _ _ λ_=>rfl) (by simp only[aA,Q4,Q5,Ra];omega) Z Z Z (by simp only[bg];rfl)<|Y 1 Z<|H<|C<|M 3 Z (aU Z bk Z)<|Y 1 Z<|aB<|aT (λA s=>∃(i:Nat) (a:List UInt8),(i<=r.sch.cols.length/\a.length<=100+i*100/\a++(r.sch.cols.drop i).flatMap jo=nW r.sch++r.sch.cols.flatMap jo)/\A=r.sch.cols.length-i/\s=⟨90,[(1,.box 0 0),(5,.own 0),(36,.sl (r.sch.cols.map Col.tree)),(37,nI r.sch.cols.length),(38,nI i)],[(30,(bQ r))],[some ⟨5,1,ak a,false⟩]⟩) 1 1 ⟨0,(((em r.sch.name.data.toList)++gP r.sch.cert)++cZ r.sch.cols.length),⟨Rg _,by simp only[Q4];omega,by unfold nW;simp⟩,Z,Z⟩ .rf ?_;rintro A s ⟨i,a,⟨hi,L,e⟩,rfl,rfl⟩;refine C<|aI 0 Z Z Zy (B (gF i r.sch.cols.length))<|E<|H<|ay Z (λw=>?_) (λw=>?_)
 ·obtain⟨c,h⟩:∃c,r.sch.cols[i]? =some c:=⟨_,Q2 w⟩;obtain⟨a1,I,J⟩:=K c (Q8 h);rw[mH h]at e;have S:=ib c.name;have P:=gj c.name.data.toList O0;have b0:=dz (n:=c.ty.toNat) O0;have U:=iY c.key;refine ar<|H<|aB<|C<|M 0 (t:=.ref [sT c.name,iT c.ty,bT c.key]) Z (aO (Col.tree c) Z bk Z Z Z (bd (f:=Col.tree) h) (eP _) Z)<|Y 3 Z<|C<|M 3 (t:=.sl (ak c.name.data.toList)) Z (pk Z Z O0)<|M 0 Z (D Z ((uq _ O0).ct) Z Z)<|a7 (bs':=[(30,(bQ r)),(58,[sT c.name,iT c.ty,bT c.key])]) (rs':=[some ⟨5,1,ak (a++em c.name.data.toList),false⟩]) Z Z Z Z aZ Z Z Z Z (aP _) (AllC.map _ _ λ_=>rfl) (AllC.map _ _ λ_=>rfl) (by simp only[aA,Q4,Q5,Ra];omega) Z Z Z (by simp only[bg];rfl)<|Y 1 Z<|C<|M 3 (t:=.sc (.int .u64 ((c.ty.toNat:Nat):Int))) Z (aj (bp Z cf b6 Z) (O4 I J))<|M 0 Z (D Z ((pm _ O0).ct) Z Z)<|a7 (bs':=[(30,(bQ r)),(58,[sT c.name,iT c.ty,bT c.key])]) (rs':=[some ⟨5,1,ak ((a++em c.name.data.toList)++cZ c.ty.toNat),false⟩]) Z Z Z Z aZ Z Z Z Z (aP _) (AllC.map _ _ λ_=>rfl) (AllC.map _ _ λ_=>rfl) (by simp only[aA,Q4,Q5,Ra];omega) Z Z Z (by simp only[bg];rfl)<|Y 1 Z<|am<|M 3 Z (D Z (Gj _) Z Z)<|a7 (bs':=[(30,(bQ r)),(58,[sT c.name,iT c.ty,bT c.key])]) (rs':=[some ⟨5,1,ak (((a++em c.name.data.toList)++cZ c.ty.toNat)++gP c.key),false⟩]) Z Z Z Z aZ Z Z Z Z (aP _) (AllC.map _ _ λ_=>rfl) (AllC.map _ _ λ_=>rfl) (by simp only[aA,Q4,Q5,Ra];omega) Z Z Z (by simp only[bg];rfl)<|Y 1 Z<|am<|a8 0 (i+1) Z Z Zy O0<|Y 1 Z<|⟨_,_,?_,⟨i+1,(((a++em c.name.data.toList)++cZ c.ty.toNat)++gP c.key),?_,Z,Z⟩,.rf⟩
  ·omega
  exact⟨O0,by simp only[Q4];omega,by rw[<-e];unfold jo;simp⟩
 have F:a=nW r.sch++r.sch.cols.flatMap jo:=by rw[<-e,Rc O0];simp
 have b1:=dz (n:=r.tups.length) (by have:=g.len;omega);refine aX<|C<|M 3 Z (aU Z aV Z)<|M 0 (t:=.sc (.int .u64 ((r.tups.length:Nat):Int))) Z (aj (bp Z cf b6 Z) (jt (by have:=g.len;omega)))<|M 0 Z (D Z ((pm _ (by have:=g.len;omega)).ct) Z Z)<|a7 (bs':=[(30,(bQ r))]) (rs':=[some ⟨5,1,ak (a++cZ r.tups.length),false⟩]) Z Z Z Z aZ Z Z Z Z (aP _) (AllC.map _ _ λ_=>rfl) (AllC.map _ _ λ_=>rfl) (by simp only[aA,Q4,Q5,Ra];omega) Z Z Z (by simp only[bg];rfl)<|Y 1 Z<|H<|C<|M 2 Z (aU Z aV Z)<|Y 1 Z<|aB<|aT (λA s=>∃(j:Nat) (b:List UInt8),(j<=r.tups.length/\b.length<=1000+j*3000000/\b++(r.tups.drop j).flatMap gz=fV r)/\A=r.tups.length-j/\s=⟨90,[(1,.box 0 0),(5,.own 0),(68,.sl (r.tups.map Tp.tree)),(69,nI r.tups.length),(70,nI j)],[(30,(bQ r))],[some ⟨5,1,ak b,false⟩]⟩) 1 1 ⟨0,(a++cZ r.tups.length),⟨Rg _,by simp only[Q4];omega,by rw[F];unfold fV;simp⟩,Z,Z⟩ .rf ?_;rintro A s ⟨j,b,⟨hj,N,d⟩,rfl,rfl⟩;have a0:=g.len;refine C<|aI 0 Z Z Zy (B (gF j r.tups.length))<|E<|H<|ay Z (λx=>?_) (λx=>?_)
 ·obtain⟨t,o⟩:∃t,r.tups[j]? =some t:=⟨_,Q2 x⟩;have q:=Q8 o;obtain⟨G,W,X⟩:=rU g q;have z:=(g.fit.1.tup t q).1.p;rw[mH o]at d;have Q:=gj (eJ t.vals) O0;have V:=CT t.prob z;refine ar<|H<|aB<|C<|M 0 (t:=.ref (eA t)) Z (aO (Tp.tree t) Z aV Z Z Z (bd (f:=Tp.tree) o) (c6 _) Z)<|Y 3 Z<|C<|M 3 Z (D Z (Nm t.vals O0 G (λv hv=>g.rng t q v hv)) Z Z)<|M 0 Z (D Z ((uq _ O0).ct) Z Z)<|a7 (bs':=[(30,(bQ r)),(67,(eA t))]) (rs':=[some ⟨5,1,ak (b++em (eJ t.vals)),false⟩]) Z Z Z Z aZ Z Z Z Z (aP _) (AllC.map _ _ λ_=>rfl) (AllC.map _ _ λ_=>rfl) (by simp only[aA,Q4,Q5,Ra];omega) Z Z Z (by simp only[bg];rfl)<|Y 1 Z<|am<|M 3 Z (D Z (Nn t.prob z) Z Z)<|a7 (bs':=[(30,(bQ r)),(67,(eA t))]) (rs':=[some ⟨5,1,ak ((b++em (eJ t.vals))++mF t.prob),false⟩]) Z Z Z Z aZ Z Z Z Z (aP _) (AllC.map _ _ λ_=>rfl) (AllC.map _ _ λ_=>rfl) (by simp only[aA,Q4,Q5,Ra];omega) Z Z Z (by simp only[bg];rfl)<|Y 1 Z<|am<|a8 0 (j+1) Z Z Zy O0<|Y 1 Z<|⟨_,_,?_,⟨j+1,((b++em (eJ t.vals))++mF t.prob),?_,Z,Z⟩,.rf⟩
  ·omega
  exact⟨O0,by simp only[Q4];omega,by rw[<-d];unfold gz;simp⟩
 have y:b=fV r:=by rw[<-d,Rc O0];simp
 refine aX<|C<|ax 2 Z<|CQ (k:=0) (j:=1) (l:=b) (m:=jv (ft b)) (rs':=[some ⟨5,1,ak b,false⟩,some ⟨5,1,ak (jv (ft b)),false⟩]) Z Z Z Z (No b O0) Z Z Z Z Z<|Jh 1 (bs':=[(30,(bQ r))]) (rs':=[some ⟨5,1,ak b,false⟩,none]) Z Z Z Z<|a7 (bs':=[(30,(bQ r))]) (rs':=[some ⟨5,1,ak (b++jv (ft b)),false⟩,none]) Z Z Z Z aZ Z Z Z Z (aP _) (AllC.map _ _ λ_=>rfl) (AllC.map _ _ λ_=>rfl) (by simp only[aA,Q4,jv,Q5,Ra];omega) Z Z Z (by simp only[bg];rfl)<|Y 2 Z<|aQ<|⟨.inr Z,0,false,Z,by rw[y];rfl,Z⟩
def Ip(r:Rel)(b:FitR r)(c:bK r≠0):Ct 18 [r.tree] (.tup [.sl [],iT (bK r)]):=by
 refine Ct.of (n:=90) func18 Z Z Z Z Z λw0 G0=>?_
 refine C<|M 1 (t:=.sl []) Z (bz (.inr Z) bS)<|Y 1 Z<|H<|C<|M 1 Z (D Z (lJ r b) Z Z)<|Y 1 Z<|C<|M 1 (t:=bT ((bK r) !=0)) Z (aC Z Z Z Zy)<|E<|aK Z (λa=>?_) (λa=>?_)
 ·refine C<|M 1 (t:=.sl []) Z (bz (.inr Z) bS)<|Y 1 Z<|aQ<|⟨.inr Z,_,.cons Z (.cons Z .nil),Z,Z⟩
 exact absurd (by simpa using a) c
structure Rdr where
 rest:List UInt8
 err:Nat
def Rdr.cells(s:Rdr):List Tree:=[.sl (ak s.rest),.sc (.int .i64 ((s.err:Nat):Int))]
def gk:Nat->Nat->Nat->List UInt8->Nat×Nat×Nat
 |0,_,_,_=>(0,0,2)
 |_+1,_,_,[]=>(0,0,3)
 |f+1,i,n,c::l=>
  if 128<=c.toNat then gk f (i+1) (n+c.toNat%128*128^i) l
  else if(0<i/\c.toNat=0)\/(i=9/\1<c.toNat)then(0,0,2)
  else(n+c.toNat%128*128^i,i+1,0)
def bX(m:Nat)(s:Rdr):Nat×Rdr:=
 if s.err≠0 then(0,s)
 else if(gk 10 0 0 s.rest).2.2≠0 then(0,⟨[],(gk 10 0 0 s.rest).2.2⟩)
 else if m<(gk 10 0 0 s.rest).1 then(0,⟨[],4⟩)
 else((gk 10 0 0 s.rest).1,⟨s.rest.drop (gk 10 0 0 s.rest).2.1,0⟩)
def eL(n:Nat)(s:Rdr):List UInt8×Rdr:=
 if s.err≠0 then([],s)else if s.rest.length<n then([],⟨[],3⟩)else(s.rest.take n,⟨s.rest.drop n,0⟩)
def bM(m:Nat)(s:Rdr):List UInt8×Rdr:=if(bX m s).2.err≠0 then([],(bX m s).2)else eL (bX m s).1 (bX m s).2
def dU(s:Rdr):Nat×Rdr:=
 if(bM 8192 s).2.err≠0 then(0,(bM 8192 s).2)
 else match (bM 8192 s).1 with
  |[]=>(0,(bM 8192 s).2)
  |c::l=>if c.toNat=0 then(0,⟨[],2⟩)else(cI (c::l),(bM 8192 s).2)
def fh(ng:Bool)(n d:Nat):Bool:=decide (d≠0)&&(if n=0 then !ng&&decide (d=1)else decide (Nat.gcd n d=1))
def d7(s:Rdr):Option Rat×Rdr:=
 if(eL 1 s).2.err≠0 then(none,(eL 1 s).2)
 else if 1<((eL 1 s).1.headD 0).toNat then(none,⟨[],2⟩)
 else if(dU (dU (eL 1 s).2).2).2.err≠0 then(none,(dU (dU (eL 1 s).2).2).2)
 else if fh (decide (((eL 1 s).1.headD 0).toNat=1)) (dU (eL 1 s).2).1 (dU (dU (eL 1 s).2).2).1 then(some (eK (decide (((eL 1 s).1.headD 0).toNat=1)) (dU (eL 1 s).2).1 (dU (dU (eL 1 s).2).2).1),(dU (dU (eL 1 s).2).2).2)
 else(none,⟨[],2⟩)
def xH:Option Rat->Bool
 |some q=>decide (q.num<0)
 |none=>false
def xI:Option Rat->Nat
 |some q=>q.num.natAbs
 |none=>0
def xJ:Option Rat->Nat
 |some q=>q.den
 |none=>0
def wQ(o:Option Rat):Tree:=.agg [.sc (.bool (xH o)),aY (xI o),aY (xJ o)]
def wR:∀(f i n:Nat) (l:List UInt8),(gk f i n l).2.2=0->(gk f i n l).2.1<=i+l.length/\i<(gk f i n l).2.1
 |0,_,_,_,h=>by simp[gk]at h
 |_+1,_,_,[],h=>by simp[gk]at h
 |f+1,i,n,c::l,h=>by
  rw[gk]at h⊢;split
  ·next hc=>
   rw[if_pos hc]at h;have:=wR f (i+1) _ l h;simp only[Q5];omega
  next hc=>
  rw[if_neg hc]at h;split
  ·next h2=>rw[if_pos h2]at h;cases h
  simp only[Q5];omega
def de(m:Nat)(s:Rdr):(bX m s).2.rest.length<=s.rest.length:=by
 unfold bX;split
 ·exact Q3 _
 split
 ·simp
 split
 ·simp
 simp only[Rm];omega
def fv(m:Nat)(s:Rdr):(bX m s).1<=m:=by
 unfold bX;split
 ·exact Rg _
 split
 ·exact Rg _
 split
 ·exact Rg _
 dsimp only;omega
def rV(n:Nat)(s:Rdr):(eL n s).2.rest.length<=s.rest.length:=by
 unfold eL;split
 ·exact Q3 _
 split
 ·simp
 simp only[Rm];omega
def Iq(n:Nat)(s:Rdr):(eL n s).1.length<=n:=by
 unfold eL;split
 ·simp
 split
 ·simp
 simp only[Rb];omega
def fW(m:Nat)(s:Rdr):(bM m s).2.rest.length<=s.rest.length:=by
 unfold bM;split
 ·exact de m s
 exact Q7 (rV _ _) (de m s)
def ie(m:Nat)(s:Rdr):(bM m s).1.length<=m:=by
 unfold bM;split
 ·simp
 exact Q7 (Iq _ _) (fv m s)
def rW(s:Rdr):(dU s).2.rest.length<=s.rest.length:=by
 have h:=fW 8192 s;unfold dU;split
 ·exact h
 split
 ·exact h
 split
 ·simp
 exact h
def yV(s:Rdr):(d7 s).2.rest.length<=s.rest.length:=by
 have c:=rV 1 s;have d:=Q7 (rW (dU (eL 1 s).2).2) (Q7 (rW (eL 1 s).2) c);unfold d7;generalize dU (dU (eL 1 s).2).2=b at d⊢;generalize dU (eL 1 s).2=a;generalize eL 1 s=p at c⊢;generalize fh _ _ _=cb;split
 ·exact c
 split
 ·simp
 split
 ·exact d
 split
 ·exact d
 simp
def Ir{s:Rdr}(h:s.err≠0)(m:Nat):bX m s=(0,s):=if_pos h
def wS{s:Rdr}(h:s.err≠0)(n:Nat):eL n s=([],s):=if_pos h
def wT{s:Rdr}(h:s.err≠0)(m:Nat):bM m s=([],s):=by
 unfold bM;rw[Ir h,if_pos h]
def mI{s:Rdr}(h:s.err≠0):dU s=(0,s):=by
 unfold dU;rw[wT h,if_pos h]
def Is{s:Rdr}(h:s.err≠0):d7 s=(none,s):=by
 unfold d7;rw[wS h,if_pos h]
def Lr{m:Nat}(h:128<=m):cZ m=UInt8.ofNat (m%128+128)::cZ (m/128):=by rw[cZ,if_pos h]
def Ls{m:Nat}(h:¬128<=m):cZ m=[UInt8.ofNat m]:=by rw[cZ,if_neg h]
def yW(t:List UInt8):∀(f i a m:Nat),f+i=10->i+(cZ m).length<=10->(0<i->0<m)->a+m*128^i<18446744073709551616->gk f i a (cZ m++t)=(a+m*128^i,i+(cZ m).length,0)
 |0,i,a,m,hf,hl,_,_=>by have:=oG m;omega
 |f+1,i,a,m,hf,hl,hp,hb=>by
  by_cases e:128<=m
  ·have g:m%128+128<256:=O
   have c:(UInt8.ofNat (m%128+128)).toNat=m%128+128:=by rw[Tl];exact RC g
   have h:a+(m%128+128)%128*128^i+m/128*128^(i+1)=a+m*128^i:=by
    have b:(m%128+128)%128=m%128:=O
    have d:m/128*128^(i+1)=m/128*128*128^i:=by rw[RA,Rk (128^i),Ry]
    rw[b,d,S4,<-R2];congr 2;omega
   rw[Lr e]at hl⊢;rw[Sq,gk,c,if_pos O];simp only[Q5]at hl⊢;rw[yW t f (i+1) _ (m/128) O O (λ_=>O) (by rw[h];exact hb),h,S4,SN 1]
  have c:(UInt8.ofNat m).toNat=m:=by rw[Tl];exact RC O
  rw[Ls e,Sq,gk,c,if_neg e,RC O];rw[if_neg]
  ·rfl
  rintro(⟨b,d⟩|⟨b,d⟩)
  ·have:=hp b;omega
  subst b;rw[show(128:Nat)^9=9223372036854775808 from rfl]at hb;omega
def it{n m:Nat}(t:List UInt8)(a:n<18446744073709551616)(b:n<=m):bX m ⟨cZ n++t,0⟩=(n,⟨t,0⟩):=by
 have h:=yW t 10 0 0 n Z (by have:=dz a;omega) (λh=>absurd h (Nat.lt_irrefl 0)) (by simpa using a);simp only[R4,TM,ST]at h;unfold bX;simp only[h];rw[if_neg F,if_neg F,if_neg O];simp
def CU(a t:List UInt8):eL a.length ⟨a++t,0⟩=(a,⟨t,0⟩):=by
 unfold eL;rw[if_neg F,if_neg F];simp
def jK{a:List UInt8}{m:Nat}(t:List UInt8)(b:a.length<18446744073709551616)(c:a.length<=m):bM m ⟨em a++t,0⟩=(a,⟨t,0⟩):=by
 unfold bM em;rw[RL,it (a++t) b c,if_neg F];exact CU a t
def tJ{x y:Operand}(a:Nat)(h:a<256)(w:World):(do eqGuard .and 5 x y (.int .u8 (a:Nat)) (.int .u8 127);binOp .and 5 (.int .u8 (a:Nat)) (.int .u8 127):Sem Value).run prog w=.ok (.int .u8 ((a%128:Nat):Int)) w:=by
 have key:bits .and .u8 (a:Int) 127=((a%128:Nat):Int):=by
  have:∀x:Fin 256,bits .and .u8 (x.val:Int) 127=((x.val%128:Nat):Int):=by decide+kernel
  exact this ⟨a,h⟩
 go_simp
def EW{x y:Operand}(a k r:Nat)(c:k<64)(b:a*2^k%18446744073709551616=r)(w:World):(do eqGuard .shl 89 x y (.int .u64 (a:Nat)) (.int .i64 (k:Nat));binOp .shl 89 (.int .u64 (a:Nat)) (.int .i64 (k:Nat)):Sem Value).run prog w=.ok (.int .u64 ((r:Nat):Int)) w:=by
 subst b;have key:IntKind.u64.wrap ((a:Int)*2^k)=((a*2^k%18446744073709551616:Nat):Int):=by
  rw[IntKind.wrap_u64,show((a:Int)*2^k)=((a*2^k:Nat):Int) by simp];omega
 simp[eqGuard,binOp,Op.shift,IntKind.bits];first
  |exact key
  |(rw[if_neg O];simpa using key)
  |(simpa using key)
def po{x y:Operand}(a b r:Nat)(c:a<18446744073709551616)(d:b<18446744073709551616)(e:a|||b=r)(w:World):(do eqGuard .or 89 x y (.int .u64 (a:Nat)) (.int .u64 (b:Nat));binOp .or 89 (.int .u64 (a:Nat)) (.int .u64 (b:Nat)):Sem Value).run prog w=.ok (.int .u64 ((r:Nat):Int)) w:=by
 have key:=bits_or_u64_nat a b c d;rw[e]at key;clear e c d;go_simp
def EX(i:Nat):(2:Nat)^(7*i)=128^i:=by rw[Tu]
def rX{i n:Nat}(a:i<=9)(h:n<128^i):n<9223372036854775808:=Rh h (Q7 (Rx I a) I)
def Lt{i n d:Nat}(f:i<=9)(h:n<128^i)(l:d<128):(n|||(d*128^i%18446744073709551616))=(n+d*128^i)%18446744073709551616:=by
 have j:=rX f h;have e:d*128^i%18446744073709551616=(d*128^i%18446744073709551616)/2^(7*i)*2^(7*i):=by
  have b:(18446744073709551616:Nat)=2^(7*i)*2^(64-7*i):=by
   rw[<-SF,show 7*i+(64-7*i)=64 by omega]
  rw[<-EX,b,Rk d,Nat.mul_mod_mul_left,TZ _ (Sh I),Rk]
 have g:n+d*128^i%18446744073709551616<18446744073709551616:=by
  have k:d*128^i%18446744073709551616<18446744073709551616:=RJ _ I;have c:(128^i)∣18446744073709551616-d*128^i%18446744073709551616:=by
   refine Nat.dvd_sub ?_ ?_
   ·rw[<-EX];exact⟨2^(64-7*i),by rw[<-SF,show 7*i+(64-7*i)=64 by omega]⟩
   rw[e,EX];exact Nat.dvd_mul_left ..
  have:=Nat.le_of_dvd O c;omega
 rw[Nat.add_mod,RC (a:=n) O,RC g];rw[e];generalize (d*128^i%18446744073709551616)/2^(7*i)=q;rw[Vb,Rk,<-Nat.two_pow_add_eq_or_of_lt (by rw[EX];exact h),SN]
def Gk{i n d:Nat}(h:n<128^i)(a:d<128):n+d*128^i<128^(i+1):=by
 have:=RB (128^i) (show d+1<=128 by omega);rw[R2]at this;rw[RA];omega
def N2(p:Nat×Nat×Nat):Tree:=.tup [.sc (.int .u64 ((p.1:Nat):Int)),.sc (.int .i64 ((p.2.1:Nat):Int)),.sc (.int .i64 ((p.2.2:Nat):Int))]
def rY{p:Nat×Nat×Nat}{a b c:Nat}(h:p=(a,b,c)): .tup [.sc (.int .u64 ((a:Nat):Int)),nI b,nI c]=N2 p:=by rw[h];rfl
def wU{f i n:Nat}{c:UInt8}{l:List UInt8}:gk (f+1) i n (c::l)=if 128<=c.toNat then gk f (i+1) (n+c.toNat%128*128^i) l else if(0<i/\c.toNat=0)\/(i=9/\1<c.toNat)then(0,0,2)else(n+c.toNat%128*128^i,i+1,0):=rfl
def mJ(l:List UInt8)(k:Nat):Tree.sl ((((ak l).take (ak l).length)).drop k)=.sl (ak (l.drop k)):=by rw[Rf (Q3 _)];unfold ak;rw[Tw]
def kz(l:List UInt8)(k:Nat):Tree.sl (((ak l).take k).drop 0)=.sl (ak (l.take k)):=by rw[Su];unfold ak;rw[Tv]
def pN{p:Nat×Rdr}{a:Nat}{b:Rdr}(h:p=(a,b)):Tree.sc (.int .u64 ((a:Nat):Int))=.sc (.int .u64 ((p.1:Nat):Int)):=by rw[h]
def gl{p:α×Rdr}{a:α}{l:List UInt8}{e:Nat}{ty:TypeId}(h:p=(a,⟨l,e⟩)):[(ty,[Tree.sl (ak l),nI e])][0]? =some (ty,p.2.cells):=by rw[h];rfl
def nP{p:α×Rdr}{a:α}{l:List UInt8}{e:Nat}{x:TypeId×List Tree}{bs:List (TypeId×List Tree)}{ty:TypeId}(h:p=(a,⟨l,e⟩))(b:x=(ty,[Tree.sl (ak l),nI e])):(x::bs)[0]? =some (ty,p.2.cells):=by rw[h,b];rfl
def jN{p:List UInt8×Rdr}{a:List UInt8}{b:Rdr}(h:p=(a,b)):Tree.sl (ak a)=.sl (ak p.1):=by rw[h]
def L2:jy prog 184 0=some 0:=U
def L3:jy prog 184 1=some 1:=U
def EY:jP prog 22=true:=U
def wV:jP prog 31=true:=U
def O5:(prog.info? 22).map (·.size)=some 1:=U
def O6:(prog.info? 31).map (·.size)=some 1:=U
def N3:si prog 184=some ([(0,1),(1,1)],[.slice none 0 0,.int .i64 0]):=U
def Lu(l:List UInt8)(L:l.length<=4611686018427387904):Ct 179 [.sl (ak l)] (N2 (gk 10 0 0 l)):=by
 refine Ct.of (n:=54) func179 Z Z Z Z Z λw0 G0=>?_
 refine X 3 Z<|X 1 Z<|H<|X 1 Z<|aB<|aT (λD z=>∃(i:Nat) (n:Nat),(i<=10/\n<128^i/\gk (10-i) i n (l.drop i)=gk 10 0 0 l)/\D=10-i/\z=⟨54,[(0,.sl (ak l)),(5,.sc (.int .u64 ((n%18446744073709551616:Nat):Int))),(7,nI i)],[],[]⟩) 0 0 ⟨0,0,⟨Rg _,I1,Z⟩,Z,Z⟩ .rf ?_;rintro D z ⟨i,n,⟨J,s,b⟩,rfl,rfl⟩;refine C<|aI 0 Z Z Zy (B (gF i 10))<|E<|H<|ay Z (λu=>?_) (λu=>?_)
 ·obtain⟨f,A⟩:∃f,10-i=f+1:=⟨9-i,O0⟩;refine ar<|H<|aB<|X 2 Z<|H<|C<|M 2 Z (aU Z aJ Z)<|aI 0 Z Z Zy (B (GC i l.length))<|E<|ay Z (λv=>?_) (λv=>?_)
  ·refine X 3 Z<|aQ<|⟨.inr Z,_,.cons Z (.cons Z (.cons Z .nil)),rY (by rw[<-b,Rc O0,A];rfl),Z⟩
  obtain⟨c,g⟩:∃c,l[i]? =some c:=⟨_,Q2 O0⟩;have x:l.drop i=c::l.drop (i+1):=by
   obtain⟨q,p⟩:=Q6.1 g;rw[Re q,p]
  have G:c.toNat<256:=c.toNat_lt;have o:c.toNat%128<128:=RJ _ I1;rw[x,A,wU]at b;have I:=rX O0 s;have y:n%18446744073709551616=n:=RC O0;refine ar<|C<|M 3 (t:=.ref [.sc (.int .u8 ((c.toNat:Nat):Int))]) Z (aO (.sc (.int .u8 ((c.toNat:Nat):Int))) Z aJ Z Z Z (dR g) (aP _) Z)<|M 1 (t:=.sc (.int .u8 ((c.toNat%128:Nat):Int))) Z (aC Z Z Z (λw=>tJ c.toNat c.toNat_lt w))<|M 0 (t:=.sc (.int .u64 ((c.toNat%128:Nat):Int))) Z (aj (bp Z b7 b6 Z) (jt O0))<|a8 1 (7*i) Z Z Zy O0<|M 0 (t:=.sc (.int .u64 ((c.toNat%128*128^i%18446744073709551616:Nat):Int))) Z (aC Z Z Z (λw=>EW (c.toNat%128) (7*i) _ O0 (by rw[EX]) w))<|M 0 (t:=.sc (.int .u64 (((n+c.toNat%128*128^i)%18446744073709551616:Nat):Int))) Z (aC Z Z Z (λw=>po (n%18446744073709551616) _ _ (RJ _ I1) (RJ _ I1) (by rw[y];exact Lt O0 s o) w))<|Y 1 Z<|H<|C<|M 2 (t:=.ref [.sc (.int .u8 ((c.toNat:Nat):Int))]) Z (aO (.sc (.int .u8 ((c.toNat:Nat):Int))) Z aJ Z Z Z (dR g) (aP _) Z)<|aI 1 Z Z Zy (B (GC c.toNat 128))<|E<|ay Z (λm=>?_) (λm=>?_)
  ·have j:=m;rw[if_pos j]at b;refine aX<|am<|a8 0 (i+1) Z Z Zy O0<|Y 1 Z<|⟨_,_,?_,⟨i+1,n+c.toNat%128*128^i,?_,Z,Z⟩,.rf⟩
   ·omega
   exact⟨O0,Gk s o,by rw[show 10-(i+1)=f by omega];exact b⟩
  have j:=m;refine ar<|H<|C<|aI 1 Z Z Zy (B (nZ i 0))<|ax 1 Z<|N Z Z Z Z (λa=>K Z Z)<|N Z Z Z Z (λa=>K Z Z)<|N (t:=.ref [.sc (.int .u8 ((c.toNat:Nat):Int))]) Z Z Z Z (λa=>aO (.sc (.int .u8 ((c.toNat:Nat):Int))) Z aJ (if_pos a) (if_pos a) Z (dR g) (aP _) Z)<|N Z Z Z Z (λa=>bi Z (if_pos a) jG Z)<|N Z Z Z Z (λa=>aj (aC Z (if_pos a) Z (λ_=>rfl)) (B (gL c.toNat 0)))<|M 0 Z (cH Z Z Z Z)<|ax 1 Z<|N Z Z Z Z (λa=>K Z Z)<|N Z Z Z Z (λa=>aj (aC Z (if_pos a) Z (λ_=>rfl)) (B (gL i 9)))<|N Z Z Z Z (λa=>K Z (if_pos a))<|cl Z Z Z Z (λa=>K Z Z)<|cl Z Z Z Z (λa=>K Z Z)<|cl (t:=.ref [.sc (.int .u8 ((c.toNat:Nat):Int))]) Z Z Z Z (λa=>aO (.sc (.int .u8 ((c.toNat:Nat):Int))) Z aJ (if_pos a) (if_pos a) Z (dR g) (aP _) Z)<|cl Z Z Z Z (λa=>bi Z (if_pos a) jG Z)<|cl Z Z Z Z (λa=>aj (aC Z (if_pos a) Z (λ_=>rfl)) (B (nZ c.toNat 1)))<|N (t:=bT ((decide (i=9))&&(decide (1<c.toNat)))) Z Z Z Z (λa=>fJ Z (if_pos a) (λr=>(if_pos ⟨a,r⟩).trans (B (by rw[r];rfl))) (λr=>(B (by rw[r];rfl))))<|M 0 Z (dD Z Z Z Z)<|E<|aK Z (λe=>?_) (λe=>?_)
  ·have d:(0<i/\c.toNat=0)\/(i=9/\1<c.toNat):=by
    rcases TI.1 e with h|h
    ·rw[Q9]at h;exact .inl ⟨of_decide_eq_true h.1,of_decide_eq_true h.2⟩
    rw[Q9]at h;exact .inr ⟨of_decide_eq_true h.1,of_decide_eq_true h.2⟩
   refine X 3 Z<|aQ<|⟨.inr Z,_,.cons Z (.cons Z (.cons Z .nil)),rY (by rw[<-b,if_neg j,if_pos d]),Z⟩
  have d:¬((0<i/\c.toNat=0)\/(i=9/\1<c.toNat)):=by
   rintro(⟨q,p⟩|⟨q,p⟩)
   ·rw[decide_eq_true q,decide_eq_true p]at e;simp at e
   rw[decide_eq_true q,decide_eq_true p]at e;simp at e
  have k:n+c.toNat%128*128^i<18446744073709551616:=by
   by_cases F:i=9
   ·subst F;have:c.toNat<=1:=by
     rcases RE 1 c.toNat with h|h
     ·exact absurd (.inr ⟨Z,h⟩) d
     exact h
    have p:c.toNat%128*128^9<=1*128^9:=RB _ O0;omega
   have:=rX (n:=n+c.toNat%128*128^i) (i:=i+1) O0 (Gk s o);omega
  refine ar<|C<|a8 2 (i+1) Z Z Zy O0<|Y 3 Z<|aQ<|⟨.inr Z,_,.cons Z (.cons Z (.cons Z .nil)),rY (by rw[<-b,if_neg j,if_neg d,RC k]),Z⟩
 refine aX<|X 3 Z<|aQ<|⟨.inr Z,_,.cons Z (.cons Z (.cons Z .nil)),rY (by rw[<-b,show 10-i=0 by omega];rfl),Z⟩
def sU(l:List UInt8)(z e:Nat):CtM 180 184 [.sl (ak l),nI z] [nI e] [.sl (ak []),nI e] (.tup []):=by
 refine CtM.of (n:=11) func180 Z Z Z Z Z λw0 G0 a=>?_
 refine C<|M 2 (t:=.box 0 0) Z (bD Z Z)<|Y 2 Z<|am<|M 1 (t:=.box 0 0) Z (bD Z Z)<|ax 2 Z<|rB 0 0 (bs':=[(184,[.sl [],nI e])]) Z Z Z<|E<|⟨⟨.inl Z,_,.nil,Z,Z⟩,Z,Z⟩
def sV(s:Rdr)(m:Nat)(o:s.rest.length<=4611686018427387904):CtM 117 184 [.sl (ak s.rest),.sc (.int .i64 ((s.err:Nat):Int))] [.sc (.int .u64 ((m:Nat):Int))] (bX m s).2.cells (.sc (.int .u64 (((bX m s).1:Nat):Int))):=by
 obtain⟨p,f⟩:∃p,gk 10 0 0 s.rest=p:=⟨_,Z⟩;refine CtM.of (n:=44) func117 Z Z Z Z Z λw0 G0 u=>?_
 refine H<|am<|bW (t:=.sc (.int .u64 0)) Z Z Z (bN Z Z)<|E<|H<|H<|am<|bW (t:=.box 0 0) Z Z Z (K Z Z)<|bW (t:=.box 0 0) Z Z Z (bD Z Z)<|bW (t:=.box 0 1) Z Z Z (aq Z Z L3 Z)<|bW (t:=.sc (.int .i64 ((s.err:Nat):Int))) Z Z Z (av Z Z Z wV Z)<|bW (t:=.sc (.bool (decide (s.err≠0)))) Z Z Z (aj (aC Z Z Z Zy) (B (od s.err 0)))<|E<|aK (b:=decide (s.err≠0)) Z (λa=>?_) (λa=>?_)
 ·replace a:=of_decide_eq_true a;refine H ?_;have e:bX m s=(0,⟨s.rest,s.err⟩):=if_pos a;refine am<|bW (t:=.sc (.int .u64 0)) Z Z Z (bN Z Z)<|E<|aQ<|⟨⟨.inr Z,_,.cons Z .nil,pN e,Z⟩,gl e,Z⟩
 replace a:=of_decide_eq_false a;refine ar<|H<|am<|bW (t:=.box 0 0) Z Z Z (K Z Z)<|bW (t:=.box 0 0) Z Z Z (bD Z Z)<|bW (t:=.box 0 0) Z Z Z (aq Z Z L2 Z)<|bW (t:=.sl (ak s.rest)) Z Z Z (av Z Z Z EY Z)<|bW (t:=.tup [.sc (.int .u64 ((p.1:Nat):Int)),.sc (.int .i64 ((p.2.1:Nat):Int)),.sc (.int .i64 ((p.2.2:Nat):Int))]) Z Z Z (D Z (f▸Lu s.rest o) Z Z)<|bW (t:=.tup [.sc (.int .u64 ((p.1:Nat):Int)),.sc (.int .i64 ((p.2.1:Nat):Int)),.sc (.int .i64 ((p.2.2:Nat):Int))]) Z Z Z (K Z Z)<|bW (t:=.sc (.int .u64 ((p.1:Nat):Int))) Z Z Z (eN Z Z Z)<|bW (t:=.sc (.int .i64 ((p.2.1:Nat):Int))) Z Z Z (eN Z Z Z)<|bW (t:=.sc (.int .i64 ((p.2.2:Nat):Int))) Z Z Z (eN Z Z Z)<|bW (t:=.sc (.int .u64 ((p.1:Nat):Int))) Z Z Z (bN Z Z)<|bW (t:=.sc (.int .i64 ((p.2.1:Nat):Int))) Z Z Z (bN Z Z)<|bW (t:=.sc (.int .i64 ((p.2.2:Nat):Int))) Z Z Z (bN Z Z)<|E<|H<|H<|am<|bW (t:=.sc (.int .i64 ((p.2.2:Nat):Int))) Z Z Z (K Z Z)<|bW (t:=.sc (.bool (decide (p.2.2=0)))) Z Z Z (aj (aC Z Z Z Zy) (B (gL (p.2.2) 0)))<|bW (t:=.sc (.bool (decide (p.2.2=0)))) Z Z Z (K Z Z)<|N (t:=.sc (.int .u64 ((p.1:Nat):Int))) Z Z Z Z (λg=>K Z Z)<|N (t:=.sc (.int .u64 ((m:Nat):Int))) Z Z Z Z (λg=>K Z Z)<|N (t:=.sc (.bool (decide (m<p.1)))) Z Z Z Z (λg=>aj (aC Z (if_pos g) (if_pos g) (λ_=>rfl)) (B (nZ (p.1) m)))<|bW (t:=.sc (.bool ((decide (p.2.2=0))&&(decide (m<p.1))))) Z Z Z (fJ Z Z (λi=>(if_pos i).trans (B (by rw[i];rfl))) (λi=>(B (by rw[i];rfl))))<|E<|aK (b:=(decide (p.2.2=0))&&(decide (m<p.1))) Z (λc=>?_) (λc=>?_)
 ·have j:p.2.2=0/\m<p.1:=by
   rw[Q9]at c;exact⟨of_decide_eq_true c.1,of_decide_eq_true c.2⟩
  have e:bX m s=(0,⟨[],4⟩):=by unfold bX;rw[f,if_neg a,if_neg O,if_pos j.2]
  refine am<|bW (t:=.sc (.int .i64 4)) Z Z Z (bN Z Z)<|E<|H<|H<|am<|bW (t:=.sc (.int .i64 4)) Z Z Z (K Z Z)<|bW (t:=.sc (.bool true)) Z Z Z (aC Z Z Z Zy)<|E<|aK (b:=true) Z (λ_=>?_) (λh=>by cases h);refine H<|am<|bW (t:=.box 0 0) Z Z Z (K Z Z)<|bW (t:=.sc (.int .i64 4)) Z Z Z (K Z Z)<|bm (r:=.tup []) (bs':=[(184,[.sl (ak []),.sc (.int .i64 ((4:Nat):Int))])]) Z Z Z Z Z Z (sU s.rest s.err 4) Z Z Z Z<|E<|H<|am<|bW (t:=.sc (.int .u64 0)) Z Z Z (bN Z Z)<|E<|aQ<|⟨⟨.inr Z,_,.cons Z .nil,pN e,Z⟩,gl e,Z⟩
 refine ar<|H<|H<|am<|bW (t:=.sc (.int .i64 ((p.2.2:Nat):Int))) Z Z Z (K Z Z)<|bW (t:=.sc (.bool (decide (p.2.2≠0)))) Z Z Z (aj (aC Z Z Z Zy) (B (od (p.2.2) 0)))<|E<|aK (b:=decide (p.2.2≠0)) Z (λd=>?_) (λd=>?_)
 ·replace d:=of_decide_eq_true d;have e:bX m s=(0,⟨[],p.2.2⟩):=by unfold bX;rw[f,if_neg a,if_pos d]
  refine H<|am<|bW (t:=.box 0 0) Z Z Z (K Z Z)<|bW (t:=.sc (.int .i64 ((p.2.2:Nat):Int))) Z Z Z (K Z Z)<|bm (r:=.tup []) (bs':=[(184,[.sl (ak []),.sc (.int .i64 ((p.2.2:Nat):Int))])]) Z Z Z Z Z Z (sU s.rest s.err p.2.2) Z Z Z Z<|E<|H<|am<|bW (t:=.sc (.int .u64 0)) Z Z Z (bN Z Z)<|E<|aQ<|⟨⟨.inr Z,_,.cons Z .nil,pN e,Z⟩,gl e,Z⟩
 replace d:=of_decide_eq_false d;refine ar<|H ?_;have j:p.2.2=0:=O
 have q:¬m<p.1:=λh=>by rw[decide_eq_true j,decide_eq_true h]at c;cases c
 have k:=wR 10 0 0 s.rest (by rw[f];exact j);rw[f]at k;have e:bX m s=(p.1,⟨s.rest.drop p.2.1,s.err⟩):=by unfold bX;rw[f,if_neg a,if_neg O,if_neg q,show s.err=0 by omega]
 refine am<|bW (t:=.box 0 0) Z Z Z (K Z Z)<|bW (t:=.box 0 0) Z Z Z (K Z Z)<|bW (t:=.box 0 0) Z Z Z (bD Z Z)<|bW (t:=.box 0 0) Z Z Z (aq Z Z L2 Z)<|bW (t:=.sl (ak s.rest)) Z Z Z (av Z Z Z EY Z)<|bW (t:=.sc (.int .i64 ((p.2.1:Nat):Int))) Z Z Z (K Z Z)<|bW (t:=.sl (ak (s.rest.drop p.2.1))) Z Z Z (aj (ef (l:=p.2.1) (h:=(ak s.rest).length) Z aJ Z ⟨_,Z⟩ Z (by rw[aA];omega) (Q3 _) (aP _)) (mJ _ _))<|bW (t:=.box 0 0) Z Z Z (bD Z Z)<|bW (t:=.box 0 0) Z Z Z (aq Z Z L2 Z)<|A5 (bs':=[(184,[.sl (ak (s.rest.drop p.2.1)),.sc (.int .i64 ((s.err:Nat):Int))])]) Z Z Z Z Z Z Z Z Z O5 Z Z Z<|E<|H<|am<|bW (t:=.sc (.int .u64 ((p.1:Nat):Int))) Z Z Z (K Z Z)<|bW (t:=.sc (.int .u64 ((p.1:Nat):Int))) Z Z Z (bN Z Z)<|E<|aQ<|⟨⟨.inr Z,_,.cons Z .nil,pN e,Z⟩,gl e,Z⟩
def N4(s:Rdr)(n:Nat)(f:s.rest.length<=1073741824):CtM 178 184 [.sl (ak s.rest),nI s.err] [nI n] (eL n s).2.cells (.sl (ak (eL n s).1)):=by
 refine CtM.of (n:=39) func178 Z Z Z Z Z λw0 G0 e=>?_
 refine C<|M 0 (t:=.sl []) Z (bz (.inr Z) bS)<|E<|H<|C<|M 1 (t:=.box 0 0) Z (bD Z Z)<|aI 2 Z Z Zy (B (od s.err 0))<|E<|ay Z (λa=>?_) (λa=>?_)
 ·refine H ?_;have b:eL n s=([],⟨s.rest,s.err⟩):=if_pos a;refine am<|M 0 (t:=.sl []) Z (bz (.inr Z) bS)<|E<|aQ<|⟨⟨.inr Z,_,.cons Z .nil,jN b,Z⟩,gl b,Z⟩
 refine ar<|H<|C<|aI 1 Z Z Zy (B (gF n 0))<|E<|ay Z (λd=>?_) (λd=>?_)
 ·exact absurd d O0
 refine ar<|H<|C<|M 2 (t:=.box 0 0) Z (bD Z Z)<|M 2 Z (aU Z aJ Z)<|aI 0 Z Z Zy (B (nZ n s.rest.length))<|E<|ay Z (λc=>?_) (λc=>?_)
 ·refine H ?_;have b:eL n s=([],⟨[],3⟩):=by unfold eL;rw[if_neg a,if_pos c]
  refine am<|ax 1 Z<|bm (r:=.tup []) (bs':=[(184,[.sl (ak []),nI 3])]) Z Z Z Z Z Z (sU s.rest s.err 3) Z Z Z Z<|E<|C<|M 0 (t:=.sl []) Z (bz (.inr Z) bS)<|E<|aQ<|⟨⟨.inr Z,_,.cons Z .nil,jN b,Z⟩,gl b,Z⟩
 refine ar<|H ?_;have b:eL n s=(s.rest.take n,⟨s.rest.drop n,s.err⟩):=by unfold eL;rw[if_neg a,if_neg c,show s.err=0 by omega]
 refine am<|M 1 (t:=.box 0 0) Z (bD Z Z)<|M 3 (t:=.sl (ak (s.rest.take n))) Z (aj (ef (l:=0) (h:=n) Z aJ Z Z ⟨_,Z⟩ (Rg _) (by rw[aA];omega) (aP _)) (kz _ _))<|pL (k:=0) (rs':=[some ⟨5,1,ak (s.rest.take n),false⟩]) Z Z Z Z aZ Z (aP _) (AllC.map _ _ λ_=>rfl) (AllC.map _ _ λ_=>rfl) (by rw[aA,Rb];omega) Z Z Z<|Y 1 Z<|C<|M 2 (t:=.box 0 0) Z (bD Z Z)<|M 3 (t:=.sl (ak (s.rest.drop n))) Z (aj (ef (l:=n) (h:=(ak s.rest).length) Z aJ Z ⟨_,Z⟩ Z (by rw[aA];omega) (Q3 _) (aP _)) (mJ _ _))<|M 0 (t:=.box 0 0) Z (bD Z Z)<|Y 2 Z<|X 2 Z<|dp 0 (bs':=[(184,[.sl (ak (s.rest.drop n)),nI s.err])]) (rs':=[none]) Z Z Z Z<|aQ<|⟨⟨.inr Z,_,.cons Z .nil,jN b,Z⟩,gl b,Z⟩
def rZ(s:Rdr)(m:Nat)(i:s.rest.length<=1073741824)(j:m<=1073741824):CtM 116 184 [.sl (ak s.rest),nI s.err] [nI m] (bM m s).2.cells (.sl (ak (bM m s).1)):=by
 obtain⟨q,d⟩:∃q,bX m s=q:=⟨_,Z⟩;have f:=fv m s;have e:=de m s;rw[d]at f e;obtain⟨k,g⟩:∃k,eL q.1 q.2=k:=⟨_,Z⟩;refine CtM.of (n:=21) func116 Z Z Z Z Z λw0 G0 h=>?_
 refine C<|M 0 (t:=.sl []) Z (bz (.inr Z) bS)<|E<|H<|C<|aI 1 Z Z Zy (B (gF m 0))<|E<|ay Z (λc=>?_) (λc=>?_)
 ·exact absurd c O0
 refine ar<|C<|M 2 (t:=.sc (.int .u64 ((m:Nat):Int))) Z (aj (bp Z cf b6 Z) (jt O0))<|bm (r:=.sc (.int .u64 ((q.1:Nat):Int))) (bs':=[(184,[.sl (ak q.2.rest),nI (q.2.err)])]) Z Z Z Z Z Z (d▸sV s m O0) Z Z Z Z<|Y 1 Z<|H<|C<|M 1 (t:=.box 0 0) Z (bD Z Z)<|aI 2 Z Z Zy (B (od (q.2.err) 0))<|E<|ay Z (λa=>?_) (λa=>?_)
 ·refine H ?_;have b:bM m s=([],⟨q.2.rest,q.2.err⟩):=by unfold bM;rw[d,if_pos a]
  refine am<|M 0 (t:=.sl []) Z (bz (.inr Z) bS)<|E<|aQ<|⟨⟨.inr Z,_,.cons Z .nil,jN b,Z⟩,gl b,Z⟩
 refine ar<|H ?_;have b:bM m s=(k.1,⟨k.2.rest,k.2.err⟩):=by unfold bM;rw[d,if_neg a,g]
 refine am<|M 2 (t:=nI (q.1)) Z (aj (bp Z b6 cf Z) (pC Z O0))<|bm (r:=.sl (ak k.1)) (bs':=[(184,[.sl (ak k.2.rest),nI (k.2.err)])]) Z Z Z Z Z Z (g▸N4 q.2 q.1 O0) Z Z Z Z<|Y 1 Z<|aQ<|⟨⟨.inr Z,_,.cons Z .nil,jN b,Z⟩,gl b,Z⟩
def O7(l:List UInt8)(a:l.length<=1073741824):CtN 115 [.sl (ak l)] 184 (Rdr.mk l 0).cells:=by
 refine CtN.of (n:=7) func115 Z Z Z Z Z λw0 G0=>?_
 refine X 1 Z<|C<|ax 1 Z<|pL (k:=0) (rs':=[some ⟨5,1,ak l,false⟩]) Z Z Z Z aZ Z (aP _) (AllC.map _ _ λ_=>rfl) (AllC.map _ _ λ_=>rfl) (by rw[aA];omega) Z Z Z<|Y 3 Z<|dp 0 (bs':=[(184,[.sl (ak l),iT 0])]) (rs':=[none]) Z Z Z Z<|aQ<|⟨.inr Z,Z,0,Z,Z⟩
def Qn(s:Rdr):QO 120 184 s.cells [] (nI s.err):=⟨⟨_,func120,Z,Z⟩,λG w g us vs i j k a b d e=>by
 cases e;obtain⟨v,x,rfl,h,c⟩:=dE b;cases c;have f:w.cell? ⟨g,1,none⟩=some (.int .i64 ((s.err:Nat):Int)):=by rw[a.cell];rfl
 go_enter func120,ntmps120
 go_wp2
 go_ret
 exact⟨_,Z,.sc _ .nil,Below.refl _ _⟩⟩
def Qo(s:Rdr):QO 121 184 s.cells [] (nI s.rest.length):=⟨⟨_,func121,Z,Z⟩,λG w g us vs k l m a b h i=>by
 cases i;obtain⟨v,x,rfl,d,e⟩:=dE b;cases e;obtain⟨A,c,rfl,f⟩:=yf d;have j:w.cell? ⟨g,0,none⟩=some (.slice A s.rest.length c):=by rw[a.cell];rfl
 go_enter func121,ntmps121
 go_wp2
 go_ret
 exact⟨_,Z,.sc _ .nil,Below.refl _ _⟩⟩
