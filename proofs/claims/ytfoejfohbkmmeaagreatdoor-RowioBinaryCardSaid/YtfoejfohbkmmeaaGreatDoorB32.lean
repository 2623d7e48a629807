import Derived.Test.YtfoejfohbkmmeaaGreatDoorB31
import Derived.Test.YtfoejfohbkmmeaaGreatDoorB00
import Derived.Test.YtfoejfohbkmmeaaGreatDoorB06
import Derived.Test.YtfoejfohbkmmeaaGreatDoorB24
import Derived.Test.YtfoejfohbkmmeaaGreatDoorB11
import Derived.Test.YtfoejfohbkmmeaaGreatDoorB10
import Derived.StillTailTactics
import Derived.IntWalk
import Derived.Test.YtfoejfohbkmmeaaGreatDoorB08
set_option maxRecDepth 100000
set_option maxHeartbeats 4000000
namespace Go.Proofs.YtfoejfohbkmmeaaGreatDoor
open Go.RowKit
open Lib renaming hid→J
theorem p7{a b:ByteArray}(h:a=b):(Tree.sc (.string a))=sT b:=by rw[h]
theorem oi{k:IntKind}{a b:Nat}(h:a=b):(Tree.sc (.int k ((a:Nat):Int)))=.sc (.int k ((b:Nat):Int)):=by rw[h]
theorem x5{α:Type}{p:α->Bool}:∀{l:List α} {x:α},x∈l.takeWhile p->p x=true
 |[],x,h=>by simp at h
 |a::l,x,h=>by
  rw[PH]at h;split at h
  ·next ha=>
   rcases OC.1 h with rfl|h
   ·exact ha
   exact x5 h
  cases h
theorem su{l:List UInt8}(h:u9 l=l.length):l.all ew=true:=by
 have e:l.takeWhile ew=l:=(QL _).eq_of_length h;rw[OD];intro x a;rw[<-e]at a;exact x5 a
theorem Ah(l:List UInt8):(l.take (u9 l)).all ew=true:=by
 unfold u9;rw[OD];intro x a;rw[show l.take (l.takeWhile ew).length=l.takeWhile ew from(List.prefix_iff_eq_take.1 (List.takeWhile_prefix _)).symm]at a;exact x5 a
def Cv(s:ByteArray):Bool:=decide (0<s.size)&&decide ((dR s 0).toNat=45)
def fC(s:ByteArray):ByteArray:=if Cv s then s.extract 1 s.size else s
def np(c:UInt8)(r:ByteArray):Bool:=((decide (c.toNat≠47)&&decide (c.toNat≠46))||(r.toList==(⟨#[]⟩:ByteArray).toList))||decide (u9 r.data.toList≠r.size)
def mC(ng:Bool)(u:ByteArray)(n:Nat)(r:ByteArray):Rat×Int:=
 if n=0 then(0,2)else if n=u.size then(eh ng (fa u.data.toList) 1,0)
 else if np (dR u n) r then(0,2)
 else if(dR u n).toNat=46 then(eh ng (fa (u.extract 0 n++r).data.toList) (10^r.size),0)
 else if fa r.data.toList=0 then(0,20)else(eh ng (fa (u.extract 0 n).data.toList) (fa r.data.toList),0)
def gH(s:ByteArray):Rat×Int:=if 4000<s.size then(0,4)else mC (Cv s) (fC s) (u9 (fC s).data.toList) ((fC s).extract (u9 (fC s).data.toList+1) (fC s).size)
def Mk:Tree:=.agg [.sc (.bool false),.sl [],.sl []]
def Ai(x:Rat×Int):Tree:=.tup [if x.2=0 then dA x.1 else Mk,.sc (.int .i64 x.2)]
theorem ib(x:Rat×Int):(Ai x).plain=true:=by unfold Ai;split<;>rfl
def p8(n:Nat):ByteArray:=⟨(Lib.decDigits n).toArray⟩
def Aj(q:Rat):ByteArray:=if q.num<0 then(⟨#[45]⟩:ByteArray)++p8 q.num.natAbs else p8 q.num.natAbs
def mD(q:Rat):ByteArray:=if q.den=1 then Aj q else Aj q++((⟨#[47]⟩:ByteArray)++p8 q.den)
theorem Ak:∀(l:List UInt8) (a:Nat),(∀c∈l,ew c=true)->l.foldl (fun a c=>a*10+(c.toNat-48)) a<(a+1)*10^l.length
 |[],a,_=>by simp
 |c::l,a,h=>by
  rw[Qk];have d:=Ak l (a*10+(c.toNat-48)) (fun x e=>h x (OX _ e));have b:=h c (OR ..);unfold ew at b;simp only[Oo,decide_eq_true_eq]at b;refine Oz d ?_;rw[Oi,OO,show(a+1)*(10^l.length*10)=((a+1)*10)*10^l.length by rw[OF (10^l.length),OL]];exact OT _ (by omega)
theorem KF{l:List UInt8}(h:l.all ew=true):fa l<10^l.length:=by
 have:=Ak l 0 (OD.1 h);unfold fa;simpa using this
theorem Al{n k:Nat}(h:n<10^k):(az n).length<=k:=by
 refine bk (Oz h (RQ (by decide) k))
theorem im{l:List UInt8}{L:Nat}(h:l.all ew=true)(a:l.length<=L):(az (fa l)).length<=L:=Oq (Al (KF h)) a
theorem ul{k L:Nat}(h:k<L):(az (10^k)).length<=L:=Oq (Al (k:=k+1) (Qt (by decide) (by omega))) (by omega)
theorem Am(s:ByteArray)(P:s.size<=1048576):Ct 79 [sT s] (Ai (gH s)):=by
 refine Ct.of (n:=100) Tryz.func79 Z Z Z Z Z fun w0 G0=>?_
 refine ab<|aj 2 Z<|ab<|ab<|ae<|aa 1 Z<|ag (t:=nI s.size) Z Z Z (fj Z bj Z)<|ag (t:=bT (decide (4000<s.size))) Z Z Z (ah (ai Z Z Z Zy) (au (qH s.size 4000)))<|af<|aD Z (fun w=>?_) (fun w=>?_)
 ·refine ab<|aj 3 Z<|ax<|⟨.inr Z,_,.cons ⟨_,_,_,_,Z,Z,.inl ⟨_,aI,Z,Z⟩⟩ (.cons Z .nil),by unfold Ai gH;rw[if_pos w];rfl,ib _⟩
 refine ar<|ab ?_;obtain⟨u,G⟩:∃u,fC s=u:=⟨_,rfl⟩;have I:u.size<=4000:=by
  rw[<-G];unfold fC;split
  ·simp only[O6];omega
  omega
 obtain⟨n,D⟩:∃n,u9 u.data.toList=n:=⟨_,rfl⟩;obtain⟨r,H⟩:∃r,u.extract (n+1) u.size=r:=⟨_,rfl⟩;have f:gH s=mC (Cv s) u n r:=by unfold gH;rw[if_neg w,G,D,H]
 refine ae<|aa 1 Z<|ag (t:=nI s.size) Z Z Z (fj Z bj Z)<|ag (t:=bT (decide (0<s.size))) Z Z Z (ah (ai Z Z Z Zy) (au (qH s.size 0)))<|aa 1 Z<|aw (t:=sT s) Z Z Z Z (fun b=>av Z Z)<|aw (t:=.sc (.int .u8 (((dR s 0).toNat:Nat):Int))) Z Z Z Z (fun b=>eg (j:=0) Z bj (if_pos b) Z Z (ff (of_decide_eq_true b)))<|aw (t:=bT (decide ((dR s 0).toNat=45))) Z Z Z Z (fun b=>ah (ai Z (if_pos b) Z (fun _=>rfl)) (au (iF ((dR s 0).toNat) 45)))<|ag (t:=bT ((decide (0<s.size))&&(decide ((dR s 0).toNat=45)))) Z Z Z (aL Z Z (fun c=>(if_pos c).trans (au (by rw[c];rfl))) (fun c=>(au (by rw[c];rfl))))<|ag (t:=bT (Cv s)) Z Z Z (ah (bE Z Z) (au Z))<|af<|ab<|o8 ⟨100,[(0,sT u),(2,.box 0 0),(3,iT 0),(4,bT (Cv s))],[(65,[bT false,.sl [],.sl []])],[]⟩ 1 0 ?_ ?_
 ·refine ab<|aj 1 Z<|aH Z (fun m=>?_) (fun m=>?_)
  ·have L:0<s.size:=by have h:=m;unfold Cv at h;rw[Oo]at h;exact of_decide_eq_true h.1
   refine ae<|aa 1 Z<|ag (t:=sT (s.extract 1 s.size)) Z Z Z (fK (l:=1) (h:=s.size) Z bj Z ⟨_,Z⟩ Z (by omega) (by omega))<|aa 1 Z<|af<|⟨Z,Z,Z,.cons (p7 (by rw[<-G];unfold fC;rw[if_pos m])) Z (.cons Z Z (.cons Z Z (.cons Z Z .nil))),Z⟩
  refine ar<|⟨Z,Z,Z,.cons (p7 (by rw[<-G];unfold fC;rw[if_neg (by rw[show Cv s=false from m];exact Pd)])) Z (.cons Z Z (.cons Z Z (.cons Z Z .nil))),Z⟩
 refine ab<|ae<|aa 1 Z<|ag (t:=nI n) Z Z Z (ak Z (by rw[<-D];exact Ip u (by omega)) Z Z)<|aa 1 Z<|af<|ab<|ab<|ae<|aa 1 Z<|ag (t:=bT (decide (n=0))) Z Z Z (ah (ai Z Z Z Zy) (au (iF n 0)))<|af<|aD Z (fun A=>?_) (fun A=>?_)
 ·have C:=A;refine ab<|aj 3 Z<|ax<|⟨.inr Z,_,.cons ⟨_,_,_,_,Z,Z,.inl ⟨_,aI,Z,Z⟩⟩ (.cons Z .nil),by rw[f];unfold mC;rw[if_pos C];rfl,ib _⟩
 have C:=A;have J:n<=u.size:=by rw[<-D,bR];exact Im _
 refine ar<|ab<|ab<|ae<|aa 2 Z<|ag (t:=nI u.size) Z Z Z (fj Z bj Z)<|ag (t:=bT (decide (n=u.size))) Z Z Z (ah (ai Z Z Z Zy) (au (iF n u.size)))<|af<|aD Z (fun o=>?_) (fun o=>?_)
 ·have g:=o;have q:u.data.toList.all ew=true:=su (by rw[<-bR,D];exact o);refine ab<|ae<|aa 2 Z<|ag Z Z Z (ak Z (nR u (by omega) I q) Z Z)<|ag Z Z Z (ak Z (iy 1 (by decide)) Z Z)<|ag Z Z Z (ak Z (lj _ _ _ (im q (by rw[<-bR];omega)) (by decide)) Z Z)<|aa 2 Z<|af<|ax<|⟨.inr Z,_,.cons ⟨_,_,_,_,Z,Z,.inl ⟨_,aI,Z,Z⟩⟩ (.cons Z .nil),by rw[f];unfold mC;rw[if_neg C,if_pos g];rfl,ib _⟩
 have g:=o;have F:n<u.size:=by omega
 have N:r.size=u.size-(n+1):=by rw[<-H];simp only[O6];omega
 have M:(u.extract 0 n).size=n:=by simp only[O6];omega
 have x:(u.extract 0 n).data.toList.all ew=true:=by rw[lx,PQ,<-D];exact Ah _
 refine ar<|ab<|ck (fu:=9) [some 40,some 41,some 42,some 43,some 44,some 45,some 46,some 6,some 7] [sT u,nI n,.sc (.int .u8 (((dR u n).toNat:Nat):Int)),sT u,nI n,nI (n+1),sT r,.sc (.int .u8 (((dR u n).toNat:Nat):Int)),sT r] (by kernel_rfl) Z Z (by kernel_rfl) Z ?_ ?_
 ·refine Chain.op Z (av Z Z)<|Chain.op Z (av Z Z)<|Chain.op Z (eg Z bj Z Z Z (ff F))<|Chain.op Z (av Z Z)<|Chain.op Z (av Z Z)<|Chain.op Z (ah (ai Z Z Z Zy) (bp (by omega)))<|Chain.op Z (ah (fK (l:=n+1) (h:=u.size) Z bj Z ⟨_,Z⟩ Z (by omega) (by omega)) (p7 H))<|Chain.op Z (bE Z Z)<|Chain.op Z (bE Z Z)<|Chain.nil
 refine ab<|ab<|ae<|aa 1 Z<|ag (t:=bT (decide ((dR u n).toNat≠47))) Z Z Z (ah (ai Z Z Z Zy) (au (qC ((dR u n).toNat) 47)))<|aa 1 Z<|aw (t:=.sc (.int .u8 (((dR u n).toNat:Nat):Int))) Z Z Z Z (fun b=>av Z Z)<|aw (t:=bT (decide ((dR u n).toNat≠46))) Z Z Z Z (fun b=>ah (ai Z (if_pos b) Z (fun _=>rfl)) (au (qC ((dR u n).toNat) 46)))<|ag (t:=bT ((decide ((dR u n).toNat≠47))&&(decide ((dR u n).toNat≠46)))) Z Z Z (aL Z Z (fun c=>(if_pos c).trans (au (by rw[c];rfl))) (fun c=>(au (by rw[c];rfl))))<|aa 1 Z<|aw (t:=sT r) Z Z Z Z (fun b=>av Z Z)<|aw (t:=bT (r.toList==(⟨#[]⟩:ByteArray).toList)) Z Z Z Z (fun b=>ah (ai Z (if_pos b) Z (fun _=>rfl)) (au Z))<|ag (t:=bT (((decide ((dR u n).toNat≠47))&&(decide ((dR u n).toNat≠46)))||(r.toList==(⟨#[]⟩:ByteArray).toList))) Z Z Z (aL Z Z (fun c=>(au (by rw[c];rfl))) (fun c=>(if_pos c).trans (au (by rw[c];rfl))))<|aa 1 Z<|aw (t:=sT r) Z Z Z Z (fun b=>av Z Z)<|aw (t:=nI (u9 r.data.toList)) Z Z Z Z (fun b=>ak Z (Ip r (by omega)) (eo (if_pos b) Z) Z)<|aw (t:=sT r) Z Z Z Z (fun b=>av Z Z)<|aw (t:=nI r.size) Z Z Z Z (fun b=>fj Z bj (if_pos b))<|aw (t:=bT (decide ((u9 r.data.toList)≠r.size))) Z Z Z Z (fun b=>ah (ai Z (if_pos b) (if_pos b) (fun _=>rfl)) (au (qC ((u9 r.data.toList)) r.size)))<|ag (t:=bT (np (dR u n) r)) Z Z Z (ah (t:=bT ((((decide ((dR u n).toNat≠47))&&(decide ((dR u n).toNat≠46)))||(r.toList==(⟨#[]⟩:ByteArray).toList))||(decide ((u9 r.data.toList)≠r.size)))) (aL Z Z (fun c=>(au (by rw[c];rfl))) (fun c=>(if_pos c).trans (au (by rw[c];rfl)))) (au Z))<|af<|aH Z (fun k=>?_) (fun k=>?_)
 ·have i:=k;refine ab<|aj 3 Z<|ax<|⟨.inr Z,_,.cons ⟨_,_,_,_,Z,Z,.inl ⟨_,aI,Z,Z⟩⟩ (.cons Z .nil),by rw[f];unfold mC;rw[if_neg C,if_neg g,if_pos (show np (dR u n) r=true from i)];rfl,ib _⟩
 have i:¬np (dR u n) r=true:=by rw[k];exact Pd
 have v:r.data.toList.all ew=true:=su (by have h:=k;unfold np at h;rw[OH]at h;rw[<-bR];simpa using h.2);have O:1<=r.size:=by
  have h:=k;unfold np at h;rw[OH,OH]at h;have K:=h.1.2;rw[Lib.toList_data,bR]at*;cases e:r.data.toList with
  |nil=>rw[e]at K;simp at K
  |cons a l=>simp
 have p:(u.extract 0 n++r).data.toList.all ew=true:=by rw[RF,PK,Qd,x,v];rfl
 refine ar<|ab<|ab<|ae<|aa 1 Z<|ag (t:=bT (decide ((dR u n).toNat=46))) Z Z Z (ah (ai Z Z Z Zy) (au (iF ((dR u n).toNat) 46)))<|af<|aD Z (fun B=>?_) (fun B=>?_)
 ·have d:=B;refine ab<|ae<|ag Z Z Z (ak Z (iy 10 (by decide)) Z Z)<|aa 1 Z<|ag (t:=nI r.size) Z Z Z (fj Z bj Z)<|ag Z Z Z (ak Z (Ku r.size (by omega)) Z Z)<|aa 5 Z<|af<|ab<|ab<|ae<|aa 1 Z<|ag (t:=bT (decide (0≠0))) Z Z Z (ah (ai Z Z Z Zy) (au (qC 0 0)))<|af<|aD Z (fun E=>?_) (fun E=>?_)
  ·exact absurd Z E
  refine ar<|ab<|ae<|aa 3 Z<|ag (t:=sT (u.extract 0 n)) Z Z Z (fK (l:=0) (h:=n) Z bj Z Z ⟨_,Z⟩ (by omega) (by omega))<|aa 1 Z<|ag (t:=sT (u.extract 0 n++r)) Z Z Z (ai Z Z Z (fun _=>r9 (by rw[<-H];simp only[O6];omega)))<|ag Z Z Z (ak Z (nR _ (by rw[P7];omega) (by rw[P7];omega) p) Z Z)<|aa 1 Z<|ag Z Z Z (ak Z (lj _ _ _ (im p (by rw[<-bR,P7];omega)) (ul (by omega))) Z Z)<|aa 2 Z<|af<|ax<|⟨.inr Z,_,.cons ⟨_,_,_,_,Z,Z,.inl ⟨_,aI,Z,Z⟩⟩ (.cons Z .nil),by rw[f];unfold mC;rw[if_neg C,if_neg g,if_neg i,if_pos d];rfl,ib _⟩
 have d:=B;refine ar<|ab<|ae<|aa 1 Z<|ag Z Z Z (ak Z (nR r (by omega) (by omega) v) Z Z)<|aa 1 Z<|af<|ab<|ab<|ae<|aa 1 Z<|ag (t:=nI ((az (fa r.data.toList)).length)) Z Z Z (ah (aW Z bN Z) (by simp only[Ol]))<|ag (t:=bT (decide ((az (fa r.data.toList)).length=0))) Z Z Z (ah (ai Z Z Z Zy) (au (iF ((az (fa r.data.toList)).length) 0)))<|af<|aD Z (fun z=>?_) (fun z=>?_)
 ·have y:=b6.1 z;refine ab<|aj 3 Z<|ax<|⟨.inr Z,_,.cons ⟨_,_,_,_,Z,Z,.inl ⟨_,aI,Z,Z⟩⟩ (.cons Z .nil),by rw[f];unfold mC;rw[if_neg C,if_neg g,if_neg i,if_neg d,if_pos y];rfl,ib _⟩
 have y:¬fa r.data.toList=0:=fun e=>z (b6.2 e)
 refine ar<|ab<|ae<|aa 3 Z<|ag (t:=sT (u.extract 0 n)) Z Z Z (fK (l:=0) (h:=n) Z bj Z Z ⟨_,Z⟩ (by omega) (by omega))<|ag Z Z Z (ak Z (nR _ (by omega) (by omega) x) Z Z)<|aa 1 Z<|ag Z Z Z (ak Z (lj _ _ _ (im x (by rw[<-bR];omega)) (im v (by rw[<-bR];omega))) Z Z)<|aa 2 Z<|af<|ax<|⟨.inr Z,_,.cons ⟨_,_,_,_,Z,Z,.inl ⟨_,aI,Z,Z⟩⟩ (.cons Z .nil),by rw[f];unfold mC;rw[if_neg C,if_neg g,if_neg i,if_neg d,if_neg y];rfl,ib _⟩
theorem Fj(q:Rat)(d:Fit 262144 q)(e:(p8 q.num.natAbs).size<=1073741824)(g:(p8 q.den).size<=1073741824):Ct 47 [dA q] (sT (mD q)):=by
 refine Ct.of (n:=25) Tryz.func47 Z Z Z Z Z fun w0 G0=>?_
 refine ab<|aj 2 Z<|ab<|ae<|aa 1 Z<|ag (t:=.agg (aZ q)) Z Z Z (ak Z (pH q d) Z Z)<|aa 2 Z<|af<|ab ?_;obtain⟨t,c⟩:∃t,Aj q=t:=⟨_,rfl⟩;have f:t.size<=1073741825:=by
  rw[<-c];unfold Aj;split
  ·rw[P7];have:=e;show 1+_<=_;omega
  omega
 refine ae<|aa 2 Z<|ag (t:=sT (p8 q.num.natAbs)) Z Z Z (ak Z (ub _ d.num) Z Z)<|aa 1 Z<|af<|ab<|o8 ⟨25,[(1,.box 0 0),(2,sT (⟨#[]⟩)),(3,.box 1 0),(4,sT t)],[(65,(aZ q)),(65,(aZ q))],[]⟩ 2 0 ?_ ?_
 ·refine ab<|aj 2 Z<|aD Z (fun a=>?_) (fun a=>?_)
  ·refine ae<|aa 1 Z<|ag (t:=sT ((⟨#[45]⟩:ByteArray)++p8 q.num.natAbs)) Z Z Z (ai Z Z Z (fun _=>r9 (by show 1+_<=_;omega)))<|aa 1 Z<|af<|⟨Z,Z,Z,.cons Z Z (.cons Z Z (.cons Z Z (.cons (p7 (by rw[<-c];unfold Aj;rw[if_pos a])) Z .nil))),Z⟩
  refine ar<|⟨Z,Z,Z,.cons Z Z (.cons Z Z (.cons Z Z (.cons (p7 (by rw[<-c];unfold Aj;rw[if_neg a])) Z .nil))),Z⟩
 refine ab<|ab<|ae<|aa 2 Z<|ag (t:=bT (decide (q.den=1))) Z Z Z (ak Z (pF _) Z Z)<|ag (t:=bT (!(decide (q.den=1)))) Z Z Z (dw Z Z Zy)<|af<|aH Z (fun b=>?_) (fun b=>?_)
 ·refine ae<|aa 3 Z<|ag (t:=sT (p8 q.den)) Z Z Z (ak Z (ub _ d.den) Z Z)<|ag (t:=sT ((⟨#[47]⟩:ByteArray)++p8 q.den)) Z Z Z (ai Z Z Z (fun _=>r9 (by show 1+_<=_;omega)))<|ag (t:=sT (t++((⟨#[47]⟩:ByteArray)++p8 q.den))) Z Z Z (ai Z Z Z (fun _=>r9 (by rw[P7];show _+(1+_)<=_;omega)))<|aa 1 Z<|af<|ab<|aj 2 Z<|ax<|⟨.inr Z,_,.cons Z .nil,p7 (by unfold mD;rw[c,if_neg (by simpa using b)]),Z⟩
 refine ar<|ab<|aj 2 Z<|ax<|⟨.inr Z,_,.cons Z .nil,p7 (by unfold mD;rw[c,if_pos (by simpa using b)]),Z⟩
theorem Ao(k:Nat):∀(u:Nat),u<10^k->0<k->(Lib.decDigits u).length<=k:=by
 induction k with
 |zero=>intro u _ h;exact absurd h (by omega)
 |succ k ih=>
  intro u a _;rw[Lib.decDigits];split
  ·simp
  rename_i h;have b:0<k:=by
   rcases Pg k with rfl|c
   ·simp at a;omega
   exact c
  have:=ih (u/10) (by rw[Pr (by decide)];rw[OO]at a;exact a) b;simp;omega
theorem IC(n:Int)(c: -9223372036854775808<=n)(b:n<=9223372036854775807):(Lib.itoa n).length<=21:=by
 have a:(10^20:Nat)=100000000000000000000:=by decide
 unfold Lib.itoa;split
 ·have:=Ao 20 n.natAbs (by rw[a];omega) (by decide);simp;omega
 have:=Ao 20 n.toNat (by rw[a];omega) (by decide);omega
theorem KG{t n:Int}{b:ByteArray}(a:bJ t n b=true)(h: -9223372036854775808<=n)(g:n<=9223372036854775807):1<=(fL t n b).length/\(fL t n b).length<=130:=by
 by_cases d:t=1
 ·subst d;rw[show fL 1 n b=Lib.itoa n by simp[fL,a]];obtain⟨c,r,e,j⟩:=k6 n;have:=IC n h g;rw[e]at this⊢;simp at this⊢;omega
 obtain⟨rfl,rfl,f,_⟩:=gN d a;rw[show fL 2 0 b=[39]++lU b.data.toList++[39] by simp[fL,a]];have:=kK b.data.toList;have i:b.data.toList.length=b.size:=by simp
 simp only[Oj,Oi,Ou];omega
def V.fmt(v:V):List UInt8:=fL v.t v.n v.s
def V.rng(v:V):Prop:= -9223372036854775808<=v.n/\v.n<=9223372036854775807
def V.zero:V:=⟨0,0,⟨#[]⟩⟩
def x6(s:ByteArray)(v:V):Prop:=v.ok=true/\v.rng/\s.data.toList=v.fmt
noncomputable def j7 (s:ByteArray):Option V:=open Classical in if h:∃v:V,x6 s v then some (Classical.choose h)else none
theorem rN{s:ByteArray}{v:V}(h:j7 s=some v):x6 s v:=by
 unfold j7 at h;split at h
 ·next h1=>
  injection h with h
  rw[<-h];exact Classical.choose_spec h1
 cases h
theorem rO{s:ByteArray}(h:j7 s=none)(v:V):¬x6 s v:=fun a=>by
 unfold j7 at h;split at h
 ·cases h
 next h1=>exact h1 ⟨v,a⟩
theorem D6(v:V)(h:v.rng):Ct 46 [v.tree] (.sc (.string ⟨v.fmt.toArray⟩)):=Ct.sc ⟨_,Tryz.func46,Z,Z⟩ fun G w vs a _ c=>by
 obtain⟨u,rfl,b⟩:=dZ c;rw[B1 b];exact jU v.t v.n v.s w h.1 h.2 a
theorem Ap(s:ByteArray)(v:V)(g:s.size<=4294967280)(h:j7 s=some v):Ct 76 [sT s] (.tup [v.tree,iT 0]):=⟨⟨_,Tryz.func76,Z,Z⟩,fun G w vs i _ d=>by
 obtain⟨u,rfl,a⟩:=dZ d;cases a;obtain⟨a,b,f⟩:=rN h;refine(GJ v.t v.n v.s s w g a f b.1 b.2 i).mono ?_;rintro e w' ⟨rfl,c⟩;exact⟨_,Z,.tup [.agg #[.int .i64 v.t,.int .i64 v.n,.string v.s],.int .i64 0] _ (.agg [.int .i64 v.t,.int .i64 v.n,.string v.s] _ (.sc _ (.sc _ (.sc _ .nil))) (.sc _ .nil)) .nil,c⟩⟩
theorem Aq(s:ByteArray)(i:s.size<=4294967280)(h:j7 s=none):Ct 76 [sT s] (.tup [V.zero.tree,iT 2]):=⟨⟨_,Tryz.func76,Z,Z⟩,fun G w vs j _ b=>by
 obtain⟨u,rfl,a⟩:=dZ b;cases a;refine(Ex s w i (fun t n f g d a e=>rO h ⟨t,n,f⟩ ⟨g,⟨d,a⟩,e⟩) j).mono ?_;rintro e w' ⟨rfl,c⟩;exact⟨_,Z,.tup [.agg #[.int .i64 0,.int .i64 0,.string ⟨#[]⟩],.int .i64 2] _ (.agg [.int .i64 0,.int .i64 0,.string ⟨#[]⟩] _ (.sc _ (.sc _ (.sc _ .nil))) (.sc _ .nil)) .nil,c⟩⟩
def jB(s:ByteArray):Tree:=.sc (.string s)
theorem wA(l:List ByteArray):Sized 1 (l.map jB):=Sized.map _ l fun _=>rfl
def em(s:ByteArray):List ByteArray:=Lib.splitB ⟨#[10]⟩ 0 (Lib.countB s ⟨#[10]⟩) s
theorem ID(W:World)(G:Nat->Prop):∀l:List ByteArray,PT W G (l.map Value.string) (flat (l.map jB))
 |[]=>.nil
 |_::l=>.sc _ (ID W G l)
theorem IE(s:ByteArray)(p:s.size<=1048576)(b:(em s).length=Lib.countB s ⟨#[10]⟩+1)(o:Lib.countB s ⟨#[10]⟩<=1048576):Ct 28 [sT s,.sc (.string ⟨#[10]⟩)] (.sl ((em s).map jB)):=⟨⟨_,Tryz.func28,Z,Z⟩,fun G w vs l d g=>by
 obtain⟨u,x,rfl,h,n⟩:=dO g;cases h;cases n;obtain⟨m,k⟩:=l.maxLen;refine(Tryz.strings_Split s ⟨#[10]⟩ m w (by omega) k (by decide)).mono ?_;rintro e w' ⟨rfl,rfl⟩;have f:Below w.heap.size w (w.alloc (.cells ((em s).map Value.string).toArray 9)):=(Below.refl _ _).alloc (Oh _) _;refine⟨_,Z,?_,f⟩;have a:=g6 w 9 ((em s).map Value.string).toArray;rw[<-b];refine .sl _ 0 _ _ ((em s).map Value.string) _ a.lt (fun c=>?_) (fun j u i=>?_) (by simp) (by simp) (by omega) (ID _ _ _) .nil
 ·have:=(d _ c).1;omega
 rw[Pk];exact(a.cell j).trans (by simpa using i)⟩
theorem sv{s:ByteArray}(h:A8 s.data.toList=true)(l k:Nat):A8 (s.extract l k).data.toList=true:=by rw[lx];exact Ik (Il h _) _
def lz:List UInt8->Nat->Nat
 |[],i=>i
 |[_],i=>i+1
 |c::d::l,i=>if c.toNat≠39 then lz (d::l) (i+1)else if d.toNat≠39 then i+1 else lz l (i+2)
theorem x7:∀(n:Nat) (l:List UInt8) (i:Nat),l.length<=n->lz l i<=i+l.length
 |_,[],i,_=>by simp[lz]
 |_,[_],i,_=>by simp[lz]
 |0,_::_::_,i,h=>by simp at h
 |n+1,c::d::l,i,h=>by
  simp only[Oi]at h;rw[lz];split
  ·have:=x7 n (d::l) (i+1) (by simp only[Oi];omega);simp only[Oi]at this⊢;omega
  split
  ·simp only[Oi];omega
  have:=x7 n l (i+2) (by omega);simp only[Oi];omega
def oM(s:ByteArray):Bool:=Lib.hasPrefix s.data.toList [39]
def j8(s:ByteArray):Nat:=if oM s then lz (s.data.toList.drop 1) 1 else if 0<=mQ s.data.toList then(mQ s.data.toList).toNat else s.size
theorem um{s:ByteArray}(h:oM s=true):1<=s.size:=by
 unfold oM at h;rw[bR];cases e:s.data.toList with
 |nil=>rw[e]at h;simp[Lib.hasPrefix]at h
 |cons a l=>simp
theorem IF{l:List UInt8}(h:0<=mQ l):(mQ l).toNat<l.length:=by
 unfold mQ at h⊢;split at h
 ·next h1=>
  rw[if_pos h1];obtain⟨c,b,d⟩:=Q1.1 h1;rw[QI];have f:=(QL (fun c:UInt8=> !(c==44||c==58)) (l:=l)).length_le;rcases OS (l.takeWhile fun c:UInt8=> !(c==44||c==58)).length l.length with a|a
  ·exact a
  have e:=(QL (fun c:UInt8=> !(c==44||c==58)) (l:=l)).eq_of_length (by omega);rw[<-e]at b;have:=x5 b;rw[d]at this;cases this
 exact absurd h (by decide)
theorem KH(s:ByteArray):j8 s<=s.size:=by
 unfold j8;split
 ·next h=>
  have a:=um h;have:=x7 _ (s.data.toList.drop 1) 1 (Oh _);rw[OP,<-bR]at this;omega
 split
 ·next h=>have:=IF h;rw[<-bR]at this;omega
 exact Oh _
structure LR where
 vs:List V
 b:Bool
 N:Nat
 D:Nat
 ok:Bool
def LR.tree(x:LR):Tree:=.tup [.agg [.sl (x.vs.map V.tree),.sc (.bool x.b),aG x.N,aG x.D],.sc (.bool x.ok)]
noncomputable def lA:Nat->ByteArray->List V->Option (List V×ByteArray)
 |0,_,_=>none
 |n+1,s,acc=>match j7 (s.extract 0 (j8 s))with
  |none=>none
  |some v=>if Lib.hasPrefix (s.extract (j8 s) s.size).data.toList [44]then lA n ((s.extract (j8 s) s.size).extract 1 (s.extract (j8 s) s.size).size) (acc++[v])else some (acc++[v],s.extract (j8 s) s.size)
noncomputable def dq (s:ByteArray) (cert:Bool):LR:=
 match lA (s.size+1) s []with
 |none=>⟨[],false,0,0,false⟩
 |some (vs,r)=>
  if cert then⟨vs,decide ((1:Rat).num<0),(1:Rat).num.natAbs,(1:Rat).den,r.toList==(⟨#[]⟩:ByteArray).toList⟩
  else if(!Lib.hasPrefix r.data.toList [58])=true then⟨[],false,0,0,false⟩
  else if(gH (r.extract 1 r.size)).2=0 then⟨vs,decide ((gH (r.extract 1 r.size)).1.num<0),(gH (r.extract 1 r.size)).1.num.natAbs,(gH (r.extract 1 r.size)).1.den,true⟩
  else⟨vs,false,0,0,false⟩
theorem KI{x:Rat×Int}(h:x.2=0):Ai x=.tup [dA x.1,iT 0]:=by unfold Ai;rw[if_pos h,h]
theorem IG{x:Rat×Int}(h:x.2≠0):Ai x=.tup [iH false 0 0,iT x.2]:=by unfold Ai;rw[if_neg h];rfl
theorem oN{r:ByteArray}{c:UInt8}(h:Lib.hasPrefix r.data.toList [c]=true):1<=r.size:=by
 rw[bR];cases e:r.data.toList with
 |nil=>rw[e]at h;simp[Lib.hasPrefix]at h
 |cons a l=>simp
theorem IH:Ct 78 [iT 1,iT 1] (.tup [dA 1,iT 0]):=by
 have h:=Kl 1 1 (by decide) (by decide) (by decide) (by decide) (by decide);have e:eh ((decide ((1:Int)<0)) !=(decide ((1:Int)<0))) (1:Int).natAbs (1:Int).natAbs=1:=D0 1;rw[e]at h;exact h
theorem x8{s:ByteArray}{i:Nat}(h:i<s.size):lz (s.data.toList.drop i) i=if(dR s i).toNat≠39 then lz (s.data.toList.drop (i+1)) (i+1)else if i+1=s.size then i+1 else if(dR s (i+1)).toNat≠39 then i+1 else lz (s.data.toList.drop (i+2)) (i+2):=by
 have b:i<s.data.toList.length:=by rw[<-bR];exact h
 have e:s.data.toList[i]=dR s i:=by have:=ff h;rw[Og b]at this;exact PF this
 by_cases d:i+1=s.size
 ·rw[Ow b,e,Ov (i:=i+1) (by rw[<-bR];omega),lz,lz,if_pos d];split<;>rfl
 have c:i+1<s.size:=by omega
 have a:i+1<s.data.toList.length:=by rw[<-bR];exact c
 have f:s.data.toList[i+1]=dR s (i+1):=by have:=ff c;rw[Og a]at this;exact PF this
 rw[Ow b,e,Ow a,f,lz,if_neg d]
theorem II{s:ByteArray}{i:Nat}(h:i=s.size):lz (s.data.toList.drop i) i=s.size:=by
 subst h;rw[Ov (by rw[<-bR];omega)];rfl
theorem Cw:(Tryz.prog.info? 61).map (·.size)=some 1:=by kernel_rfl
theorem KJ(s:ByteArray)(w:s.size<=1048576)(v:A8 s.data.toList=true):Ct 75 [sT s] (nI (j8 s)):=by
 refine Ct.of (n:=43) Tryz.func75 Z Z Z Z Z fun w0 G0=>?_
 refine ab<|aj 1 Z<|ab<|ab<|ae<|aa 1 Z<|ag Z Z Z (ak Z (mz s ⟨#[39]⟩) Z Z)<|ag (t:=bT (!(oM s))) Z Z Z (dw Z Z Zy)<|af<|aH Z (fun j=>?_) (fun j=>?_)
 ·have m:oM s=false:=by simpa using j
  refine ab<|ab<|ae<|aa 1 Z<|ag Z Z Z (ak Z (zW s w v) Z Z)<|aa 1 Z<|af<|ab<|ae<|aa 1 Z<|ag (t:=bT (decide ((mQ s.data.toList)≥0))) Z Z Z (ai Z Z Z Zy)<|af<|aD Z (fun d=>?_) (fun d=>?_)
  ·refine ab<|aj 2 Z<|ax<|⟨.inr Z,_,.cons Z .nil,ez (by unfold j8;rw[if_neg (by rw[m];exact Pd),if_pos d,Int.toNat_of_nonneg d]),Z⟩
  refine ar<|ab<|ae<|aa 1 Z<|ag (t:=nI s.size) Z Z Z (fj Z bj Z)<|aa 1 Z<|af<|ax<|⟨.inr Z,_,.cons Z .nil,oi (k:=.i64) (by unfold j8;rw[if_neg (by rw[m];exact Pd),if_neg d]),Z⟩
 have m:oM s=true:=by simpa using j
 have q:=um m;refine ar<|ab<|ab<|aj 1 Z<|aA<|aO (fun r u=>∃(i:Nat),(i<=s.size/\lz (s.data.toList.drop i) i=lz (s.data.toList.drop 1) 1)/\r=s.size-i/\u=⟨43,[(0,sT s),(4,nI i)],[],[]⟩) 0 0 ⟨1,⟨q,Z⟩,Z,Z⟩ .rf ?_;rintro r u ⟨i,⟨x,a⟩,rfl,rfl⟩;refine ab<|ab<|ae<|aa 2 Z<|ag (t:=nI s.size) Z Z Z (fj Z bj Z)<|ag (t:=bT (decide (i<s.size))) Z Z Z (ah (ai Z Z Z Zy) (au (gK i s.size)))<|af<|aD Z (fun o=>?_) (fun o=>?_)
 ·have c:=o;refine ar<|ab<|aA<|ab<|ab<|ae<|aa 2 Z<|ag (t:=.sc (.int .u8 (((dR s i).toNat:Nat):Int))) Z Z Z (eg Z bj Z Z Z (ff c))<|ag (t:=bT (decide ((dR s i).toNat≠39))) Z Z Z (ah (ai Z Z Z Zy) (au (qC ((dR s i).toNat) 39)))<|af<|aD Z (fun e=>?_) (fun e=>?_)
  ·refine aQ<|ae<|aa 1 Z<|ag (t:=nI (i+1)) Z Z Z (ah (ai Z Z Z Zy) (bp (by omega)))<|aa 1 Z<|af<|⟨_,_,?_,⟨i+1,?_,Z,Z⟩,.rf⟩
   ·omega
   refine⟨by omega,?_⟩;rw[<-a,x8 c,if_pos e]
  refine ar<|ab<|ab<|ae<|aa 1 Z<|ag (t:=nI (i+1)) Z Z Z (ah (ai Z Z Z Zy) (bp (by omega)))<|aa 1 Z<|ag (t:=nI s.size) Z Z Z (fj Z bj Z)<|ag (t:=bT (decide (i+1=s.size))) Z Z Z (ah (ai Z Z Z Zy) (au (iF (i+1) s.size)))<|aa 1 Z<|aw (t:=sT s) Z Z Z Z (fun b=>av Z Z)<|aw (t:=nI i) Z Z Z Z (fun b=>av Z Z)<|aw (t:=nI (i+1)) Z Z Z Z (fun b=>ah (ai Z (if_pos b) Z (fun _=>rfl)) (bp (by omega)))<|aw (t:=.sc (.int .u8 (((dR s (i+1)).toNat:Nat):Int))) Z Z Z Z (fun b=>eg Z bj (if_pos b) (if_pos b) Z (ff (by have:=of_decide_eq_false b;omega)))<|aw (t:=bT (decide ((dR s (i+1)).toNat≠39))) Z Z Z Z (fun b=>ah (ai Z (if_pos b) Z (fun _=>rfl)) (au (qC ((dR s (i+1)).toNat) 39)))<|ag (t:=bT ((decide (i+1=s.size))||(decide ((dR s (i+1)).toNat≠39)))) Z Z Z (aL Z Z (fun p=>(au (by rw[p];rfl))) (fun p=>(if_pos p).trans (au (by rw[p];rfl))))<|af<|aH Z (fun f=>?_) (fun f=>?_)
  ·refine ab<|ae<|aa 1 rfl<|ag (t:=nI (i+1)) rfl rfl rfl (ah (ai rfl rfl rfl Zy) (bp (by omega)))<|aa 1 rfl<|af<|ax<|⟨.inr rfl,_,.cons rfl .nil,oi (k:=.i64) (by unfold j8;rw[if_pos m,<-a,x8 c,if_neg e];rcases RR.1 f with h|h;rw[if_pos (of_decide_eq_true h)];rw[if_pos (of_decide_eq_true h)];split<;>rfl),rfl⟩
  obtain⟨g,l⟩:=OH.1 f;replace g:=of_decide_eq_false g;replace l:=of_decide_eq_false l;refine ar<|ae<|aa 1 Z<|ag (t:=nI (i+1)) Z Z Z (ah (ai Z Z Z Zy) (bp (by omega)))<|aa 1 Z<|af<|ae<|aa 1 Z<|ag (t:=nI ((i+1)+1)) Z Z Z (ah (ai Z Z Z Zy) (bp (by omega)))<|aa 1 Z<|af<|⟨_,_,?_,⟨(i+1)+1,?_,Z,Z⟩,.rf⟩
  ·omega
  refine⟨by omega,?_⟩;rw[<-a,x8 c,if_neg e,if_neg g,if_neg l]
 refine aQ<|ab<|ae<|aa 1 Z<|ag (t:=nI s.size) Z Z Z (fj Z bj Z)<|aa 1 Z<|af<|ax<|⟨.inr Z,_,.cons Z .nil,oi (k:=.i64) (by unfold j8;rw[if_pos m,<-a,II (by omega)]),Z⟩
theorem KK(s:ByteArray)(cert:Bool)(I:s.size<=1048576)(F:A8 s.data.toList=true):Ct 29 [sT s,bT cert] ((dq s cert).tree):=by
 refine Ct.of (n:=62) Tryz.func29 Z Z Z Z Z fun w0 G0=>?_
 refine ab<|aj 2 Z<|ab<|ae<|pg (cs:=[.sc (.slice none 0 0),bT false,.sc (.slice none 0 0),.sc (.slice none 0 0)]) (b:=1) (bs':=[(67,[.sl [],bT false,.sl [],.sl []]),(67,[.sc (.slice none 0 0),bT false,.sc (.slice none 0 0),.sc (.slice none 0 0)])]) Z Z Z Z gB Z Z Z Z<|af<|ab<|aA<|jE 1 0 77 3 (bs':=[(67,[.sl [],bT false,.sl [],.sl []]),(67,[.own 0,bT false,.sc (.slice none 0 0),.sc (.slice none 0 0)])]) (rs':=[some ⟨77,3,[],false⟩]) Z Z Z Z<|aO (fun B D=>∃(u:ByteArray) (d:List V) (n:Nat),(A8 u.data.toList=true/\u.size<n/\d.length+u.size<=s.size/\lA n u d=lA (s.size+1) s [])/\B=u.size+1/\D=⟨62,[(0,sT u),(1,bT cert),(4,.box 0 0),(6,.box 1 0)],[(67,[.sl [],bT false,.sl [],.sl []]),(67,[.own 0,bT false,.sc (.slice none 0 0),.sc (.slice none 0 0)])],[some ⟨77,3,d.map V.tree,false⟩]⟩) 2 1 ⟨s,[],s.size+1,⟨F,by omega,by simp,Z⟩,Z,Z⟩ .rf ?_;rintro B D ⟨u,d,n,⟨w,H,A,a⟩,rfl,rfl⟩;obtain⟨m,rfl⟩:∃m,n=m+1:=⟨n-1,by omega⟩;have E:=KH u;refine aA<|ab<|ae<|aa 1 Z<|ag Z Z Z (ak Z (KJ u (by omega) w) Z Z)<|aa 1 Z<|af<|ab ?_;rcases i:j7 (u.extract 0 (j8 u))with _|v
 ·rw[lA,i]at a;dsimp only at a;refine ae<|aa 2 Z<|ag (t:=sT (u.extract 0 (j8 u))) Z Z Z (fK (l:=0) (h:=(j8 u)) Z bj Z Z ⟨_,Z⟩ (by omega) (by omega))<|ag Z Z Z (ak Z (Aq _ (by simp only[O6];omega) i) Z Z)<|aa 6 Z<|af<|ab<|ab<|ae<|aa 1 Z<|ag (t:=bT (decide (2≠0))) Z Z Z (ah (ai Z Z Z Zy) (au (qC 2 0)))<|af<|aD Z (fun p=>?_) (fun p=>?_)
  ·refine ab<|aj 3 Z<|ax<|⟨.inr Z,_,.cons ⟨_,_,_,_,Z,Z,.inl ⟨_,eT,Z,Z⟩⟩ (.cons Z .nil),by unfold dq;rw[<-a];rfl,Z⟩
  exact absurd (by decide) p
 rw[lA,i]at a;dsimp only at a;refine ae<|aa 2 Z<|ag (t:=sT (u.extract 0 (j8 u))) Z Z Z (fK (l:=0) (h:=(j8 u)) Z bj Z Z ⟨_,Z⟩ (by omega) (by omega))<|ag Z Z Z (ak Z (Ap _ v (by simp only[O6];omega) i) Z Z)<|aa 6 Z<|af<|ab<|ab<|ae<|aa 1 Z<|ag (t:=bT (decide (0≠0))) Z Z Z (ah (ai Z Z Z Zy) (au (qC 0 0)))<|af<|aD Z (fun q=>?_) (fun q=>?_)
 ·exact absurd Z q
 refine ar<|ab<|ae<|aa 3 rfl<|ag (t:=.sl [.agg [iT v.t,iT v.n,sT v.s]]) rfl rfl rfl (aN rfl bw gC rfl (by decide) (by decide) rfl rfl rfl rfl rfl)<|a8 (bs':=[(67,[.sl [],bT false,.sl [],.sl []]),(67,[.any,bT false,.sc (.slice none 0 0),.sc (.slice none 0 0)]),(77,[iT v.t,iT v.n,sT v.s])]) (rs':=[some ⟨77,3,(d++[v]).map V.tree,false⟩]) rfl rfl rfl rfl iP rfl rfl rfl rfl (by intro e C;simp only[OC,O8,or_false]at C;subst C;rfl) (AllC.lit rfl) (AllC.lit rfl) (by simp only[Ol,Oi,Ou];omega) rfl rfl rfl (by rw[PE];rfl)<|aa 2 rfl<|af<|ab ?_;obtain⟨r,x⟩:∃r,u.extract (j8 u) u.size=r:=⟨_,rfl⟩;have G:r.size=u.size-j8 u:=by rw[<-x];simp only[O6];omega
 rw[x]at a;have z:A8 r.data.toList=true:=by rw[<-x];exact sv w _ _
 refine ae<|aa 2 Z<|ag (t:=sT r) Z Z Z (ah (fK (l:=(j8 u)) (h:=u.size) Z bj Z ⟨_,Z⟩ Z (by omega) (by omega)) (p7 x))<|aa 1 Z<|af<|ab<|ab<|ae<|aa 1 Z<|ag Z Z Z (ak Z (mz r ⟨#[44]⟩) Z Z)<|ag (t:=bT (!(Lib.hasPrefix r.data.toList [44]))) Z Z Z (dw Z Z Zy)<|af<|aH Z (fun k=>?_) (fun k=>?_)
 ·have j:Lib.hasPrefix r.data.toList [44]=false:=by simpa using k
  rw[if_neg (by rw[j];exact Pd)]at a;refine aQ<|ab<|ab<|dI 0 (bs':=[(67,[.sl [],bT false,.sl [],.sl []]),(67,[.sl ((d++[v]).map V.tree),bT false,.sc (.slice none 0 0),.sc (.slice none 0 0)]),(77,[iT v.t,iT v.n,sT v.s])]) (rs':=[none]) Z Z Z Z<|aj 1 Z<|aH Z (fun g=>?_) (fun g=>?_)
  ·refine ab<|ae<|ag Z Z Z (ak Z IH Z Z)<|aa 5 Z<|af<|ab<|ae<|aa 2 Z<|ag (t:=bT (r.toList==(⟨#[]⟩:ByteArray).toList)) Z Z Z (ah (ai Z Z Z Zy) (au Z))<|aa 2 Z<|af<|ax<|⟨.inr Z,_,.cons ⟨_,_,_,_,Z,Z,.inl ⟨_,eT,Z,Z⟩⟩ (.cons Z .nil),by unfold dq;rw[<-a];dsimp only;rw[if_pos g];rfl,Z⟩
  refine ar<|ab<|ab<|ae<|aa 1 Z<|ag Z Z Z (ak Z (mz r ⟨#[58]⟩) Z Z)<|ag (t:=bT (!(Lib.hasPrefix r.data.toList [58]))) Z Z Z (dw Z Z Zy)<|af<|aH Z (fun f=>?_) (fun f=>?_)
  ·refine ab<|aj 3 Z<|ax<|⟨.inr Z,_,.cons ⟨_,_,_,_,Z,Z,.inl ⟨_,eT,Z,Z⟩⟩ (.cons Z .nil),by unfold dq;rw[<-a];dsimp only;rw[if_neg (by rw[g];exact Pd),if_pos f];rfl,Z⟩
  have y:1<=r.size:=oN (c:=58) (by simpa using f);refine ar<|ab ?_;by_cases o:(gH (r.extract 1 r.size)).2=0
  ·refine ae<|aa 1 Z<|ag (t:=sT (r.extract 1 r.size)) Z Z Z (fK (l:=1) (h:=r.size) Z bj Z ⟨_,Z⟩ Z (by omega) (by omega))<|ag (t:=.tup [.agg [bT (decide (((gH (r.extract 1 r.size)).1).num<0)),aG (((gH (r.extract 1 r.size)).1).num.natAbs),aG (((gH (r.extract 1 r.size)).1).den)],iT 0]) Z Z Z (ak Z (by have h:=Am (r.extract 1 r.size) (by simp only[O6];omega);rw[KI o]at h;exact h) Z Z)<|aa 6 Z<|af<|ab<|aj 3 Z<|ab<|ae<|aa 2 Z<|ag (t:=bT (decide (0=0))) Z Z Z (ah (ai Z Z Z Zy) (au (iF 0 0)))<|aa 2 Z<|af<|ax<|⟨.inr Z,_,.cons ⟨_,_,_,_,Z,Z,.inl ⟨_,eT,Z,Z⟩⟩ (.cons Z .nil),by unfold dq;rw[<-a];dsimp only;rw[if_neg (by rw[g];exact Pd),if_neg (by rw[f];exact Pd),if_pos o];rfl,Z⟩
  refine ae<|aa 1 Z<|ag (t:=sT (r.extract 1 r.size)) Z Z Z (fK (l:=1) (h:=r.size) Z bj Z ⟨_,Z⟩ Z (by omega) (by omega))<|ag (t:=.tup [.agg [bT false,aG 0,aG 0],iT ((gH (r.extract 1 r.size)).2)]) Z Z Z (ak Z (by have h:=Am (r.extract 1 r.size) (by simp only[O6];omega);rw[IG o]at h;exact h) Z Z)<|aa 6 Z<|af<|ab<|aj 3 Z<|ab<|ae<|aa 2 Z<|ag (t:=bT (((gH (r.extract 1 r.size)).2)==0)) Z Z Z (ai Z Z Z Zy)<|aa 2 Z<|af<|ax<|⟨.inr Z,_,.cons ⟨_,_,_,_,Z,Z,.inl ⟨_,eT,Z,Z⟩⟩ (.cons Z .nil),by unfold dq;rw[<-a];dsimp only;rw[if_neg (by rw[g];exact Pd),if_neg (by rw[f];exact Pd),if_neg o,beq_eq_false_iff_ne.2 o];rfl,Z⟩
 have j:Lib.hasPrefix r.data.toList [44]=true:=by simpa using k
 have y:=oN j;rw[if_pos j]at a;refine ar<|ae<|aa 1 Z<|ag (t:=sT (r.extract 1 r.size)) Z Z Z (fK (l:=1) (h:=r.size) Z bj Z ⟨_,Z⟩ Z (by omega) (by omega))<|aa 1 Z<|af<|⟨_,_,?_,⟨r.extract 1 r.size,d++[v],m,?_,Z,Z⟩,.rf⟩
 ·simp only[O6];omega
 refine⟨sv z _ _,by simp only[O6];omega,by simp only[O6,Oj,Oi,Ou];omega,a⟩
end Go.Proofs.YtfoejfohbkmmeaaGreatDoor
