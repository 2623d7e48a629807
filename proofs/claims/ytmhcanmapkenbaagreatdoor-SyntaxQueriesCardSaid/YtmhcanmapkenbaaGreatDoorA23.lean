import Derived.Test.YtmhcanmapkenbaaGreatDoorA22
set_option maxRecDepth 100000
set_option maxHeartbeats 4000000
set_option linter.defProp false
open Go.Proofs.Tryz
namespace Go.Proofs.YtmhcanmapkenbaaGreatDoor
open Go.RowKit
open Lib renaming hid→J
variable{α:Type}
def iQ(o:Option ByteArray):(M1 o).plain=true:=by cases o<;>rfl
def LA{t:Trm}(h:¬t.v=b9):t.v=aD t:=(if_neg h).symm
def LB{t:Trm}(h:t.v=b9):(⟨t.c.fmt.toArray⟩:ByteArray)=aD t:=(if_pos h).symm
def ji(a b:ByteArray):(!(a.toList==b.toList))=decide (¬a=b):=by rw[aM,decide_not]
def jD:nT prog 148=some 9:=U
def mR:gm prog 144 0=some 0:=U
def g9:gm prog 144 1=some 1:=U
def jS:gm prog 146 0=some 0:=U
def IU:gm prog 146 1=some 1:=U
def IV:gm prog 148 0=some 0:=U
def ej:gm prog 148 1=some 1:=U
def ek:gm prog 148 2=some 5:=U
def cX:eN prog 142=true:=U
def LC:(prog.info? 148).map (·.size)=some 9:=U
def iJ(t:Trm)(h:t.c.rng):Ct 127 [t.tree] (sT (aD t)):=by
 refine Ct.of (n:=11) func127 Z Z Z Z Z λw0 G0=>?_
 refine N 2 Z<|Y<|M<|aB 2 (t:=bT (decide (¬t.v=b9))) Z Z Zy (D (ji _ _))<|K<|an Z (λa=>?_) (λa=>?_)
 ·refine N 3 Z<|aV ⟨Z,cT (LA a),Z⟩ Z
 refine X<|M<|C 2 Z (aJ Z (Jy t.c h) Z Z)<|H 1 Z<|aV ⟨Z,cT (LB (RF.1 a)),Z⟩ Z
def yh(l:List ByteArray)(hl:l.length<=1000000)(c:(jn [44,32] 0 l).length<=1073741824):Ct 34 [.sl (l.map aE)] (sT (bF l)):=by
 have d:(⟨(jn [44,32] 0 l).toArray⟩:ByteArray).size=(jn [44,32] 0 l).length:=Rg;have a:(⟨#[40]⟩:ByteArray).size=1:=rfl;have b:(⟨#[41]⟩:ByteArray).size=1:=rfl;refine Ct.of (n:=7) func34 Z Z Z Z Z λw0 G0=>?_
 refine N 1 Z<|M<|C 1 Z (aJ Z (sB ⟨#[44,32]⟩ l hl c) Z Z)<|C 0 (t:=sT ((⟨#[40]⟩)++(⟨(jn [44,32] 0 l).toArray⟩:ByteArray))) Z (aL Z Z Z (λ_=>cB (by(try simp only[Qq]at*);omega)))<|C 0 (t:=sT (((⟨#[40]⟩)++(⟨(jn [44,32] 0 l).toArray⟩:ByteArray))++(⟨#[41]⟩))) Z (aL Z Z Z (λ_=>cB (by(try simp only[Qq]at*);omega)))<|H 1 Z<|aV ⟨Z,Z,Z⟩ Z
def uF(c:Cq)(y:CqB c):Ct 73 [c.tree] (M1 (dG c)):=by
 have c0:=y.na;have c1:=y.nc;refine Ct.of (n:=83) func73 Z Z Z Z Z λw0 G0=>?_
 refine N 3 Z<|M<|fq (k:=0) (e:=9) (sz:=1) (rs':=[some ⟨9,1,([]:List ByteArray).map aE,false⟩]) (.inr Z) Z Z Z Z Z<|K<|Y<|M<|C 2 Z (bg Z bq Z)<|H 1 Z<|aG<|bn (λP O=>∃(i:Nat) (m:List ByteArray),(i<=c.al.length/\m.length=i/\m=(c.al.take i).map dw)/\P=c.al.length-i/\O=⟨83,[(1,.box 0 0),(4,.own 0),(15,.sl (c.al.map Atm.tree)),(16,nI c.al.length),(17,nI i)],[(82,[.sl (c.al.map Atm.tree),.sl (c.cl.map Cpr.tree)])],[some ⟨9,1,m.map aE,false⟩]⟩) 1 1 ⟨0,[],⟨O0,Z,Z⟩,Z,Z⟩ .rf ?_;rintro P O ⟨i,m,⟨hi,c3,B⟩,rfl,rfl⟩;refine M<|aB 0 Z Z Zy (D (iL i c.al.length))<|K<|Y<|an Z (λa4=>?_) (λa4=>?_)
 ·obtain⟨a,F⟩:∃a,c.al[i]? =some a:=⟨_,Qj a4⟩;have Q:=Qo F;have c2:=y.nt a Q;obtain⟨c4,b4⟩:=v7 (y.atom Q);have c5:=kN (a.ts.map aD);have c9:(⟨#[110,111,116,32]⟩:ByteArray).size=4:=rfl;refine X<|Y<|aG<|M<|C 0 (t:=.ref [sT a.r,bT a.ng,.sl (a.ts.map Trm.tree)]) Z (aY (Atm.tree a) Z bq Z Z Z (bi (f:=Atm.tree) F) (cL _) Z)<|H 3 Z<|M<|fq (k:=1) (e:=9) (sz:=1) (rs':=[some ⟨9,1,m.map aE,false⟩,some ⟨9,1,([]:List ByteArray).map aE,false⟩]) (.inr Z) Z Z Z Z Z<|K<|Y<|M<|C 2 Z (bg Z bK Z)<|H 1 Z<|aG<|bn (λP O=>∃(j:Nat) (tx:List ByteArray),(j<=a.ts.length/\tx.length=j/\tx=(a.ts.take j).map aD)/\P=a.ts.length-j/\O=⟨83,[(1,.box 0 0),(4,.own 0),(6,.box 1 0),(7,.own 1),(15,.sl (c.al.map Atm.tree)),(16,nI c.al.length),(17,nI i),(22,.sl (a.ts.map Trm.tree)),(23,nI a.ts.length),(24,nI j)],[(82,[.sl (c.al.map Atm.tree),.sl (c.cl.map Cpr.tree)]),(144,[sT a.r,bT a.ng,.sl (a.ts.map Trm.tree)])],[some ⟨9,1,m.map aE,false⟩,some ⟨9,1,tx.map aE,false⟩]⟩) 2 2 ⟨0,[],⟨O0,Z,Z⟩,Z,Z⟩ .rf ?_;rintro P O ⟨j,tx,⟨hj,d1,b1⟩,rfl,rfl⟩;refine M<|aB 0 Z Z Zy (D (iL j a.ts.length))<|K<|Y<|an Z (λa5=>?_) (λa5=>?_)
  ·obtain⟨t,a3⟩:∃t,a.ts[j]? =some t:=⟨_,Qj a5⟩;refine X<|Y<|aG<|M<|C 0 (t:=.ref [sT t.v,iT t.c.t,iT t.c.n,sT t.c.s]) Z (aY (Trm.tree t) Z bK Z Z Z (bi (f:=Trm.tree) a3) (fx _) Z)<|H 3 Z<|am<|C 2 Z (aJ Z (iJ t (y.rng a Q t (Qo a3))) Z Z)<|C 0 (t:=.sl [sT (aD t)]) Z (aQ Z bc cw Z I0 I0 Z Z Z Z Z)<|bD (bs':=[(82,[.sl (c.al.map Atm.tree),.sl (c.cl.map Cpr.tree)]),(144,[sT a.r,bT a.ng,.sl (a.ts.map Trm.tree)]),(146,[sT t.v,iT t.c.t,iT t.c.n,sT t.c.s])]) (rs':=[some ⟨9,1,m.map aE,false⟩,some ⟨9,1,(tx++[aD t]).map aE,false⟩]) Z Z Z Z cC Z Z Z Z (by intro e q;simp only[Qw,QH,or_false]at q;subst q;rfl) (AllC.lit Z) (AllC.lit Z) (by simp only[Qr,Qn,QC];omega) Z Z Z (by rw[Qz];rfl)<|H 1 Z<|am<|bA 0 (j+1) Z Z Zy O0<|H 1 Z<|⟨_,_,?_,⟨j+1,(tx++[aD t]),?_,Z,Z⟩,.rf⟩
   ·omega
   exact⟨O0,by simp;omega,Cx a3 b1⟩
  have b2:tx=a.ts.map aD:=by rw[b1,QU O0]
  subst b2;refine bh<|Y<|cQ 1 (bs':=[(82,[.sl (c.al.map Atm.tree),.sl (c.cl.map Cpr.tree)]),(144,[sT a.r,bT a.ng,.sl (a.ts.map Trm.tree)])]) (rs':=[some ⟨9,1,m.map aE,false⟩,none]) Z Z Z Z<|cu (fu:=6) _ [.box 1 0,sT a.r,.sl ((a.ts.map aD).map aE),sT (bF (a.ts.map aD)),sT (a.r++(bF (a.ts.map aD))),sT (a.r++(bF (a.ts.map aD)))] U0 Z Z U0 Z ?_ ?_
  ·refine Chain.op Z (ao Z Z mR Z)<|Chain.op Z (aA Z Z Z dL Z)<|Chain.op Z (E Z Z)<|Chain.op Z (aJ Z (yh (a.ts.map aD) (by rw[Qr];omega) O0) Z Z)<|Chain.op Z (aL Z Z Z (λ_=>cB (by(try simp only[Qq]at*);omega)))<|Chain.op Z (b7 Z Z)<|Chain.nil
  refine Y<|N 2 Z<|aF Z (λG=>?_) (λG=>?_)
  ·have x:dw a=(⟨#[110,111,116,32]⟩:ByteArray)++(a.r++bF (a.ts.map aD)):=if_pos G;have d0:=b4 G;refine am<|C 1 (t:=sT ((⟨#[110,111,116,32]⟩)++(a.r++(bF (a.ts.map aD))))) Z (aL Z Z Z (λ_=>cB (by(try simp only[Qq]at*);omega)))<|H 1 Z<|am<|C 2 (t:=.sl [sT ((⟨#[110,111,116,32]⟩)++(a.r++(bF (a.ts.map aD))))]) Z (aQ Z bc cw Z I0 I0 Z Z Z Z Z)<|bD (bs':=[(82,[.sl (c.al.map Atm.tree),.sl (c.cl.map Cpr.tree)]),(144,[sT a.r,bT a.ng,.sl (a.ts.map Trm.tree)])]) (rs':=[some ⟨9,1,(m++[(⟨#[110,111,116,32]⟩)++(a.r++(bF (a.ts.map aD)))]).map aE,false⟩,none]) Z Z Z Z cC Z Z Z Z (by intro e q;simp only[Qw,QH,or_false]at q;subst q;rfl) (AllC.lit Z) (AllC.lit Z) (by simp only[Qr,Qn,QC];omega) Z Z Z (by rw[Qz];rfl)<|H 1 Z<|am<|bA 0 (i+1) Z Z Zy O0<|H 1 Z<|⟨_,_,?_,⟨i+1,(m++[(⟨#[110,111,116,32]⟩)++(a.r++(bF (a.ts.map aD)))]),?_,Z,Z⟩,.rf⟩
   ·omega
   refine⟨O0,by simp;omega,oQ F B x⟩
  have x:dw a=a.r++bF (a.ts.map aD):=if_neg (by rw[G];exact Qk);refine X<|am<|C 2 (t:=.sl [sT (a.r++(bF (a.ts.map aD)))]) Z (aQ Z bc cw Z I0 I0 Z Z Z Z Z)<|bD (bs':=[(82,[.sl (c.al.map Atm.tree),.sl (c.cl.map Cpr.tree)]),(144,[sT a.r,bT a.ng,.sl (a.ts.map Trm.tree)])]) (rs':=[some ⟨9,1,(m++[a.r++(bF (a.ts.map aD))]).map aE,false⟩,none]) Z Z Z Z cC Z Z Z Z (by intro e q;simp only[Qw,QH,or_false]at q;subst q;rfl) (AllC.lit Z) (AllC.lit Z) (by simp only[Qr,Qn,QC];omega) Z Z Z (by rw[Qz];rfl)<|H 1 Z<|am<|bA 0 (i+1) Z Z Zy O0<|H 1 Z<|⟨_,_,?_,⟨i+1,(m++[a.r++(bF (a.ts.map aD))]),?_,Z,Z⟩,.rf⟩
  ·omega
  refine⟨O0,by simp;omega,oQ F B x⟩
 have a2:m=c.al.map dw:=by rw[B,QU O0]
 refine bh<|Y<|M<|C 2 Z (bg Z bZ Z)<|H 1 Z<|aG<|bn (λP O=>∃(k:Nat) (g:List ByteArray),(k<=c.cl.length/\g.length<=500000+k/\g=c.al.map dw++(c.cl.take k).filterMap eF/\((c.cl.take k).all λk=>(eF k).isSome)=true)/\P=c.cl.length-k/\O=⟨83,[(1,.box 0 0),(4,.own 0),(49,.sl (c.cl.map Cpr.tree)),(50,nI c.cl.length),(51,nI k)],[(82,[.sl (c.al.map Atm.tree),.sl (c.cl.map Cpr.tree)])],[some ⟨9,1,g.map aE,false⟩]⟩) 1 1 ⟨0,m,⟨O0,O0,by rw[a2];simp,Z⟩,Z,Z⟩ .rf ?_;rintro P O ⟨k,g,⟨hk,b5,u,w⟩,rfl,rfl⟩;refine M<|aB 0 Z Z Zy (D (iL k c.cl.length))<|K<|Y<|an Z (λa9=>?_) (λa9=>?_)
 ·obtain⟨b,o⟩:∃b,c.cl[k]? =some b:=⟨_,Qj a9⟩;have A:=Qo o;obtain⟨J,L⟩:=y.rng2 b A;refine X<|Y<|aG<|M<|C 0 (t:=.ref [nI b.op,sT b.l.v,iT b.l.c.t,iT b.l.c.n,sT b.l.c.s,sT b.r.v,iT b.r.c.t,iT b.r.c.n,sT b.r.c.s]) Z (aY (Cpr.tree b) Z bZ Z Z Z (bi (f:=Cpr.tree) o) (gk _) Z)<|H 3 Z<|N 1 Z<|Y<|N 2 Z<|aG<|M<|aB 0 Z Z Zy (D (e9 b.op 1))<|H 1 Z<|an Z (λR=>?_) (λR=>?_)
  ·have p:kM b.op=some (⟨#[32,61,32]⟩:ByteArray):=by unfold kM;rw[if_pos R]
   have h:=ny p;have a0:=sC (y.cpr A h);have z:(⟨#[32,61,32]⟩:ByteArray).size=3:=rfl;refine bO 1 Z<|ft (sl':=[(1,.box 0 0),(4,.own 0),(49,.sl (c.cl.map Cpr.tree)),(50,nI c.cl.length),(51,nI k),(52,bT (decide (k<c.cl.length))),(12,.box 1 0),(13,sT (⟨#[32,61,32]⟩)),(56,nI b.op),(57,bT (decide (b.op=1)))]) ⟨Z,⟨Z,⟨Z,⟨Z,⟨Z,⟨Z,⟨Z,⟨Z,⟨Z,⟨Z,trivial⟩⟩⟩⟩⟩⟩⟩⟩⟩⟩<|iN (fu:=4) [some 65,some 66,some 67,some 68,some 69,some 70,some 71,some 72,some 73,some 74,some 75,some 76,some 4] [11] [.own 0,.box 1 1,.agg [sT b.l.v,iT b.l.c.t,iT b.l.c.n,sT b.l.c.s],sT (aD b.l),sT (⟨#[32,61,32]⟩),sT ((aD b.l)++(⟨#[32,61,32]⟩)),.box 1 5,.agg [sT b.r.v,iT b.r.c.t,iT b.r.c.n,sT b.r.c.s],sT (aD b.r),sT (((aD b.l)++(⟨#[32,61,32]⟩))++(aD b.r)),.sl [sT (((aD b.l)++(⟨#[32,61,32]⟩))++(aD b.r))],.own 0,.own 0] [] ⟨[11],[(1,.box 0 0),(4,.any),(49,.sl (c.cl.map Cpr.tree)),(50,nI c.cl.length),(51,nI k),(52,bT (decide (k<c.cl.length))),(12,.box 1 0),(13,sT (⟨#[32,61,32]⟩)),(56,nI b.op),(57,bT (decide (b.op=1)))],[(82,[.sl (c.al.map Atm.tree),.sl (c.cl.map Cpr.tree)]),(148,[nI b.op,sT b.l.v,iT b.l.c.t,iT b.l.c.n,sT b.l.c.s,sT b.r.v,iT b.r.c.t,iT b.r.c.n,sT b.r.c.s])],[some ⟨9,1,(g++[(aD b.l++(⟨#[32,61,32]⟩:ByteArray))++aD b.r]).map aE,false⟩],[.any,.box 1 1,.agg [sT b.l.v,iT b.l.c.t,iT b.l.c.n,sT b.l.c.s],sT (aD b.l),sT (⟨#[32,61,32]⟩),sT ((aD b.l)++(⟨#[32,61,32]⟩)),.box 1 5,.agg [sT b.r.v,iT b.r.c.t,iT b.r.c.n,sT b.r.c.s],sT (aD b.r),sT (((aD b.l)++(⟨#[32,61,32]⟩))++(aD b.r)),.sl [sT (((aD b.l)++(⟨#[32,61,32]⟩))++(aD b.r))],.own 0,.own 0]⟩ U0 Z U0 U0 U0 Z Z ?_ ?_
   ·refine .opp [] (.okk Z (E Z Z)<|.fin)<|.opp [] (.okk Z (ao Z Z ej Z)<|.fin)<|.opp [1] (.okk Z (bw Z Z Z bJ Z Z)<|.fin)<|.opp [2] (.okk Z (aJ Z (iJ b.l J) Z Z)<|.fin)<|.opp [] (.okk Z (E Z Z)<|.fin)<|.opp [3,4] (.okk Z (aL Z Z Z (λ_=>cB (by(try simp only[Qq]at*);omega)))<|.fin)<|.opp [] (.okk Z (ao Z Z ek Z)<|.fin)<|.opp [6] (.okk Z (bw Z Z Z bJ Z Z)<|.fin)<|.opp [7] (.okk Z (aJ Z (iJ b.r L) Z Z)<|.fin)<|.opp [5,8] (.okk Z (aL Z Z Z (λ_=>cB (by(try simp only[Qq]at*);omega)))<|.fin)<|.opp [9] (.okk Z (aQ Z bc cw Z I0 I0 Z Z Z Z Z)<|.fin)<|.opp [0,10] (.wr 1 (gJ 0) (.own 0) U0 Z Z (d5 Z Z Z cC Z Z Z Z (by intro e q;simp only[Qw,QH,or_false]at q;subst q;rfl) (AllC.lit Z) (AllC.lit Z) (by simp only[Qr,Qn,QC];omega) Z Z (by rw[Qz];rfl)) Z Z Z Z (.ks 11 Z (.i Z (.d U0 .nil)))<|.fin)<|.opp [11] (.no U0<|.okk Z (b7 Z Z)<|.nil)<|.nil
   refine am<|bA 0 (k+1) Z Z Zy O0<|H 1 Z<|⟨_,_,?_,⟨k+1,(g++[(aD b.l++(⟨#[32,61,32]⟩:ByteArray))++aD b.r]),?_,Z,Z⟩,.rf⟩
   ·omega
   exact⟨O0,by simp;omega,oR o u h,jh o w (by rw[h];rfl)⟩
  have I:=R;refine M<|aB 0 Z Z Zy (D (e9 b.op 2))<|H 1 Z<|an Z (λS=>?_) (λS=>?_)
  ·have p:kM b.op=some (⟨#[32,33,61,32]⟩:ByteArray):=by unfold kM;rw[if_neg I];rw[if_pos S]
   have h:=ny p;have a0:=sC (y.cpr A h);have z:(⟨#[32,33,61,32]⟩:ByteArray).size=4:=rfl;refine bO 1 Z<|ft (sl':=[(1,.box 0 0),(4,.own 0),(49,.sl (c.cl.map Cpr.tree)),(50,nI c.cl.length),(51,nI k),(52,bT (decide (k<c.cl.length))),(12,.box 1 0),(13,sT (⟨#[32,33,61,32]⟩)),(56,nI b.op),(57,bT (decide (b.op=1))),(59,bT (decide (b.op=2)))]) ⟨Z,⟨Z,⟨Z,⟨Z,⟨Z,⟨Z,⟨Z,⟨Z,⟨Z,⟨Z,⟨Z,trivial⟩⟩⟩⟩⟩⟩⟩⟩⟩⟩⟩<|iN (fu:=4) [some 65,some 66,some 67,some 68,some 69,some 70,some 71,some 72,some 73,some 74,some 75,some 76,some 4] [11] [.own 0,.box 1 1,.agg [sT b.l.v,iT b.l.c.t,iT b.l.c.n,sT b.l.c.s],sT (aD b.l),sT (⟨#[32,33,61,32]⟩),sT ((aD b.l)++(⟨#[32,33,61,32]⟩)),.box 1 5,.agg [sT b.r.v,iT b.r.c.t,iT b.r.c.n,sT b.r.c.s],sT (aD b.r),sT (((aD b.l)++(⟨#[32,33,61,32]⟩))++(aD b.r)),.sl [sT (((aD b.l)++(⟨#[32,33,61,32]⟩))++(aD b.r))],.own 0,.own 0] [] ⟨[11],[(1,.box 0 0),(4,.any),(49,.sl (c.cl.map Cpr.tree)),(50,nI c.cl.length),(51,nI k),(52,bT (decide (k<c.cl.length))),(12,.box 1 0),(13,sT (⟨#[32,33,61,32]⟩)),(56,nI b.op),(57,bT (decide (b.op=1))),(59,bT (decide (b.op=2)))],[(82,[.sl (c.al.map Atm.tree),.sl (c.cl.map Cpr.tree)]),(148,[nI b.op,sT b.l.v,iT b.l.c.t,iT b.l.c.n,sT b.l.c.s,sT b.r.v,iT b.r.c.t,iT b.r.c.n,sT b.r.c.s])],[some ⟨9,1,(g++[(aD b.l++(⟨#[32,33,61,32]⟩:ByteArray))++aD b.r]).map aE,false⟩],[.any,.box 1 1,.agg [sT b.l.v,iT b.l.c.t,iT b.l.c.n,sT b.l.c.s],sT (aD b.l),sT (⟨#[32,33,61,32]⟩),sT ((aD b.l)++(⟨#[32,33,61,32]⟩)),.box 1 5,.agg [sT b.r.v,iT b.r.c.t,iT b.r.c.n,sT b.r.c.s],sT (aD b.r),sT (((aD b.l)++(⟨#[32,33,61,32]⟩))++(aD b.r)),.sl [sT (((aD b.l)++(⟨#[32,33,61,32]⟩))++(aD b.r))],.own 0,.own 0]⟩ U0 Z U0 U0 U0 Z Z ?_ ?_
   ·refine .opp [] (.okk Z (E Z Z)<|.fin)<|.opp [] (.okk Z (ao Z Z ej Z)<|.fin)<|.opp [1] (.okk Z (bw Z Z Z bJ Z Z)<|.fin)<|.opp [2] (.okk Z (aJ Z (iJ b.l J) Z Z)<|.fin)<|.opp [] (.okk Z (E Z Z)<|.fin)<|.opp [3,4] (.okk Z (aL Z Z Z (λ_=>cB (by(try simp only[Qq]at*);omega)))<|.fin)<|.opp [] (.okk Z (ao Z Z ek Z)<|.fin)<|.opp [6] (.okk Z (bw Z Z Z bJ Z Z)<|.fin)<|.opp [7] (.okk Z (aJ Z (iJ b.r L) Z Z)<|.fin)<|.opp [5,8] (.okk Z (aL Z Z Z (λ_=>cB (by(try simp only[Qq]at*);omega)))<|.fin)<|.opp [9] (.okk Z (aQ Z bc cw Z I0 I0 Z Z Z Z Z)<|.fin)<|.opp [0,10] (.wr 1 (gJ 0) (.own 0) U0 Z Z (d5 Z Z Z cC Z Z Z Z (by intro e q;simp only[Qw,QH,or_false]at q;subst q;rfl) (AllC.lit Z) (AllC.lit Z) (by simp only[Qr,Qn,QC];omega) Z Z (by rw[Qz];rfl)) Z Z Z Z (.ks 11 Z (.i Z (.d U0 .nil)))<|.fin)<|.opp [11] (.no U0<|.okk Z (b7 Z Z)<|.nil)<|.nil
   refine am<|bA 0 (k+1) Z Z Zy O0<|H 1 Z<|⟨_,_,?_,⟨k+1,(g++[(aD b.l++(⟨#[32,33,61,32]⟩:ByteArray))++aD b.r]),?_,Z,Z⟩,.rf⟩
   ·omega
   exact⟨O0,by simp;omega,oR o u h,jh o w (by rw[h];rfl)⟩
  have a1:=S;refine M<|aB 0 Z Z Zy (D (e9 b.op 3))<|H 1 Z<|an Z (λT=>?_) (λT=>?_)
  ·have p:kM b.op=some (⟨#[32,60,32]⟩:ByteArray):=by unfold kM;rw[if_neg I];rw[if_neg a1];rw[if_pos T]
   have h:=ny p;have a0:=sC (y.cpr A h);have z:(⟨#[32,60,32]⟩:ByteArray).size=3:=rfl;refine bO 1 Z<|ft (sl':=[(1,.box 0 0),(4,.own 0),(49,.sl (c.cl.map Cpr.tree)),(50,nI c.cl.length),(51,nI k),(52,bT (decide (k<c.cl.length))),(12,.box 1 0),(13,sT (⟨#[32,60,32]⟩)),(56,nI b.op),(57,bT (decide (b.op=1))),(59,bT (decide (b.op=2))),(61,bT (decide (b.op=3)))]) ⟨Z,⟨Z,⟨Z,⟨Z,⟨Z,⟨Z,⟨Z,⟨Z,⟨Z,⟨Z,⟨Z,⟨Z,trivial⟩⟩⟩⟩⟩⟩⟩⟩⟩⟩⟩⟩<|iN (fu:=4) [some 65,some 66,some 67,some 68,some 69,some 70,some 71,some 72,some 73,some 74,some 75,some 76,some 4] [11] [.own 0,.box 1 1,.agg [sT b.l.v,iT b.l.c.t,iT b.l.c.n,sT b.l.c.s],sT (aD b.l),sT (⟨#[32,60,32]⟩),sT ((aD b.l)++(⟨#[32,60,32]⟩)),.box 1 5,.agg [sT b.r.v,iT b.r.c.t,iT b.r.c.n,sT b.r.c.s],sT (aD b.r),sT (((aD b.l)++(⟨#[32,60,32]⟩))++(aD b.r)),.sl [sT (((aD b.l)++(⟨#[32,60,32]⟩))++(aD b.r))],.own 0,.own 0] [] ⟨[11],[(1,.box 0 0),(4,.any),(49,.sl (c.cl.map Cpr.tree)),(50,nI c.cl.length),(51,nI k),(52,bT (decide (k<c.cl.length))),(12,.box 1 0),(13,sT (⟨#[32,60,32]⟩)),(56,nI b.op),(57,bT (decide (b.op=1))),(59,bT (decide (b.op=2))),(61,bT (decide (b.op=3)))],[(82,[.sl (c.al.map Atm.tree),.sl (c.cl.map Cpr.tree)]),(148,[nI b.op,sT b.l.v,iT b.l.c.t,iT b.l.c.n,sT b.l.c.s,sT b.r.v,iT b.r.c.t,iT b.r.c.n,sT b.r.c.s])],[some ⟨9,1,(g++[(aD b.l++(⟨#[32,60,32]⟩:ByteArray))++aD b.r]).map aE,false⟩],[.any,.box 1 1,.agg [sT b.l.v,iT b.l.c.t,iT b.l.c.n,sT b.l.c.s],sT (aD b.l),sT (⟨#[32,60,32]⟩),sT ((aD b.l)++(⟨#[32,60,32]⟩)),.box 1 5,.agg [sT b.r.v,iT b.r.c.t,iT b.r.c.n,sT b.r.c.s],sT (aD b.r),sT (((aD b.l)++(⟨#[32,60,32]⟩))++(aD b.r)),.sl [sT (((aD b.l)++(⟨#[32,60,32]⟩))++(aD b.r))],.own 0,.own 0]⟩ U0 Z U0 U0 U0 Z Z ?_ ?_
   ·refine .opp [] (.okk Z (E Z Z)<|.fin)<|.opp [] (.okk Z (ao Z Z ej Z)<|.fin)<|.opp [1] (.okk Z (bw Z Z Z bJ Z Z)<|.fin)<|.opp [2] (.okk Z (aJ Z (iJ b.l J) Z Z)<|.fin)<|.opp [] (.okk Z (E Z Z)<|.fin)<|.opp [3,4] (.okk Z (aL Z Z Z (λ_=>cB (by(try simp only[Qq]at*);omega)))<|.fin)<|.opp [] (.okk Z (ao Z Z ek Z)<|.fin)<|.opp [6] (.okk Z (bw Z Z Z bJ Z Z)<|.fin)<|.opp [7] (.okk Z (aJ Z (iJ b.r L) Z Z)<|.fin)<|.opp [5,8] (.okk Z (aL Z Z Z (λ_=>cB (by(try simp only[Qq]at*);omega)))<|.fin)<|.opp [9] (.okk Z (aQ Z bc cw Z I0 I0 Z Z Z Z Z)<|.fin)<|.opp [0,10] (.wr 1 (gJ 0) (.own 0) U0 Z Z (d5 Z Z Z cC Z Z Z Z (by intro e q;simp only[Qw,QH,or_false]at q;subst q;rfl) (AllC.lit Z) (AllC.lit Z) (by simp only[Qr,Qn,QC];omega) Z Z (by rw[Qz];rfl)) Z Z Z Z (.ks 11 Z (.i Z (.d U0 .nil)))<|.fin)<|.opp [11] (.no U0<|.okk Z (b7 Z Z)<|.nil)<|.nil
   refine am<|bA 0 (k+1) Z Z Zy O0<|H 1 Z<|⟨_,_,?_,⟨k+1,(g++[(aD b.l++(⟨#[32,60,32]⟩:ByteArray))++aD b.r]),?_,Z,Z⟩,.rf⟩
   ·omega
   exact⟨O0,by simp;omega,oR o u h,jh o w (by rw[h];rfl)⟩
  have b0:=T;refine M<|aB 0 Z Z Zy (D (e9 b.op 4))<|H 1 Z<|an Z (λU=>?_) (λU=>?_)
  ·have p:kM b.op=some (⟨#[32,60,61,32]⟩:ByteArray):=by unfold kM;rw[if_neg I];rw[if_neg a1];rw[if_neg b0];rw[if_pos U]
   have h:=ny p;have a0:=sC (y.cpr A h);have z:(⟨#[32,60,61,32]⟩:ByteArray).size=4:=rfl;refine bO 1 Z<|ft (sl':=[(1,.box 0 0),(4,.own 0),(49,.sl (c.cl.map Cpr.tree)),(50,nI c.cl.length),(51,nI k),(52,bT (decide (k<c.cl.length))),(12,.box 1 0),(13,sT (⟨#[32,60,61,32]⟩)),(56,nI b.op),(57,bT (decide (b.op=1))),(59,bT (decide (b.op=2))),(61,bT (decide (b.op=3))),(63,bT (decide (b.op=4)))]) ⟨Z,⟨Z,⟨Z,⟨Z,⟨Z,⟨Z,⟨Z,⟨Z,⟨Z,⟨Z,⟨Z,⟨Z,⟨Z,trivial⟩⟩⟩⟩⟩⟩⟩⟩⟩⟩⟩⟩⟩<|iN (fu:=4) [some 65,some 66,some 67,some 68,some 69,some 70,some 71,some 72,some 73,some 74,some 75,some 76,some 4] [11] [.own 0,.box 1 1,.agg [sT b.l.v,iT b.l.c.t,iT b.l.c.n,sT b.l.c.s],sT (aD b.l),sT (⟨#[32,60,61,32]⟩),sT ((aD b.l)++(⟨#[32,60,61,32]⟩)),.box 1 5,.agg [sT b.r.v,iT b.r.c.t,iT b.r.c.n,sT b.r.c.s],sT (aD b.r),sT (((aD b.l)++(⟨#[32,60,61,32]⟩))++(aD b.r)),.sl [sT (((aD b.l)++(⟨#[32,60,61,32]⟩))++(aD b.r))],.own 0,.own 0] [] ⟨[11],[(1,.box 0 0),(4,.any),(49,.sl (c.cl.map Cpr.tree)),(50,nI c.cl.length),(51,nI k),(52,bT (decide (k<c.cl.length))),(12,.box 1 0),(13,sT (⟨#[32,60,61,32]⟩)),(56,nI b.op),(57,bT (decide (b.op=1))),(59,bT (decide (b.op=2))),(61,bT (decide (b.op=3))),(63,bT (decide (b.op=4)))],[(82,[.sl (c.al.map Atm.tree),.sl (c.cl.map Cpr.tree)]),(148,[nI b.op,sT b.l.v,iT b.l.c.t,iT b.l.c.n,sT b.l.c.s,sT b.r.v,iT b.r.c.t,iT b.r.c.n,sT b.r.c.s])],[some ⟨9,1,(g++[(aD b.l++(⟨#[32,60,61,32]⟩:ByteArray))++aD b.r]).map aE,false⟩],[.any,.box 1 1,.agg [sT b.l.v,iT b.l.c.t,iT b.l.c.n,sT b.l.c.s],sT (aD b.l),sT (⟨#[32,60,61,32]⟩),sT ((aD b.l)++(⟨#[32,60,61,32]⟩)),.box 1 5,.agg [sT b.r.v,iT b.r.c.t,iT b.r.c.n,sT b.r.c.s],sT (aD b.r),sT (((aD b.l)++(⟨#[32,60,61,32]⟩))++(aD b.r)),.sl [sT (((aD b.l)++(⟨#[32,60,61,32]⟩))++(aD b.r))],.own 0,.own 0]⟩ U0 Z U0 U0 U0 Z Z ?_ ?_
   ·refine .opp [] (.okk Z (E Z Z)<|.fin)<|.opp [] (.okk Z (ao Z Z ej Z)<|.fin)<|.opp [1] (.okk Z (bw Z Z Z bJ Z Z)<|.fin)<|.opp [2] (.okk Z (aJ Z (iJ b.l J) Z Z)<|.fin)<|.opp [] (.okk Z (E Z Z)<|.fin)<|.opp [3,4] (.okk Z (aL Z Z Z (λ_=>cB (by(try simp only[Qq]at*);omega)))<|.fin)<|.opp [] (.okk Z (ao Z Z ek Z)<|.fin)<|.opp [6] (.okk Z (bw Z Z Z bJ Z Z)<|.fin)<|.opp [7] (.okk Z (aJ Z (iJ b.r L) Z Z)<|.fin)<|.opp [5,8] (.okk Z (aL Z Z Z (λ_=>cB (by(try simp only[Qq]at*);omega)))<|.fin)<|.opp [9] (.okk Z (aQ Z bc cw Z I0 I0 Z Z Z Z Z)<|.fin)<|.opp [0,10] (.wr 1 (gJ 0) (.own 0) U0 Z Z (d5 Z Z Z cC Z Z Z Z (by intro e q;simp only[Qw,QH,or_false]at q;subst q;rfl) (AllC.lit Z) (AllC.lit Z) (by simp only[Qr,Qn,QC];omega) Z Z (by rw[Qz];rfl)) Z Z Z Z (.ks 11 Z (.i Z (.d U0 .nil)))<|.fin)<|.opp [11] (.no U0<|.okk Z (b7 Z Z)<|.nil)<|.nil
   refine am<|bA 0 (k+1) Z Z Zy O0<|H 1 Z<|⟨_,_,?_,⟨k+1,(g++[(aD b.l++(⟨#[32,60,61,32]⟩:ByteArray))++aD b.r]),?_,Z,Z⟩,.rf⟩
   ·omega
   exact⟨O0,by simp;omega,oR o u h,jh o w (by rw[h];rfl)⟩
  have b3:=U;refine N 2 Z<|aO<|⟨.inr Z,_,.cons Z (.cons Z .nil),P7 (J0 o (by unfold kM;rw[if_neg I,if_neg a1,if_neg b0,if_neg b3])),iQ _⟩
 rw[QU O0]at u w;refine bh<|Y<|M<|C 1 Z (vv Z bc Z Z Z)<|aB 0 Z Z Zy (D (e9 g.length 0))<|K<|an Z (λV=>?_) (λV=>?_)
 ·have W:=V;refine N 2 Z<|aO<|⟨.inr Z,_,.cons Z (.cons Z .nil),Py (Gb w u W),iQ _⟩
 have W:=V;refine X<|Y<|cQ 0 (bs':=[(82,[.sl (c.al.map Atm.tree),.sl (c.cl.map Cpr.tree)])]) (rs':=[none]) Z Z Z Z<|am<|C 1 Z (aJ Z (sB ⟨#[44,32]⟩ g O0 (by rw[u];exact y.sz)) Z Z)<|H 2 Z<|aO<|⟨.inr Z,_,.cons Z (.cons Z .nil),Py (Cy w u W),iQ _⟩
noncomputable def v8 (l:List Cq):Option ByteArray:=if l.length=0 then some ⟨#[102,97,108,115,101]⟩else if(l.all λd=>(dG d).isSome)=true then some ⟨(jn [32,111,114,32] 0 (l.filterMap dG)).toArray⟩else none
structure QB (l:List Cq):Prop where
 n:l.length<=500000
 b:∀d∈l,CqB d
 sz:(jn [32,111,114,32] 0 (l.filterMap dG)).length<=1073741824
def LD{l:List Cq}(h:l.length=0):v8 l=some ⟨#[102,97,108,115,101]⟩:=if_pos h
def M3{l:List Cq}(h:¬l.length=0){i:Nat}{d:Cq}(hd:l[i]? =some d)(b:dG d=none):v8 l=none:=(if_neg h).trans (if_neg λa=>by
 have:=Qt.1 a d (Qo hd);rw[b]at this;cases this)
def AI{l:List Cq}(h:¬l.length=0)(b:(l.all λd=>(dG d).isSome)=true){a:List ByteArray}(c:a=l.filterMap dG):v8 l=some ⟨(jn [32,111,114,32] 0 a).toArray⟩:=(if_neg h).trans ((if_pos b).trans (by rw[c]))
def Gc{l:List Cq}{i:Nat}{d:Cq}(h:l[i]? =some d){a:List ByteArray}{x:ByteArray}(b:a=(l.take i).filterMap dG)(c:dG d=some x):a++[x]=(l.take (i+1)).filterMap dG:=by
 rw[iP h,List.filterMap_append,b];simp[c]
def OX{o:Option ByteArray}{x:ByteArray}(h:o=some x):M1 o=.tup [sT x,bT true]:=by rw[h];rfl
def OY{o:Option ByteArray}(h:o=none):M1 o=.tup [.sc (.string ⟨#[]⟩),bT false]:=by rw[h];rfl
def yi(l:List Cq)(r:QB l):Ct 33 [.sl (l.map Cq.tree)] (M1 (v8 l)):=by
 have z:=r.n;refine Ct.of (n:=32) func33 Z Z Z Z Z λw0 G0=>?_
 refine N 2 Z<|Y<|M<|C 1 Z (bg Z bQ Z)<|aB 0 Z Z Zy (D (e9 l.length 0))<|K<|an Z (λm=>?_) (λm=>?_)
 ·have j:=m;refine N 2 Z<|aO<|⟨.inr Z,_,.cons Z (.cons Z .nil),Py (LD j),iQ _⟩
 have j:=m;refine X<|M<|fq (k:=0) (e:=9) (sz:=1) (rs':=[some ⟨9,1,([]:List ByteArray).map aE,false⟩]) (.inr Z) Z Z Z Z Z<|K<|Y<|M<|C 1 Z (bg Z bQ Z)<|H 1 Z<|aG<|bn (λv s=>∃(i:Nat) (a:List ByteArray),(i<=l.length/\a.length<=i/\a=(l.take i).filterMap dG/\((l.take i).all λd=>(dG d).isSome)=true)/\v=l.length-i/\s=⟨32,[(4,.own 0),(12,.sl (l.map Cq.tree)),(13,nI l.length),(14,nI i)],[],[some ⟨9,1,a.map aE,false⟩]⟩) 0 1 ⟨0,[],⟨O0,Qi _,Z,Z⟩,Z,Z⟩ .rf ?_;rintro v s ⟨i,a,⟨y,w,c,o⟩,rfl,rfl⟩;refine M<|aB 0 Z Z Zy (D (iL i l.length))<|K<|Y<|an Z (λp=>?_) (λp=>?_)
 ·obtain⟨d,hd⟩:∃d,l[i]? =some d:=⟨_,Qj p⟩;have q:=r.b d (Qo hd);refine X<|Y<|aG<|M<|C 0 (t:=.ref [.sl (d.al.map Atm.tree),.sl (d.cl.map Cpr.tree)]) Z (aY (Cq.tree d) Z bQ Z Z Z (bi (f:=Cq.tree) hd) (fh _) Z)<|H 3 Z<|Y ?_;rcases g:dG d with _|x
  ·refine am<|C 1 Z (aJ Z (OY g▸uF d q) Z Z)<|H 5 Z<|Y<|M<|C 1 (t:=bT true) Z (dl Z Z Zy)<|K<|aF (b:=true) Z (λ_=>?_) (λh=>by cases h);refine N 2 Z<|aO<|⟨.inr Z,_,.cons Z (.cons Z .nil),P7 (M3 j hd g),iQ _⟩
  refine am<|C 1 Z (aJ Z (OX g▸uF d q) Z Z)<|H 5 Z<|Y<|M<|C 1 (t:=bT false) Z (dl Z Z Zy)<|K<|aF (b:=false) Z (λh=>by cases h) (λ_=>?_);refine X<|am<|C 2 (t:=.sl [sT x]) Z (aQ Z bc cw Z I0 I0 Z Z Z Z Z)<|bD (bs':=[(82,[.sl (d.al.map Atm.tree),.sl (d.cl.map Cpr.tree)])]) (rs':=[some ⟨9,1,(a++[x]).map aE,false⟩]) Z Z Z Z cC Z Z Z Z (by intro e u;simp only[Qw,QH,or_false]at u;subst u;rfl) (AllC.lit Z) (AllC.lit Z) (by simp only[Qr,Qn,QC];omega) Z Z Z (by rw[Qz];rfl)<|H 1 Z<|am<|bA 0 (i+1) Z Z Zy O0<|H 1 Z<|⟨_,_,?_,⟨i+1,(a++[x]),?_,Z,Z⟩,.rf⟩
  ·omega
  exact⟨O0,by simp;omega,Gc hd c g,jh hd o (by rw[g];rfl)⟩
 rw[QU O0]at c o;refine bh<|Y<|cQ 0 (bs':=[]) (rs':=[none]) Z Z Z Z<|am<|C 1 Z (aJ Z (sB ⟨#[32,111,114,32]⟩ a O0 (by rw[c];exact r.sz)) Z Z)<|H 2 Z<|aO<|⟨.inr Z,_,.cons Z (.cons Z .nil),Py (AI j o c),iQ _⟩
section
variable {w0:World} {o:Oper} {S:St}
def AJ{E:En}:∀{us xs:List Value},FT E xs (us.map Tree.sc)->xs=us
 |[],xs,h=>by cases xs with
  |nil=>rfl
  |cons x xs=>cases h
 |u::us,xs,h=>by
  cases xs with
  |nil=>cases h
  |cons x xs=>rw[h.head.isSc,AJ h.tail]
def wa{op:BinOp}{d k:TypeId}{x y:Operand}{v:Value}(us vs:List Value)(a:o.op=.binOp op d x y k)(i:S.ev x=.agg (us.map Tree.sc))(j:S.ev y=.agg (vs.map Tree.sc))(h:∀w,(do eqGuard op d x y (.agg us.toArray) (.agg vs.toArray);binOp op d (.agg us.toArray) (.agg vs.toArray):Sem Value).run prog w=.ok v w):OpOK o S (.sc v):=by
 intro w0 G0 bx rv w T l g;obtain⟨xs,e,b⟩:=(bY g i (by rw[a];simp[Op.operands])).isAgg;obtain⟨ys,f,c⟩:=(bY g j (by rw[a];simp[Op.operands])).isAgg;rw[AJ b]at e;rw[AJ c]at f;refine OpRuns.of_ok (v:=v) (W':=w) ?_ ⟨.pure (.sc _ .nil) .nil,Below.refl _ _⟩;simp only[execOp,a,e,f];rw[Sem.run_bind,h w];rfl
end
section
variable {P:Program} {w:World} {f:Field} {fs:List Field} {d:Nat} {xs ys:Array Value} {r:Bool}
def wb:(Op.eqFields d xs ys []).run P w=.ok true w:=rfl
def sD{k:IntKind}{m n:Int}(b:(f.name== "_")=false)(j:P.underlying f.type=some (.int k))(a:eN P f.type=true)(g:xs[f.offset]? =some (.int k m))(i:ys[f.offset]? =some (.int k n))(K:(Op.eqFields (d+1) xs ys fs).run P w=.ok r w):(Op.eqFields (d+1) xs ys (f::fs)).run P w=.ok (m==n&&r) w:=by
 have c:f.name≠ "_" :=λh=>by rw[h]at b;exact absurd b I
 simp only[Op.eqFields,c,ne_eq,not_false_eq_true,if_true,Sem.run_bind];rw[gl a g];simp only[Result.andThen_ok];rw[gl a i];simp only[Result.andThen_ok];rw[run_equalIn_int w d _ k k m n j];simp only[Result.andThen_ok];cases e:m==n
 ·simp
 simp only[Bool.not_true,RM,if_false,Ri];exact K
def AK{a b:ByteArray}(e:(f.name== "_")=false)(l:P.underlying f.type=some .string)(c:eN P f.type=true)(j:xs[f.offset]? =some (.string a))(k:ys[f.offset]? =some (.string b))(K:(Op.eqFields (d+1) xs ys fs).run P w=.ok r w):(Op.eqFields (d+1) xs ys (f::fs)).run P w=.ok (a==b&&r) w:=by
 have g:f.name≠ "_" :=λh=>by rw[h]at e;exact absurd e I
 rw[beq_toListBytes];simp only[Op.eqFields,g,ne_eq,not_false_eq_true,if_true,Sem.run_bind];rw[gl c j];simp only[Result.andThen_ok];rw[gl c k];simp only[Result.andThen_ok];rw[run_equalIn_string w d _ a b l];simp only[Result.andThen_ok];cases i:a.toList==b.toList
 ·simp
 simp only[Bool.not_true,RM,if_false,Ri];exact K
end
def yj(u v:V):Bool:=decide (u.t=v.t)&&(decide (u.n=v.n)&&decide (u.s=v.s))
def uG{u v:V}:yj u v=true↔u=v:=by
 obtain⟨a,b,c⟩:=u;obtain⟨d,e,f⟩:=v;simp[yj]
def Ek{x y:Operand}(u v:V)(w:World):(do eqGuard .eql 34 x y (.agg [.int .i64 u.t,.int .i64 u.n,.string u.s].toArray) (.agg [.int .i64 v.t,.int .i64 v.n,.string v.s].toArray);binOp .eql 34 (.agg [.int .i64 u.t,.int .i64 u.n,.string u.s].toArray) (.agg [.int .i64 v.t,.int .i64 v.n,.string v.s].toArray):Sem Value).run prog w=.ok (.bool (yj u v)) w:=by
 have A:prog.underlying 34=some (.struct (prog.fieldsOf 34)):=U
 have B:prog.stoodInHeld 34=false:=U
 obtain⟨f,g,h,z,l,m,o,e,p,q,r,i,C,D,E,j⟩:∃f g h:Field,(prog.fieldsOf 34).toList=[f,g,h]/\(f.name== "_")=false/\prog.underlying f.type=some (.int .i64)/\eN prog f.type=true/\f.offset=0/\(g.name== "_")=false/\prog.underlying g.type=some (.int .i64)/\eN prog g.type=true/\g.offset=1/\(h.name== "_")=false/\prog.underlying h.type=some .string/\eN prog h.type=true/\h.offset=2:=⟨(prog.fieldsOf 34)[0]!,(prog.fieldsOf 34)[1]!,(prog.fieldsOf 34)[2]!,U,U,U,U,U,U,U,U,U,U,U,U,U⟩;rw[Sem.run_bind,run_eqGuard_agg _ _ _ _ _ _ _ U];simp only[Result.andThen_ok];rw[run_eql_struct,show(10000:Nat)=9999+1 from rfl,run_equalIn_agg w 9999 _ _ _ A B,z,sD (d:=9998) l m o (by rw[e];rfl) (by rw[e];rfl) (sD (d:=9998) p q r (by rw[i];rfl) (by rw[i];rfl) (AK (d:=9998) C D E (by rw[j];rfl) (by rw[j];rfl) wb))];simp only[Result.andThen_ok];have k:(u.s==v.s)=decide (u.s=v.s):=(beq_toListBytes u.s v.s).trans (aM u.s v.s);rw[k];have c:∀a b:Int,(a==b)=decide (a=b):=λa b=>by cases h:decide (a=b)<;>simp_all
 rw[c,c,Bool.and_true];rfl
def pa{α:Type}(p:α->α->Bool)(l m:List α):Bool:=decide (l.length=m.length)&&(l.zip m).all λq=>p q.1 q.2
def kO{p:α->α->Bool}{l m:List α}(h:¬l.length=m.length):pa p l m=false:=by unfold pa;rw[decide_eq_false h];rfl
def nz{p:α->α->Bool}{l m:List α}{i:Nat}{a b:α}(c:l[i]? =some a)(d:m[i]? =some b)(h:p a b=false):pa p l m=false:=by
 unfold pa;rw[RV];refine .inr (Bool.eq_false_iff.2 λe=>?_);have:=Qt.1 e (a,b) (Qo (i:=i) (by rw[SI];exact⟨c,d⟩));rw[h]at this;cases this
def jj{p:α->α->Bool}{l m:List α}{i:Nat}{a b:α}(c:l[i]? =some a)(d:m[i]? =some b)(h:p a b=true)(f:((l.zip m).take i).all (λq=>p q.1 q.2)=true):((l.zip m).take (i+1)).all (λq=>p q.1 q.2)=true:=by
 have e:(l.zip m)[i]? =some (a,b):=by rw[SI];exact⟨c,d⟩
 rw[iP e,Se,f];simp[h]
def kP{p:α->α->Bool}{l m:List α}{i:Nat}(hl:l.length=m.length)(a:l.length<=i)(h:((l.zip m).take i).all (λq=>p q.1 q.2)=true):pa p l m=true:=by
 unfold pa;rw[decide_eq_true hl,Ri];rwa[QU (by rw[List.length_zip];omega)]at h
def jE(a b:Trm):Bool:=if(decide (¬a.v=b9)||decide (¬b.v=b9))=true then decide (a.v=b.v)else yj a.c b.c
def la(a b:Atm):Bool:=(decide (a.r=b.r)&&(a.ng==b.ng))&&pa jE a.ts b.ts
def lb(a b:Cpr):Bool:=(decide (a.op=b.op)&&jE a.l b.l)&&jE a.r b.r
def gD(a b:Cq):Bool:=pa la a.al b.al&&pa lb a.cl b.cl
def iu(a b:List ByteArray×List Cq):Bool:=pa (λx y=>decide (x=y)) a.1 b.1&&pa gD a.2 b.2
