import Derived.Test.YtmhcanmapkenbaaGreatDoorA24
set_option maxRecDepth 100000
set_option maxHeartbeats 1000000
set_option linter.defProp false
open Go.Proofs.Tryz
namespace Go.Proofs.YtmhcanmapkenbaaGreatDoor
open Go.RowKit
open Lib renaming hid→J
section
variable {c:UInt8} {r l:List UInt8} {k n:Nat}
def M6(hl:l=c::r)(a:(jV l).1=k)(b:(jV l).2=n)(h:cO c=true):k=1/\n=(l.takeWhile j7).length:=by
 subst hl;have e:jV (c::r)=(1,1+(r.takeWhile j7).length):=if_pos h;rw[e]at a b;have d:j7 c=true:=by unfold j7;rw[h];rfl
 rw[SG,d];exact⟨a.symm,by rw[<-b];simp;omega⟩
def M7(hl:l=c::r)(a:(jV l).1=k)(b:(jV l).2=n)(h:¬cO c=true)(d:(decide (c.toNat=45)||gw c)=true):k=2/\n=pw l:=by
 subst hl;have e:jV (c::r)=(2,pw (c::r)):=(if_neg h).trans (if_pos (by rw[TR];exact d));rw[e]at a b;exact⟨a.symm,b.symm⟩
def M8{P:Prop}(a:(decide (c.toNat=45)||gw c)=false)(h:(gw c||decide (c.toNat=45))=true):P:=by rw[TR,a]at h;cases h
def M9(hl:l=c::r)(a:(jV l).1=k)(b:(jV l).2=n)(h:¬cO c=true)(d:(decide (c.toNat=45)||gw c)=false)(f:c.toNat=39):k=3/\n=iq 1 r:=by
 subst hl;have e:jV (c::r)=(3,iq 1 r):=(if_neg h).trans ((if_neg (M8 d)).trans (if_pos f));rw[e]at a b;exact⟨a.symm,b.symm⟩
def O1(hl:l=c::r)(a:(jV l).1=k)(b:(jV l).2=n)(h:¬cO c=true)(d:(decide (c.toNat=45)||gw c)=false)(f:¬c.toNat=39)(g:xT c=true):k=4/\n=1:=by
 subst hl;have e:jV (c::r)=(4,1):=(if_neg h).trans ((if_neg (M8 d)).trans ((if_neg f).trans (if_pos g)));rw[e]at a b;exact⟨a.symm,b.symm⟩
def J8(hl:l=c::r)(h:¬cO c=true)(a:(decide (c.toNat=45)||gw c)=false)(b:¬c.toNat=39)(d:xT c=false):jV l=if c.toNat=60 then(if FO r=true then(4,2)else(4,1))else if c.toNat=33/\FO r=true then(4,2)else(0,0):=by
 subst hl;exact(if_neg h).trans ((if_neg (M8 a)).trans ((if_neg b).trans (if_neg (by rw[d];exact Qk))))
end
def yl(s:ByteArray)(i:Nat):FO (s.data.toList.drop i)=(decide (i<s.size)&&decide ((bj s i).toNat=61)):=by
 by_cases h:i<s.size
 ·rw[cW h,decide_eq_true h];rfl
 rw[Q1 (by rw[<-dT];omega),decide_eq_false h];rfl
def fj:nY prog 96=some (140,2,24):=U
def cz:ic prog 96=some (140,2):=U
def LE:mY prog 140=some ([(0,1),(1,1)],[.int .i64 0,.string (⟨#[]⟩)]):=U
def eK:gn prog 140=some [.int .i64 0,.string (⟨#[]⟩)]:=U
def Gk(s:ByteArray)(hs:s.size<=1073741824):Ct 43 [sT s] (pT (dO (s.size+1) s.data.toList)):=by
 refine Ct.of (n:=140) func43 Z Z Z Z Z λw0 G0=>?_
 refine M<|C 0 (t:=.sl []) Z (cA (.inr Z) dn)<|H 1 Z<|M<|fq (k:=0) (e:=140) (sz:=2) (rs':=[some ⟨140,2,[].map Tok.tree,false⟩]) (.inr Z) Z Z Z Z Z<|K<|Y<|N 1 Z<|aG<|bn (λn_ V=>∃(i:Nat) (c:List Tok),(i<=s.size/\c.length<=i/\∃f,s.size-i<f/\(dO f (s.data.toList.drop i)).map (c++ ·)=dO (s.size+1) s.data.toList)/\n_=s.size-i/\V=⟨140,[(0,sT s),(4,.own 0),(5,nI i)],[],[some ⟨140,2,c.map Tok.tree,false⟩]⟩) 0 1 ⟨0,[],⟨QF _,Qi _,s.size+1,O0,by cases h:dO (s.size+1) s.data.toList<;>simp[h]⟩,Z,Z⟩ .rf ?_;rintro n_ V ⟨i,c,⟨hi,b4,a⟩,rfl,rfl⟩;refine Y<|M<|C 2 (t:=nI s.size) Z (dJ Z aR Z)<|aB 0 Z Z Zy (D (iL i s.size))<|K<|an Z (λw=>?_) (λw=>?_)
 ·refine X<|aG<|Y ?_;obtain⟨f,hf,a⟩:=a;have a9:∃f,s.size-i<f/\(dO f (s.data.toList.drop i)).map (c++ ·)=dO (s.size+1) s.data.toList:=⟨f,hf,a⟩;obtain⟨f,rfl⟩:∃g,f=g+1:=⟨f-1,O0⟩;have x:=cW w;rw[x,dO]at a;obtain⟨k,u⟩:∃k,(jV (s.data.toList.drop i)).1=k:=⟨_,Z⟩;obtain⟨n,o⟩:∃n,(jV (s.data.toList.drop i)).2=n:=⟨_,Z⟩;have v:i+n<=s.size:=FV w o;refine am<|C 2 (t:=.sc (.int .u8 (((bj s i).toNat:Nat):Int))) Z (bM (j:=i) Z aR Z Z Z (bB w))<|H 1 Z<|N 2 Z<|N 1 Z<|Y<|aG<|M<|aB 1 Z Z Zy (D (e9 ((bj s i).toNat) 32))<|H 1 Z<|an Z (λO=>?_) (λO=>?_)
  ·rw[if_neg O0,if_pos O]at a;refine M<|bA 1 (i+1) Z Z Zy O0<|H 1 Z<|bh<|⟨_,_,?_,⟨i+1,c,?_,Z,Z⟩,.rf⟩
   ·omega
   first|exact⟨O0,O0,f,O0,a⟩|exact⟨O0,by simp;omega,f,O0,eE a⟩
  have b0:=O;refine M<|aB 1 Z Z Zy (D (e9 ((bj s i).toNat) 35))<|H 1 Z<|an Z (λP=>?_) (λP=>?_)
  ·have J:=P;refine Y<|cQ 0 (bs':=[]) (rs':=[none]) Z Z Z Z<|bO 3 Z<|aO<|⟨.inr Z,_,.cons Z (.cons Z .nil),(sf a9 (.inr ⟨w,J⟩)),dh _⟩
  have J:=P;rw[if_neg J,if_neg b0,<-x,u,o]at a;refine M<|C 1 Z (aJ Z (sG _) Z Z)<|H 1 Z<|aF Z (λQ=>?_) (λQ=>?_)
  ·have y:=Q;obtain⟨d,U⟩:=M6 x u o y;refine N 1 Z<|aG<|bn (λn_ V=>∃(m:Nat),(m<=s.size/\i+((s.data.toList.drop i).takeWhile j7).length=m+((s.data.toList.drop m).takeWhile j7).length)/\n_=s.size-m/\V=⟨140,[(0,sT s),(4,.own 0),(5,nI i),(6,.sc (.int .u8 (((bj s i).toNat:Nat):Int))),(7,nI m),(8,iT 1)],[],[some ⟨140,2,c.map Tok.tree,false⟩]⟩) 0 1 ⟨i,⟨hi,Z⟩,Z,Z⟩ .rf ?_;rintro n_ V ⟨m,⟨hm,I⟩,rfl,rfl⟩;refine Y<|M<|C 2 (t:=nI s.size) Z (dJ Z aR Z)<|aB 0 Z Z Zy (D (iL m s.size))<|ay 1 Z<|B Z Z Z Z (λb=>E Z Z)<|B Z Z Z Z (λb=>E Z Z)<|B (t:=.sc (.int .u8 (((bj s m).toNat:Nat):Int))) Z Z Z Z (λb=>bM (j:=m) Z aR (if_pos b) (if_pos b) Z (bB (by first|omega|(have r:=b;simp only[Qh,QD,decide_eq_true_eq,decide_eq_false_iff_not]at r;omega))))<|B Z Z Z Z (λb=>aJ Z (sG _) (dm (if_pos b) Z) Z)<|B Z Z Z Z (λb=>E Z (if_pos b))<|ci Z Z Z Z (λb=>E Z Z)<|ci Z Z Z Z (λb=>E Z Z)<|ci (t:=.sc (.int .u8 (((bj s m).toNat:Nat):Int))) Z Z Z Z (λb=>bM (j:=m) Z aR (if_pos b) (if_pos b) Z (bB (by first|omega|(have r:=b;simp only[Qh,QD,decide_eq_true_eq,decide_eq_false_iff_not]at r;omega))))<|ci Z Z Z Z (λb=>aJ Z (pC _) (dm (if_pos b) Z) Z)<|B (t:=bT ((cO (bj s m))||(gw (bj s m)))) Z Z Z Z (λb=>fM Z (if_pos b) (λr=>(D (by rw[r];rfl))) (λr=>(if_pos ⟨b,r⟩).trans (D (by rw[r];rfl))))<|B Z Z Z Z (λb=>E Z (if_pos b))<|ci Z Z Z Z (λb=>E Z Z)<|ci Z Z Z Z (λb=>E Z Z)<|ci (t:=.sc (.int .u8 (((bj s m).toNat:Nat):Int))) Z Z Z Z (λb=>bM (j:=m) Z aR (if_pos b) (if_pos b) Z (bB (by first|omega|(have r:=b;simp only[Qh,QD,decide_eq_true_eq,decide_eq_false_iff_not]at r;omega))))<|ci Z Z Z Z (λb=>av (aL Z (if_pos b) Z (λ_=>rfl)) (D (e9 ((bj s m).toNat) 95)))<|B (t:=bT (((cO (bj s m))||(gw (bj s m)))||(decide ((bj s m).toNat=95)))) Z Z Z Z (λb=>fM Z (if_pos b) (λr=>(D (by rw[r];rfl))) (λr=>(if_pos ⟨b,r⟩).trans (D (by rw[r];rfl))))<|C 0 (t:=bT ((decide (m<s.size))&&(j7 (bj s m)))) Z (av (t:=bT ((decide (m<s.size))&&(((cO (bj s m))||(gw (bj s m)))||(decide ((bj s m).toNat=95))))) (bR Z Z Z Z) (D Z))<|K<|aF Z (λR=>?_) (λR=>?_)
   ·obtain⟨b3,hd⟩:=jd R;refine X<|aG<|am<|bA 1 (m+1) Z Z Zy O0<|H 1 Z<|⟨_,_,?_,⟨m+1,?_,Z,Z⟩,.rf⟩
    ·omega
    exact⟨O0,qz I (bB b3) hd⟩
   have b5:=vR I (oC R);refine bh<|Y<|Y<|jM (S':=⟨140,[(0,sT s),(4,.own 0),(5,nI i),(7,nI (i+n)),(8,nI k)],[],[some ⟨140,2,c.map Tok.tree,false⟩]⟩) 0 1 ⟨Z,Z,Z,.cons Z Z (.cons Z Z (.cons Z Z (.cons (jc O0) Z (.cons (by rw[d];rfl) Z .nil)))),Z⟩<|am<|aB 2 Z Z Zy (D (e9 (i+n) i))<|K<|an Z (λb1=>?_) (λb1=>?_)
   ·rw[if_pos O0]at a;refine M<|C 0 (t:=.sl []) Z (cA (.inr Z) dn)<|H 1 Z<|aO<|⟨.inr Z,_,.cons Z (.cons Z .nil),(iH a),dh _⟩
   rw[if_neg O0,RK]at a;refine X<|M<|C 5 (t:=sT (bb ((s.data.toList.drop i).take n))) Z (av (dZ (l:=i) (h:=i+n) Z aR Z ⟨_,Z⟩ ⟨_,Z⟩ O0 O0) (cT (iG s i n v)))<|C 1 (t:=.sl [.agg [nI k,sT (bb ((s.data.toList.drop i).take n))]]) Z (aQ Z cz eK Z I0 I0 Z Z Z Z Z)<|bD (bs':=[]) (rs':=[some ⟨140,2,(c++[(⟨k,bb ((s.data.toList.drop i).take n)⟩:Tok)]).map Tok.tree,false⟩]) Z Z Z Z fj Z Z Z Z (by intro e p;simp only[Qw,QH,or_false]at p;subst p;rfl) (AllC.lit Z) (AllC.lit Z) (by simp only[Qr,Qn,QC];omega) Z Z Z (by rw[Qz];rfl)<|H 1 Z<|bO 2 Z<|⟨_,_,?_,⟨i+n,(c++[(⟨k,bb ((s.data.toList.drop i).take n)⟩:Tok)]),?_,Z,Z⟩,.rf⟩
   ·omega
   first|exact⟨O0,O0,f,O0,a⟩|exact⟨O0,by simp;omega,f,O0,eE a⟩
  have y:¬cO (bj s i)=true:=by rw[Q];exact Qk
  refine M<|aB 1 Z Z Zy (D (e9 ((bj s i).toNat) 45))<|ay 1 Z<|B Z Z Z Z (λb=>E Z Z)<|B Z Z Z Z (λb=>aJ Z (pC _) (dm (if_pos b) Z) Z)<|C 0 Z (eo Z Z Z Z)<|H 1 Z<|aF Z (λS=>?_) (λS=>?_)
  ·obtain⟨d,U⟩:=M7 x u o y S;refine am<|C 2 Z (aJ Z (AM s i hs w) Z Z)<|H 2 Z<|Y<|Y<|jM (S':=⟨140,[(0,sT s),(4,.own 0),(5,nI i),(7,nI (i+n)),(8,nI k)],[],[some ⟨140,2,c.map Tok.tree,false⟩]⟩) 0 1 ⟨Z,Z,Z,.cons Z Z (.cons Z Z (.cons Z Z (.cons (jc O0) Z (.cons (by rw[d];rfl) Z .nil)))),Z⟩<|am<|aB 2 Z Z Zy (D (e9 (i+n) i))<|K<|an Z (λb2=>?_) (λb2=>?_)
   ·rw[if_pos O0]at a;refine M<|C 0 (t:=.sl []) Z (cA (.inr Z) dn)<|H 1 Z<|aO<|⟨.inr Z,_,.cons Z (.cons Z .nil),(iH a),dh _⟩
   rw[if_neg O0,RK]at a;refine X<|M<|C 5 (t:=sT (bb ((s.data.toList.drop i).take n))) Z (av (dZ (l:=i) (h:=i+n) Z aR Z ⟨_,Z⟩ ⟨_,Z⟩ O0 O0) (cT (iG s i n v)))<|C 1 (t:=.sl [.agg [nI k,sT (bb ((s.data.toList.drop i).take n))]]) Z (aQ Z cz eK Z I0 I0 Z Z Z Z Z)<|bD (bs':=[]) (rs':=[some ⟨140,2,(c++[(⟨k,bb ((s.data.toList.drop i).take n)⟩:Tok)]).map Tok.tree,false⟩]) Z Z Z Z fj Z Z Z Z (by intro e p;simp only[Qw,QH,or_false]at p;subst p;rfl) (AllC.lit Z) (AllC.lit Z) (by simp only[Qr,Qn,QC];omega) Z Z Z (by rw[Qz];rfl)<|H 1 Z<|bO 2 Z<|⟨_,_,?_,⟨i+n,(c++[(⟨k,bb ((s.data.toList.drop i).take n)⟩:Tok)]),?_,Z,Z⟩,.rf⟩
   ·omega
   first|exact⟨O0,O0,f,O0,a⟩|exact⟨O0,by simp;omega,f,O0,eE a⟩
  have L:=S;refine M<|aB 1 Z Z Zy (D (e9 ((bj s i).toNat) 39))<|H 1 Z<|an Z (λT=>?_) (λT=>?_)
  ·obtain⟨d,U⟩:=M9 x u o y L T;refine am<|C 2 Z (aJ Z (AL s i hs w) Z Z)<|H 2 Z<|Y<|Y<|jM (S':=⟨140,[(0,sT s),(4,.own 0),(5,nI i),(7,nI (i+n)),(8,nI k)],[],[some ⟨140,2,c.map Tok.tree,false⟩]⟩) 0 1 ⟨Z,Z,Z,.cons Z Z (.cons Z Z (.cons Z Z (.cons (jc O0) Z (.cons (by rw[d];rfl) Z .nil)))),Z⟩<|am<|aB 2 Z Z Zy (D (e9 (i+n) i))<|K<|an Z (λa0=>?_) (λa0=>?_)
   ·rw[if_pos O0]at a;refine M<|C 0 (t:=.sl []) Z (cA (.inr Z) dn)<|H 1 Z<|aO<|⟨.inr Z,_,.cons Z (.cons Z .nil),(iH a),dh _⟩
   rw[if_neg O0,RK]at a;refine X<|M<|C 5 (t:=sT (bb ((s.data.toList.drop i).take n))) Z (av (dZ (l:=i) (h:=i+n) Z aR Z ⟨_,Z⟩ ⟨_,Z⟩ O0 O0) (cT (iG s i n v)))<|C 1 (t:=.sl [.agg [nI k,sT (bb ((s.data.toList.drop i).take n))]]) Z (aQ Z cz eK Z I0 I0 Z Z Z Z Z)<|bD (bs':=[]) (rs':=[some ⟨140,2,(c++[(⟨k,bb ((s.data.toList.drop i).take n)⟩:Tok)]).map Tok.tree,false⟩]) Z Z Z Z fj Z Z Z Z (by intro e p;simp only[Qw,QH,or_false]at p;subst p;rfl) (AllC.lit Z) (AllC.lit Z) (by simp only[Qr,Qn,QC];omega) Z Z Z (by rw[Qz];rfl)<|H 1 Z<|bO 2 Z<|⟨_,_,?_,⟨i+n,(c++[(⟨k,bb ((s.data.toList.drop i).take n)⟩:Tok)]),?_,Z,Z⟩,.rf⟩
   ·omega
   first|exact⟨O0,O0,f,O0,a⟩|exact⟨O0,by simp;omega,f,O0,eE a⟩
  have W:=T;refine M<|aB 1 Z Z Zy (D (e9 ((bj s i).toNat) 40))<|ay 1 Z<|B Z Z Z Z (λb=>E Z Z)<|B Z Z Z Z (λb=>av (aL Z (if_pos b) Z (λ_=>rfl)) (D (e9 ((bj s i).toNat) 41)))<|C 0 Z (eo Z Z Z Z)<|ay 1 Z<|B Z Z Z Z (λb=>E Z Z)<|B Z Z Z Z (λb=>av (aL Z (if_pos b) Z (λ_=>rfl)) (D (e9 ((bj s i).toNat) 44)))<|C 0 Z (eo Z Z Z Z)<|ay 1 Z<|B Z Z Z Z (λb=>E Z Z)<|B Z Z Z Z (λb=>av (aL Z (if_pos b) Z (λ_=>rfl)) (D (e9 ((bj s i).toNat) 58)))<|C 0 Z (eo Z Z Z Z)<|ay 1 Z<|B Z Z Z Z (λb=>E Z Z)<|B Z Z Z Z (λb=>av (aL Z (if_pos b) Z (λ_=>rfl)) (D (e9 ((bj s i).toNat) 61)))<|C 0 Z (eo Z Z Z Z)<|C 0 (t:=bT (xT (bj s i))) Z (av (b7 Z Z) (D Z))<|K<|aF Z (λz=>?_) (λz=>?_)
  ·obtain⟨d,U⟩:=O1 x u o y L W z;refine am<|bA 1 (i+1) Z Z Zy O0<|H 2 Z<|Y<|Y<|jM (S':=⟨140,[(0,sT s),(4,.own 0),(5,nI i),(7,nI (i+n)),(8,nI k)],[],[some ⟨140,2,c.map Tok.tree,false⟩]⟩) 0 1 ⟨Z,Z,Z,.cons Z Z (.cons Z Z (.cons Z Z (.cons (jc O0) Z (.cons (by rw[d];rfl) Z .nil)))),Z⟩<|am<|aB 2 Z Z Zy (D (e9 (i+n) i))<|K<|an Z (λa1=>?_) (λa1=>?_)
   ·rw[if_pos O0]at a;refine M<|C 0 (t:=.sl []) Z (cA (.inr Z) dn)<|H 1 Z<|aO<|⟨.inr Z,_,.cons Z (.cons Z .nil),(iH a),dh _⟩
   rw[if_neg O0,RK]at a;refine X<|M<|C 5 (t:=sT (bb ((s.data.toList.drop i).take n))) Z (av (dZ (l:=i) (h:=i+n) Z aR Z ⟨_,Z⟩ ⟨_,Z⟩ O0 O0) (cT (iG s i n v)))<|C 1 (t:=.sl [.agg [nI k,sT (bb ((s.data.toList.drop i).take n))]]) Z (aQ Z cz eK Z I0 I0 Z Z Z Z Z)<|bD (bs':=[]) (rs':=[some ⟨140,2,(c++[(⟨k,bb ((s.data.toList.drop i).take n)⟩:Tok)]).map Tok.tree,false⟩]) Z Z Z Z fj Z Z Z Z (by intro e p;simp only[Qw,QH,or_false]at p;subst p;rfl) (AllC.lit Z) (AllC.lit Z) (by simp only[Qr,Qn,QC];omega) Z Z Z (by rw[Qz];rfl)<|H 1 Z<|bO 2 Z<|⟨_,_,?_,⟨i+n,(c++[(⟨k,bb ((s.data.toList.drop i).take n)⟩:Tok)]),?_,Z,Z⟩,.rf⟩
   ·omega
   first|exact⟨O0,O0,f,O0,a⟩|exact⟨O0,by simp;omega,f,O0,eE a⟩
  have q:=J8 x y L W z;refine M<|aB 1 Z Z Zy (D (e9 ((bj s i).toNat) 60))<|H 1 Z<|an Z (λA=>?_) (λA=>?_)
  ·rw[if_pos A]at q;refine M<|bA 1 (i+1) Z Z Zy O0<|H 2 Z<|M<|C 2 (t:=nI s.size) Z (dJ Z aR Z)<|aB 0 Z Z Zy (D (iL (i+1) s.size))<|ay 1 Z<|B Z Z Z Z (λb=>E Z Z)<|B Z Z Z Z (λb=>E Z Z)<|B (t:=.sc (.int .u8 (((bj s (i+1)).toNat:Nat):Int))) Z Z Z Z (λb=>bM (j:=i+1) Z aR (if_pos b) (if_pos b) Z (bB (by first|omega|(have r:=b;simp only[Qh,QD,decide_eq_true_eq,decide_eq_false_iff_not]at r;omega))))<|B Z Z Z Z (λb=>av (aL Z (if_pos b) Z (λ_=>rfl)) (D (e9 ((bj s (i+1)).toNat) 61)))<|C 0 (t:=bT (FO (s.data.toList.drop (i+1)))) Z (av (t:=bT ((decide (i+1<s.size))&&(decide ((bj s (i+1)).toNat=61)))) (bR Z Z Z Z) (D (yl s _).symm))<|K<|aF Z (λF=>?_) (λF=>?_)
   ·rw[if_pos F]at q;rw[q]at u o;simp only at u o;have d:=u.symm;refine am<|bA 1 ((i+1)+1) Z Z Zy O0<|H 1 Z<|Y<|Y<|jM (S':=⟨140,[(0,sT s),(4,.own 0),(5,nI i),(7,nI (i+n)),(8,nI k)],[],[some ⟨140,2,c.map Tok.tree,false⟩]⟩) 0 1 ⟨Z,Z,Z,.cons Z Z (.cons Z Z (.cons Z Z (.cons (jc O0) Z (.cons (by rw[d];rfl) Z .nil)))),Z⟩<|am<|aB 2 Z Z Zy (D (e9 (i+n) i))<|K<|an Z (λa2=>?_) (λa2=>?_)
    ·rw[if_pos O0]at a;refine M<|C 0 (t:=.sl []) Z (cA (.inr Z) dn)<|H 1 Z<|aO<|⟨.inr Z,_,.cons Z (.cons Z .nil),(iH a),dh _⟩
    rw[if_neg O0,RK]at a;refine X<|M<|C 5 (t:=sT (bb ((s.data.toList.drop i).take n))) Z (av (dZ (l:=i) (h:=i+n) Z aR Z ⟨_,Z⟩ ⟨_,Z⟩ O0 O0) (cT (iG s i n v)))<|C 1 (t:=.sl [.agg [nI k,sT (bb ((s.data.toList.drop i).take n))]]) Z (aQ Z cz eK Z I0 I0 Z Z Z Z Z)<|bD (bs':=[]) (rs':=[some ⟨140,2,(c++[(⟨k,bb ((s.data.toList.drop i).take n)⟩:Tok)]).map Tok.tree,false⟩]) Z Z Z Z fj Z Z Z Z (by intro e p;simp only[Qw,QH,or_false]at p;subst p;rfl) (AllC.lit Z) (AllC.lit Z) (by simp only[Qr,Qn,QC];omega) Z Z Z (by rw[Qz];rfl)<|H 1 Z<|bO 2 Z<|⟨_,_,?_,⟨i+n,(c++[(⟨k,bb ((s.data.toList.drop i).take n)⟩:Tok)]),?_,Z,Z⟩,.rf⟩
    ·omega
    first|exact⟨O0,O0,f,O0,a⟩|exact⟨O0,by simp;omega,f,O0,eE a⟩
   rw[if_neg (by rw[F];exact Qk)]at q;rw[q]at u o;simp only at u o;have d:=u.symm;refine X<|Y<|Y<|jM (S':=⟨140,[(0,sT s),(4,.own 0),(5,nI i),(7,nI (i+n)),(8,nI k)],[],[some ⟨140,2,c.map Tok.tree,false⟩]⟩) 0 1 ⟨Z,Z,Z,.cons Z Z (.cons Z Z (.cons Z Z (.cons (jc O0) Z (.cons (by rw[d];rfl) Z .nil)))),Z⟩<|am<|aB 2 Z Z Zy (D (e9 (i+n) i))<|K<|an Z (λa3=>?_) (λa3=>?_)
   ·rw[if_pos O0]at a;refine M<|C 0 (t:=.sl []) Z (cA (.inr Z) dn)<|H 1 Z<|aO<|⟨.inr Z,_,.cons Z (.cons Z .nil),(iH a),dh _⟩
   rw[if_neg O0,RK]at a;refine X<|M<|C 5 (t:=sT (bb ((s.data.toList.drop i).take n))) Z (av (dZ (l:=i) (h:=i+n) Z aR Z ⟨_,Z⟩ ⟨_,Z⟩ O0 O0) (cT (iG s i n v)))<|C 1 (t:=.sl [.agg [nI k,sT (bb ((s.data.toList.drop i).take n))]]) Z (aQ Z cz eK Z I0 I0 Z Z Z Z Z)<|bD (bs':=[]) (rs':=[some ⟨140,2,(c++[(⟨k,bb ((s.data.toList.drop i).take n)⟩:Tok)]).map Tok.tree,false⟩]) Z Z Z Z fj Z Z Z Z (by intro e p;simp only[Qw,QH,or_false]at p;subst p;rfl) (AllC.lit Z) (AllC.lit Z) (by simp only[Qr,Qn,QC];omega) Z Z Z (by rw[Qz];rfl)<|H 1 Z<|bO 2 Z<|⟨_,_,?_,⟨i+n,(c++[(⟨k,bb ((s.data.toList.drop i).take n)⟩:Tok)]),?_,Z,Z⟩,.rf⟩
   ·omega
   first|exact⟨O0,O0,f,O0,a⟩|exact⟨O0,by simp;omega,f,O0,eE a⟩
  rw[if_neg A]at q;refine M<|aB 1 Z Z Zy (D (e9 ((bj s i).toNat) 33))<|ay 1 Z<|B Z Z Z Z (λb=>E Z Z)<|B (t:=nI (i+1)) Z Z Z Z (λb=>av (aL Z (if_pos b) Z (λ_=>rfl)) (jy O0))<|B Z Z Z Z (λb=>E Z Z)<|B (t:=nI s.size) Z Z Z Z (λb=>dJ Z aR (if_pos b))<|B Z Z Z Z (λb=>av (aL Z (if_pos b) (if_pos b) (λ_=>rfl)) (D (iL (i+1) s.size)))<|C 0 Z (bR Z Z Z Z)<|ay 1 Z<|B Z Z Z Z (λb=>E Z Z)<|B Z Z Z Z (λb=>E Z Z)<|B (t:=nI (i+1)) Z Z Z Z (λb=>av (aL Z (if_pos b) Z (λ_=>rfl)) (jy O0))<|B (t:=.sc (.int .u8 (((bj s (i+1)).toNat:Nat):Int))) Z Z Z Z (λb=>bM (j:=i+1) Z aR (if_pos b) (if_pos b) Z (bB (by first|omega|(have r:=b;simp only[Qh,QD,decide_eq_true_eq,decide_eq_false_iff_not]at r;omega))))<|B Z Z Z Z (λb=>av (aL Z (if_pos b) Z (λ_=>rfl)) (D (e9 ((bj s (i+1)).toNat) 61)))<|C 0 (t:=bT ((decide ((bj s i).toNat=33))&&(FO (s.data.toList.drop (i+1))))) Z (av (t:=bT (((decide ((bj s i).toNat=33))&&(decide (i+1<s.size)))&&(decide ((bj s (i+1)).toNat=61)))) (bR Z Z Z Z) (D (by rw[yl,Bool.and_assoc])))<|H 1 Z<|aF Z (λG=>?_) (λG=>?_)
  ·rw[if_pos (FU G)]at q;rw[q]at u o;simp only at u o;have d:=u.symm;refine am<|bA 1 (i+2) Z Z Zy O0<|H 2 Z<|Y<|Y<|jM (S':=⟨140,[(0,sT s),(4,.own 0),(5,nI i),(7,nI (i+n)),(8,nI k)],[],[some ⟨140,2,c.map Tok.tree,false⟩]⟩) 0 1 ⟨Z,Z,Z,.cons Z Z (.cons Z Z (.cons Z Z (.cons (jc O0) Z (.cons (by rw[d];rfl) Z .nil)))),Z⟩<|am<|aB 2 Z Z Zy (D (e9 (i+n) i))<|K<|an Z (λa4=>?_) (λa4=>?_)
   ·rw[if_pos O0]at a;refine M<|C 0 (t:=.sl []) Z (cA (.inr Z) dn)<|H 1 Z<|aO<|⟨.inr Z,_,.cons Z (.cons Z .nil),(iH a),dh _⟩
   rw[if_neg O0,RK]at a;refine X<|M<|C 5 (t:=sT (bb ((s.data.toList.drop i).take n))) Z (av (dZ (l:=i) (h:=i+n) Z aR Z ⟨_,Z⟩ ⟨_,Z⟩ O0 O0) (cT (iG s i n v)))<|C 1 (t:=.sl [.agg [nI k,sT (bb ((s.data.toList.drop i).take n))]]) Z (aQ Z cz eK Z I0 I0 Z Z Z Z Z)<|bD (bs':=[]) (rs':=[some ⟨140,2,(c++[(⟨k,bb ((s.data.toList.drop i).take n)⟩:Tok)]).map Tok.tree,false⟩]) Z Z Z Z fj Z Z Z Z (by intro e p;simp only[Qw,QH,or_false]at p;subst p;rfl) (AllC.lit Z) (AllC.lit Z) (by simp only[Qr,Qn,QC];omega) Z Z Z (by rw[Qz];rfl)<|H 1 Z<|bO 2 Z<|⟨_,_,?_,⟨i+n,(c++[(⟨k,bb ((s.data.toList.drop i).take n)⟩:Tok)]),?_,Z,Z⟩,.rf⟩
   ·omega
   first|exact⟨O0,O0,f,O0,a⟩|exact⟨O0,by simp;omega,f,O0,eE a⟩
  rw[if_neg (Av G)]at q;rw[q]at u o;simp only at u o;have d:=u.symm;refine X<|Y<|Y<|jM (S':=⟨140,[(0,sT s),(4,.own 0),(5,nI i),(7,nI (i+n)),(8,nI k)],[],[some ⟨140,2,c.map Tok.tree,false⟩]⟩) 0 1 ⟨Z,Z,Z,.cons Z Z (.cons Z Z (.cons Z Z (.cons (jc O0) Z (.cons (by rw[d];rfl) Z .nil)))),Z⟩<|am<|aB 2 Z Z Zy (D (e9 (i+n) i))<|K<|an Z (λa5=>?_) (λa5=>?_)
  ·rw[if_pos O0]at a;refine M<|C 0 (t:=.sl []) Z (cA (.inr Z) dn)<|H 1 Z<|aO<|⟨.inr Z,_,.cons Z (.cons Z .nil),(iH a),dh _⟩
  rw[if_neg O0,RK]at a;refine X<|M<|C 5 (t:=sT (bb ((s.data.toList.drop i).take n))) Z (av (dZ (l:=i) (h:=i+n) Z aR Z ⟨_,Z⟩ ⟨_,Z⟩ O0 O0) (cT (iG s i n v)))<|C 1 (t:=.sl [.agg [nI k,sT (bb ((s.data.toList.drop i).take n))]]) Z (aQ Z cz eK Z I0 I0 Z Z Z Z Z)<|bD (bs':=[]) (rs':=[some ⟨140,2,(c++[(⟨k,bb ((s.data.toList.drop i).take n)⟩:Tok)]).map Tok.tree,false⟩]) Z Z Z Z fj Z Z Z Z (by intro e p;simp only[Qw,QH,or_false]at p;subst p;rfl) (AllC.lit Z) (AllC.lit Z) (by simp only[Qr,Qn,QC];omega) Z Z Z (by rw[Qz];rfl)<|H 1 Z<|bO 2 Z<|⟨_,_,?_,⟨i+n,(c++[(⟨k,bb ((s.data.toList.drop i).take n)⟩:Tok)]),?_,Z,Z⟩,.rf⟩
  ·omega
  first|exact⟨O0,O0,f,O0,a⟩|exact⟨O0,by simp;omega,f,O0,eE a⟩
 refine bh<|Y<|cQ 0 (bs':=[]) (rs':=[none]) Z Z Z Z<|bO 3 Z<|aO<|⟨.inr Z,_,.cons Z (.cons Z .nil),(sf a (.inl O0)),dh _⟩
