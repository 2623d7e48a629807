import Derived.Test.YtmhcanmapkenbaaGreatDoorA18
set_option maxRecDepth 100000
set_option maxHeartbeats 4000000
set_option linter.defProp false
open Go.Proofs.Tryz
namespace Go.Proofs.YtmhcanmapkenbaaGreatDoor
open Go.RowKit
def Aw:nY prog 88=some (134,2,24):=U
def gS:ic prog 88=some (134,2):=U
def xW:mY prog 134=some ([(0,1),(1,1)],[.int .i64 0,.string (⟨#[]⟩)]):=U
def aR:prog.underlying 9=some .string:=U
def xX:gn prog 134=some [.int .i64 0,.string (⟨#[]⟩)]:=U
def pU(c:UInt8):Ct 134 [.sc (.int .u8 ((c.toNat:Nat):Int))] (bT (cO c)):=by
 refine Ct.of (n:=17) func134 Z Z Z Z Z λw0 G0=>?_
 refine N 1 Z<|M<|aB 1 Z Z Zy (D (Ls c.toNat 65))<|ay 1 Z<|B Z Z Z Z (λa=>E Z Z)<|B Z Z Z Z (λa=>av (aL Z (if_pos a) Z (λ_=>rfl)) (D (Me c.toNat 90)))<|C 0 Z (bR Z Z Z Z)<|ay 1 Z<|B Z Z Z Z (λa=>E Z Z)<|B Z Z Z Z (λa=>av (aL Z (if_pos a) Z (λ_=>rfl)) (D (Ls c.toNat 97)))<|B Z Z Z Z (λa=>E Z (if_pos a))<|ci Z Z Z Z (λa=>E Z Z)<|ci Z Z Z Z (λa=>av (aL Z (if_pos a) Z (λ_=>rfl)) (D (Me c.toNat 122)))<|B (t:=bT ((decide (97<=c.toNat))&&(decide (c.toNat<=122)))) Z Z Z Z (λa=>fM Z (if_pos a) (λb=>(if_pos ⟨a,b⟩).trans (D (by rw[b];rfl))) (λb=>(D (by rw[b];rfl))))<|C 0 Z (eo Z Z Z Z)<|H 1 Z<|aV ⟨Z,PN c,Z⟩ Z
def np(c:UInt8):Ct 135 [.sc (.int .u8 ((c.toNat:Nat):Int))] (bT (gw c)):=by
 refine Ct.of (n:=9) func135 Z Z Z Z Z λw0 G0=>?_
 refine N 1 Z<|M<|aB 1 Z Z Zy (D (Ls c.toNat 48))<|ay 1 Z<|B Z Z Z Z (λa=>E Z Z)<|B Z Z Z Z (λa=>av (aL Z (if_pos a) Z (λ_=>rfl)) (D (Me c.toNat 57)))<|C 0 Z (bR Z Z Z Z)<|H 1 Z<|aV ⟨Z,Z,Z⟩ Z
def uz(s:ByteArray)(i:s.size<=1073741824):Ct 187 [sT s] (nI (cV s.data.toList)):=by
 refine Ct.of (n:=17) func187 Z Z Z Z Z λw0 G0=>?_
 refine N 1 Z<|N 1 Z<|Y<|aG<|bn (λe d=>∃(n:Nat),(n<=s.size/\(s.data.toList.takeWhile gw).length=n+((s.data.toList.drop n).takeWhile gw).length)/\e=s.size-n/\d=⟨17,[(0,sT s),(3,nI n)],[],[]⟩) 0 0 ⟨0,⟨QF _,F0⟩,Z,Z⟩ .rf ?_;rintro e d ⟨n,⟨h,a⟩,rfl,rfl⟩;refine Y<|M<|C 2 (t:=nI s.size) Z (dJ Z aR Z)<|aB 0 Z Z Zy (D (iL n s.size))<|ay 1 Z<|B Z Z Z Z (λb=>E Z Z)<|B Z Z Z Z (λb=>E Z Z)<|B (t:=.sc (.int .u8 (((bj s n).toNat:Nat):Int))) Z Z Z Z (λb=>bM (j:=n) Z aR (if_pos b) (if_pos b) Z (bB (by first|omega|(have f:=b;simp only[Qh,QD,decide_eq_true_eq,decide_eq_false_iff_not]at f;omega))))<|B Z Z Z Z (λb=>aJ Z (np _) (dm (if_pos b) Z) Z)<|C 0 Z (bR Z Z Z Z)<|K<|aF Z (λc=>?_) (λc=>?_)
 ·obtain⟨g,hd⟩:=jd c;refine X<|aG<|am<|bA 1 (n+1) Z Z Zy O0<|H 1 Z<|⟨_,_,?_,⟨n+1,?_,Z,Z⟩,.rf⟩
  ·omega
  exact⟨O0,qz a (bB g) hd⟩
 refine bh<|N 2 Z<|aV ⟨Z,jc (vR a (oC c)),Z⟩ Z
def D8(s:ByteArray)(w:s.size<=1073741824)(p:0<s.size):Ct 136 [sT s] (nI (pw s.data.toList)):=by
 refine Ct.of (n:=46) func136 Z Z Z Z Z λw0 G0=>?_
 refine N 1 Z<|Y ?_;obtain⟨n,m⟩:∃n:Nat,(if(bj s 0).toNat=45 then 1 else 0)=n:=⟨_,Z⟩;refine bO 1 Z<|Y<|jZ ⟨46,[(0,sT s),(3,nI n)],[],[]⟩ 0 0 ?_ ?_
 ·refine M<|C 1 (t:=.sc (.int .u8 (((bj s 0).toNat:Nat):Int))) Z (bM (j:=0) Z aR Z Z Z (bB p))<|aB 0 Z Z Zy (D (e9 ((bj s 0).toNat) 45))<|K<|an Z (λi=>?_) (λi=>?_)
  ·refine bO 1 Z<|⟨Z,Z,Z,.cons Z Z (.cons (jc (by rw[<-m,if_pos i])) Z .nil),Z⟩
  refine X<|⟨Z,Z,Z,.cons Z Z (.cons (jc (by rw[<-m,if_neg i])) Z .nil),Z⟩
 refine Y ?_;have v:n<=1:=by rw[<-m];split<;>omega
 obtain⟨d,hd⟩:∃d,cV (s.data.toList.drop n)=d:=⟨_,Z⟩;have q:n+d<=s.size:=mr hd O0;obtain⟨e,o⟩:∃e,cV (s.data.toList.drop (n+d+1))=e:=⟨_,Z⟩;have b:=B9 p m hd o;refine am<|C 2 (t:=sT (s.extract n s.size)) Z (dZ (l:=n) (h:=s.size) Z aR Z ⟨_,Z⟩ Z O0 O0)<|C 0 (t:=nI d) Z (aJ Z (by have h:=uz (s.extract n s.size) (by rw[px];omega);rw[lE,hd]at h;exact h) Z Z)<|H 1 Z<|Y<|M<|aB 1 Z Z Zy (D (e9 d 0))<|K<|an Z (λc=>?_) (λc=>?_)
 ·refine N 1 Z<|aV ⟨Z,jc (by rw[b,if_pos c]),Z⟩ Z
 refine X<|M<|bA 2 (n+d) Z Z Zy O0<|H 1 Z<|Y<|M<|C 2 (t:=nI s.size) Z (dJ Z aR Z)<|aB 0 Z Z Zy (D (iL (n+d) s.size))<|ay 1 Z<|B Z Z Z Z (λa=>E Z Z)<|B Z Z Z Z (λa=>E Z Z)<|B (t:=.sc (.int .u8 (((bj s (n+d)).toNat:Nat):Int))) Z Z Z Z (λa=>bM (j:=n+d) Z aR (if_pos a) (if_pos a) Z (bB (by first|omega|(have g:=a;simp only[Qh,QD,decide_eq_true_eq,decide_eq_false_iff_not]at g;omega))))<|B Z Z Z Z (λa=>av (aL Z (if_pos a) Z (λ_=>rfl)) (D (e9 ((bj s (n+d)).toNat) 47)))<|B Z Z Z Z (λa=>E Z (if_pos a))<|ci Z Z Z Z (λa=>E Z Z)<|ci Z Z Z Z (λa=>E Z Z)<|ci (t:=.sc (.int .u8 (((bj s (n+d)).toNat:Nat):Int))) Z Z Z Z (λa=>bM (j:=n+d) Z aR (if_pos a) (if_pos a) Z (bB (by first|omega|(have g:=a;simp only[Qh,QD,decide_eq_true_eq,decide_eq_false_iff_not]at g;omega))))<|ci Z Z Z Z (λa=>av (aL Z (if_pos a) Z (λ_=>rfl)) (D (e9 ((bj s (n+d)).toNat) 46)))<|B (t:=bT ((decide ((bj s (n+d)).toNat=47))||(decide ((bj s (n+d)).toNat=46)))) Z Z Z Z (λa=>fM Z (if_pos a) (λg=>(D (by rw[g];rfl))) (λg=>(if_pos ⟨a,g⟩).trans (D (by rw[g];rfl))))<|C 0 Z (bR Z Z Z Z)<|K<|aF Z (λf=>?_) (λf=>?_)
 ·refine Y ?_;have u:n+d<s.size:=(jd f).1;have r:n+d+1+e<=s.size:=mr o O0;refine am<|bA 2 ((n+d)+1) Z Z Zy O0<|C 0 (t:=sT (s.extract ((n+d)+1) s.size)) Z (dZ (l:=(n+d)+1) (h:=s.size) Z aR Z ⟨_,Z⟩ Z O0 O0)<|C 0 (t:=nI e) Z (aJ Z (by have h:=uz (s.extract (n+d+1) s.size) (by rw[px];omega);rw[lE,o]at h;exact h) Z Z)<|H 1 Z<|M<|aB 1 Z Z Zy (D (DF e 0))<|K<|an Z (λk=>?_) (λk=>?_)
  ·refine am<|bA 2 (1+e) Z Z Zy O0<|bA 0 ((n+d)+(1+e)) Z Z Zy O0<|H 1 Z<|N 2 Z<|aV ⟨Z,jc (by rw[b,if_neg c,if_pos f,if_pos k]),Z⟩ Z
  refine X<|N 2 Z<|aV ⟨Z,jc (by rw[b,if_neg c,if_pos f,if_neg k]),Z⟩ Z
 refine X<|N 2 Z<|aV ⟨Z,jc (by rw[b,if_neg c,if_neg (by rw[f];exact Qk)]),Z⟩ Z
def D9(s:ByteArray)(v:s.size<=1073741824)(q:0<s.size):Ct 137 [sT s] (nI (iq 1 (s.data.toList.drop 1))):=by
 refine Ct.of (n:=40) func137 Z Z Z Z Z λw0 G0=>?_
 refine N 1 Z<|Y<|N 1 Z<|aG<|bn (λp m=>∃(i:Nat),(1<=i/\i<=s.size/\iq i (s.data.toList.drop i)=iq 1 (s.data.toList.drop 1))/\p=s.size-i/\m=⟨40,[(0,sT s),(3,nI i)],[],[]⟩) 0 0 ⟨1,⟨Qi _,q,Z⟩,Z,Z⟩ .rf ?_;rintro p m ⟨i,⟨r,u,a⟩,rfl,rfl⟩;refine Y<|M<|C 2 (t:=nI s.size) Z (dJ Z aR Z)<|aB 0 Z Z Zy (D (iL i s.size))<|K<|an Z (λh=>?_) (λh=>?_)
 ·have o:=h;refine X<|Y<|aG<|Y<|Y ?_;have k:=cW o;rw[k,j8]at a;refine am<|C 2 (t:=.sc (.int .u8 (((bj s i).toNat:Nat):Int))) Z (bM (j:=i) Z aR Z Z Z (bB (by first|omega|(have d:=b;simp only[Qh,QD,decide_eq_true_eq,decide_eq_false_iff_not]at d;omega))))<|aB 0 Z Z Zy (D (iL ((bj s i).toNat) 32))<|ay 1 Z<|B Z Z Z Z (λb=>E Z Z)<|B Z Z Z Z (λb=>E Z Z)<|B (t:=.sc (.int .u8 (((bj s i).toNat:Nat):Int))) Z Z Z Z (λb=>bM (j:=i) Z aR (if_pos b) (if_pos b) Z (bB (by first|omega|(have d:=b;simp only[Qh,QD,decide_eq_true_eq,decide_eq_false_iff_not]at d;omega))))<|B Z Z Z Z (λb=>av (aL Z (if_pos b) Z (λ_=>rfl)) (D (DF ((bj s i).toNat) 126)))<|C 0 Z (eo Z Z Z Z)<|K<|aF Z (λe=>?_) (λe=>?_)
  ·refine N 1 Z<|aV ⟨Z,jc (by rw[<-a,if_pos (Ca e)]),Z⟩ Z
  rw[if_neg (FQ e)]at a;refine X<|Y<|M<|C 2 (t:=.sc (.int .u8 (((bj s i).toNat:Nat):Int))) Z (bM (j:=i) Z aR Z Z Z (bB (by first|omega|(have d:=b;simp only[Qh,QD,decide_eq_true_eq,decide_eq_false_iff_not]at d;omega))))<|aB 0 Z Z Zy (D (qj ((bj s i).toNat) 39))<|K<|an Z (λf=>?_) (λf=>?_)
  ·rw[if_pos f]at a;refine bh<|am<|bA 1 (i+1) Z Z Zy O0<|H 1 Z<|⟨_,_,?_,⟨i+1,?_,Z,Z⟩,.rf⟩
   ·omega
   exact⟨O0,O0,a⟩
  rw[if_neg f]at a;refine X<|Y<|M<|bA 1 (i+1) Z Z Zy O0<|C 1 (t:=nI s.size) Z (dJ Z aR Z)<|aB 0 Z Z Zy (D (iL (i+1) s.size))<|ay 1 Z<|B Z Z Z Z (λb=>E Z Z)<|B Z Z Z Z (λb=>E Z Z)<|B (t:=nI (i+1)) Z Z Z Z (λb=>av (aL Z (if_pos b) Z (λ_=>rfl)) (jy O0))<|B (t:=.sc (.int .u8 (((bj s (i+1)).toNat:Nat):Int))) Z Z Z Z (λb=>bM (j:=i+1) Z aR (if_pos b) (if_pos b) Z (bB (by first|omega|(have d:=b;simp only[Qh,QD,decide_eq_true_eq,decide_eq_false_iff_not]at d;omega))))<|B Z Z Z Z (λb=>av (aL Z (if_pos b) Z (λ_=>rfl)) (D (e9 ((bj s (i+1)).toNat) 39)))<|C 0 Z (bR Z Z Z Z)<|K<|aF Z (λg=>?_) (λg=>?_)
  ·obtain⟨l,c⟩:=jd g;replace c:=of_decide_eq_true c;rw[cW l]at a;simp only at a;rw[if_pos c]at a;refine M<|bA 1 (i+1) Z Z Zy O0<|H 1 Z<|bh<|am<|bA 1 ((i+1)+1) Z Z Zy O0<|H 1 Z<|⟨_,_,?_,⟨(i+1)+1,?_,Z,Z⟩,.rf⟩
   ·omega
   exact⟨O0,O0,a⟩
  refine X<|M<|bA 1 (i+1) Z Z Zy O0<|H 1 Z<|aV ⟨Z,jc (JH o a g),Z⟩ Z
 refine bh<|N 1 Z<|aV ⟨Z,jc (JG a O0),Z⟩ Z
def Az(s:ByteArray)(w:s.size<=1073741824)(q:0<s.size):Ct 79 [sT s] (.tup [nI ((jV s.data.toList).1),nI ((jV s.data.toList).2)]):=by
 refine Ct.of (n:=92) func79 Z Z Z Z Z λw0 G0=>?_
 refine N 2 Z<|Y ?_;have e:=FR q;have r:bj s 0::s.data.toList.drop 1=s.data.toList:=(cW q).symm;refine am<|C 1 (t:=.sc (.int .u8 (((bj s 0).toNat:Nat):Int))) Z (bM (j:=0) Z aR Z Z Z (bB q))<|H 1 Z<|Y<|aG<|M<|C 1 Z (aJ Z (pU _) Z Z)<|H 1 Z<|aF Z (λd=>?_) (λd=>?_)
 ·refine N 1 Z<|Y<|aG<|bn (λx v=>∃(n:Nat),(n<=s.size/\1+((s.data.toList.drop 1).takeWhile j7).length=n+((s.data.toList.drop n).takeWhile j7).length)/\x=s.size-n/\v=⟨92,[(0,sT s),(3,nI n),(4,.sc (.int .u8 (((bj s 0).toNat:Nat):Int)))],[],[]⟩) 0 0 ⟨1,⟨q,Z⟩,Z,Z⟩ .rf ?_;rintro x v ⟨n,⟨z,o⟩,rfl,rfl⟩;refine Y<|M<|C 2 (t:=nI s.size) Z (dJ Z aR Z)<|aB 0 Z Z Zy (D (iL n s.size))<|ay 1 Z<|B Z Z Z Z (λc=>E Z Z)<|B Z Z Z Z (λc=>E Z Z)<|B (t:=.sc (.int .u8 (((bj s n).toNat:Nat):Int))) Z Z Z Z (λc=>bM (j:=n) Z aR (if_pos c) (if_pos c) Z (bB (by first|omega|(have i:=c;simp only[Qh,QD,decide_eq_true_eq,decide_eq_false_iff_not]at i;omega))))<|B Z Z Z Z (λc=>aJ Z (pU _) (dm (if_pos c) Z) Z)<|B Z Z Z Z (λc=>E Z (if_pos c))<|ci Z Z Z Z (λc=>E Z Z)<|ci Z Z Z Z (λc=>E Z Z)<|ci (t:=.sc (.int .u8 (((bj s n).toNat:Nat):Int))) Z Z Z Z (λc=>bM (j:=n) Z aR (if_pos c) (if_pos c) Z (bB (by first|omega|(have i:=c;simp only[Qh,QD,decide_eq_true_eq,decide_eq_false_iff_not]at i;omega))))<|ci Z Z Z Z (λc=>aJ Z (np _) (dm (if_pos c) Z) Z)<|B (t:=bT ((cO (bj s n))||(gw (bj s n)))) Z Z Z Z (λc=>fM Z (if_pos c) (λi=>(D (by rw[i];rfl))) (λi=>(if_pos ⟨c,i⟩).trans (D (by rw[i];rfl))))<|B Z Z Z Z (λc=>E Z (if_pos c))<|ci Z Z Z Z (λc=>E Z Z)<|ci Z Z Z Z (λc=>E Z Z)<|ci (t:=.sc (.int .u8 (((bj s n).toNat:Nat):Int))) Z Z Z Z (λc=>bM (j:=n) Z aR (if_pos c) (if_pos c) Z (bB (by first|omega|(have i:=c;simp only[Qh,QD,decide_eq_true_eq,decide_eq_false_iff_not]at i;omega))))<|ci Z Z Z Z (λc=>av (aL Z (if_pos c) Z (λ_=>rfl)) (D (e9 ((bj s n).toNat) 95)))<|B (t:=bT (((cO (bj s n))||(gw (bj s n)))||(decide ((bj s n).toNat=95)))) Z Z Z Z (λc=>fM Z (if_pos c) (λi=>(D (by rw[i];rfl))) (λi=>(if_pos ⟨c,i⟩).trans (D (by rw[i];rfl))))<|C 0 (t:=bT ((decide (n<s.size))&&(j7 (bj s n)))) Z (av (t:=bT ((decide (n<s.size))&&(((cO (bj s n))||(gw (bj s n)))||(decide ((bj s n).toNat=95))))) (bR Z Z Z Z) (D Z))<|K<|aF Z (λp=>?_) (λp=>?_)
  ·obtain⟨y,hd⟩:=jd p;refine X<|aG<|am<|bA 1 (n+1) Z Z Zy O0<|H 1 Z<|⟨_,_,?_,⟨n+1,?_,Z,Z⟩,.rf⟩
   ·omega
   exact⟨O0,qz o (bB y) hd⟩
  refine bh<|Y ?_;have u:=vR o (oC p);refine bO 3 Z<|aO<|⟨.inr Z,_,.cons Z (.cons Z .nil),(xU (a:=1) (b:=n) (by rw[e];unfold fw;rw[if_pos d]) (by rw[e];unfold fw;rw[if_pos d,u])),Z⟩
 refine M<|C 1 Z (aJ Z (np _) Z Z)<|ay 1 Z<|B Z Z Z Z (λc=>E Z Z)<|B Z Z Z Z (λc=>av (aL Z (if_pos c) Z (λ_=>rfl)) (D (e9 ((bj s 0).toNat) 45)))<|C 0 Z (eo Z Z Z Z)<|H 1 Z<|aF Z (λf=>?_) (λf=>?_)
 ·refine M<|C 1 Z (aJ Z (D8 s w q) Z Z)<|H 2 Z<|aO<|⟨.inr Z,_,.cons Z (.cons Z .nil),(xU (a:=2) (b:=(pw s.data.toList)) (by rw[e];unfold fw;rw[if_neg (by rw[d];exact Qk),if_pos f,r]) (by rw[e];unfold fw;rw[if_neg (by rw[d];exact Qk),if_pos f,r])),Z⟩
 refine M<|aB 1 Z Z Zy (D (e9 ((bj s 0).toNat) 39))<|H 1 Z<|an Z (λg=>?_) (λg=>?_)
 ·refine M<|C 1 Z (aJ Z (D9 s w q) Z Z)<|H 2 Z<|aO<|⟨.inr Z,_,.cons Z (.cons Z .nil),(xU (a:=3) (b:=(iq 1 (s.data.toList.drop 1))) (by rw[e];unfold fw;rw[if_neg (by rw[d];exact Qk),if_neg (by rw[f];exact Qk),if_pos g]) (by rw[e];unfold fw;rw[if_neg (by rw[d];exact Qk),if_neg (by rw[f];exact Qk),if_pos g])),Z⟩
 refine M<|aB 1 Z Z Zy (D (e9 ((bj s 0).toNat) 40))<|ay 1 Z<|B Z Z Z Z (λc=>E Z Z)<|B Z Z Z Z (λc=>av (aL Z (if_pos c) Z (λ_=>rfl)) (D (e9 ((bj s 0).toNat) 41)))<|C 0 Z (eo Z Z Z Z)<|ay 1 Z<|B Z Z Z Z (λc=>E Z Z)<|B Z Z Z Z (λc=>av (aL Z (if_pos c) Z (λ_=>rfl)) (D (e9 ((bj s 0).toNat) 44)))<|C 0 Z (eo Z Z Z Z)<|ay 1 Z<|B Z Z Z Z (λc=>E Z Z)<|B Z Z Z Z (λc=>av (aL Z (if_pos c) Z (λ_=>rfl)) (D (e9 ((bj s 0).toNat) 58)))<|C 0 Z (eo Z Z Z Z)<|ay 1 Z<|B Z Z Z Z (λc=>E Z Z)<|B Z Z Z Z (λc=>av (aL Z (if_pos c) Z (λ_=>rfl)) (D (e9 ((bj s 0).toNat) 61)))<|C 0 (t:=bT (xT (bj s 0))) Z (av (t:=bT (((((decide ((bj s 0).toNat=40))||(decide ((bj s 0).toNat=41)))||(decide ((bj s 0).toNat=44)))||(decide ((bj s 0).toNat=58)))||(decide ((bj s 0).toNat=61)))) (eo Z Z Z Z) (D Z))<|H 1 Z<|aF Z (λh=>?_) (λh=>?_)
 ·refine N 2 Z<|aO<|⟨.inr Z,_,.cons Z (.cons Z .nil),(xU (a:=4) (b:=1) (by rw[e];unfold fw;rw[if_neg (by rw[d];exact Qk),if_neg (by rw[f];exact Qk),if_neg g,if_pos h]) (by rw[e];unfold fw;rw[if_neg (by rw[d];exact Qk),if_neg (by rw[f];exact Qk),if_neg g,if_pos h])),Z⟩
 refine M<|aB 1 Z Z Zy (D (e9 ((bj s 0).toNat) 60))<|H 1 Z<|an Z (λk=>?_) (λk=>?_)
 ·refine Y<|M<|C 1 (t:=nI s.size) Z (dJ Z aR Z)<|aB 0 Z Z Zy (D (DF s.size 1))<|ay 1 Z<|B Z Z Z Z (λc=>E Z Z)<|B (t:=.sc (.int .u8 (((bj s 1).toNat:Nat):Int))) Z Z Z Z (λc=>bM (j:=1) Z aR (if_pos c) Z Z (bB (by first|omega|(have i:=c;simp only[Qh,QD,decide_eq_true_eq,decide_eq_false_iff_not]at i;omega))))<|B Z Z Z Z (λc=>av (aL Z (if_pos c) Z (λ_=>rfl)) (D (e9 ((bj s 1).toNat) 61)))<|C 0 (t:=bT (FO (s.data.toList.drop 1))) Z (av (t:=bT ((decide (1<s.size))&&(decide ((bj s 1).toNat=61)))) (bR Z Z Z Z) (D (Au s).symm))<|K<|aF Z (λl=>?_) (λl=>?_)
  ·refine N 2 Z<|aO<|⟨.inr Z,_,.cons Z (.cons Z .nil),(xU (a:=4) (b:=2) (by rw[e];unfold fw;rw[if_neg (by rw[d];exact Qk),if_neg (by rw[f];exact Qk),if_neg g,if_neg (by rw[h];exact Qk),if_pos k,if_pos l]) (by rw[e];unfold fw;rw[if_neg (by rw[d];exact Qk),if_neg (by rw[f];exact Qk),if_neg g,if_neg (by rw[h];exact Qk),if_pos k,if_pos l])),Z⟩
  refine X<|N 2 Z<|aO<|⟨.inr Z,_,.cons Z (.cons Z .nil),(xU (a:=4) (b:=1) (by rw[e];unfold fw;rw[if_neg (by rw[d];exact Qk),if_neg (by rw[f];exact Qk),if_neg g,if_neg (by rw[h];exact Qk),if_pos k,if_neg (by rw[l];exact Qk)]) (by rw[e];unfold fw;rw[if_neg (by rw[d];exact Qk),if_neg (by rw[f];exact Qk),if_neg g,if_neg (by rw[h];exact Qk),if_pos k,if_neg (by rw[l];exact Qk)])),Z⟩
 refine M<|aB 1 Z Z Zy (D (e9 ((bj s 0).toNat) 33))<|ay 1 Z<|B Z Z Z Z (λc=>E Z Z)<|B (t:=nI s.size) Z Z Z Z (λc=>dJ Z aR (if_pos c))<|B Z Z Z Z (λc=>av (aL Z (if_pos c) Z (λ_=>rfl)) (D (DF s.size 1)))<|C 0 Z (bR Z Z Z Z)<|ay 1 Z<|B Z Z Z Z (λc=>E Z Z)<|B (t:=.sc (.int .u8 (((bj s 1).toNat:Nat):Int))) Z Z Z Z (λc=>bM (j:=1) Z aR (if_pos c) Z Z (bB (by first|omega|(have i:=c;simp only[Qh,QD,decide_eq_true_eq,decide_eq_false_iff_not]at i;omega))))<|B Z Z Z Z (λc=>av (aL Z (if_pos c) Z (λ_=>rfl)) (D (e9 ((bj s 1).toNat) 61)))<|C 0 (t:=bT ((decide ((bj s 0).toNat=33))&&(FO (s.data.toList.drop 1)))) Z (av (t:=bT (((decide ((bj s 0).toNat=33))&&(decide (1<s.size)))&&(decide ((bj s 1).toNat=61)))) (bR Z Z Z Z) (D (by rw[Au,Bool.and_assoc])))<|H 1 Z<|aF Z (λm=>?_) (λm=>?_)
 ·refine N 2 Z<|aO<|⟨.inr Z,_,.cons Z (.cons Z .nil),(xU (a:=4) (b:=2) (by rw[e];unfold fw;rw[if_neg (by rw[d];exact Qk),if_neg (by rw[f];exact Qk),if_neg g,if_neg (by rw[h];exact Qk),if_neg k,if_pos (FU m)]) (by rw[e];unfold fw;rw[if_neg (by rw[d];exact Qk),if_neg (by rw[f];exact Qk),if_neg g,if_neg (by rw[h];exact Qk),if_neg k,if_pos (FU m)])),Z⟩
 refine X<|N 2 Z<|aO<|⟨.inr Z,_,.cons Z (.cons Z .nil),(xU (a:=0) (b:=0) (by rw[e];unfold fw;rw[if_neg (by rw[d];exact Qk),if_neg (by rw[f];exact Qk),if_neg g,if_neg (by rw[h];exact Qk),if_neg k,if_neg (Av m)]) (by rw[e];unfold fw;rw[if_neg (by rw[d];exact Qk),if_neg (by rw[f];exact Qk),if_neg g,if_neg (by rw[h];exact Qk),if_neg k,if_neg (Av m)])),Z⟩
def Cd(s:ByteArray)(I:s.size<=1073741824):Ct 37 [sT s] (pT (dO (s.size+1) s.data.toList)):=by
 refine Ct.of (n:=48) func37 Z Z Z Z Z λw0 G0=>?_
 refine M<|C 0 (t:=.sl []) Z (cA (.inr Z) dn)<|H 1 Z<|M<|fq (k:=0) (e:=134) (sz:=2) (rs':=[some ⟨134,2,[].map Tok.tree,false⟩]) (.inr Z) Z Z Z Z Z<|K<|Y<|N 1 Z<|aG<|bn (λz w=>∃(i:Nat) (b:List Tok),(i<=s.size/\b.length<=i/\∃f,s.size-i<f/\(dO f (s.data.toList.drop i)).map (b++ ·)=dO (s.size+1) s.data.toList)/\z=s.size-i/\w=⟨48,[(0,sT s),(4,.own 0),(5,nI i)],[],[some ⟨134,2,b.map Tok.tree,false⟩]⟩) 0 1 ⟨0,[],⟨QF _,Qi _,s.size+1,O0,by cases h:dO (s.size+1) s.data.toList<;>simp[h]⟩,Z,Z⟩ .rf ?_;rintro z w ⟨i,b,⟨G,A,a⟩,rfl,rfl⟩;refine Y<|M<|C 2 (t:=nI s.size) Z (dJ Z aR Z)<|aB 0 Z Z Zy (D (iL i s.size))<|ay 1 Z<|B Z Z Z Z (λc=>E Z Z)<|B Z Z Z Z (λc=>E Z Z)<|B (t:=.sc (.int .u8 (((bj s i).toNat:Nat):Int))) Z Z Z Z (λc=>bM (j:=i) Z aR (if_pos c) (if_pos c) Z (bB (by first|omega|(have r:=c;simp only[Qh,QD,decide_eq_true_eq,decide_eq_false_iff_not]at r;omega))))<|B Z Z Z Z (λc=>av (aL Z (if_pos c) Z (λ_=>rfl)) (D (qj ((bj s i).toNat) 35)))<|C 0 Z (bR Z Z Z Z)<|K<|aF Z (λm=>?_) (λm=>?_)
 ·refine X<|aG<|Y<|Y ?_;obtain⟨u,d⟩:=jd m;replace d:=of_decide_eq_true d;obtain⟨f,F,a⟩:=a;obtain⟨f,rfl⟩:∃g,f=g+1:=⟨f-1,O0⟩;rw[cW u,dO,if_neg d]at a;refine am<|C 2 (t:=.sc (.int .u8 (((bj s i).toNat:Nat):Int))) Z (bM (j:=i) Z aR Z Z Z (bB (by first|omega|(have r:=c;simp only[Qh,QD,decide_eq_true_eq,decide_eq_false_iff_not]at r;omega))))<|aB 0 Z Z Zy (D (e9 ((bj s i).toNat) 32))<|K<|an Z (λo=>?_) (λo=>?_)
  ·rw[if_pos o]at a;refine M<|bA 1 (i+1) Z Z Zy O0<|H 1 Z<|bh<|⟨_,_,?_,⟨i+1,b,?_,Z,Z⟩,.rf⟩
   ·omega
   first|exact⟨O0,O0,f,O0,a⟩|exact⟨O0,by simp;omega,f,O0,eE a⟩
  rw[if_neg o]at a;refine X<|Y ?_;obtain⟨k,y⟩:∃k,(jV (s.data.toList.drop i)).1=k:=⟨_,Z⟩;obtain⟨n,q⟩:∃n,(jV (s.data.toList.drop i)).2=n:=⟨_,Z⟩;have v:i+n<=s.size:=FV u q;rw[<-cW u,y,q]at a;refine am<|C 2 (t:=sT (s.extract i s.size)) Z (dZ (l:=i) (h:=s.size) Z aR Z ⟨_,Z⟩ Z O0 O0)<|C 0 (t:=.tup [nI k,nI n]) Z (aJ Z (by have h:=Az (s.extract i s.size) (by rw[px];omega) (by rw[px];omega);rw[lE,y,q]at h;exact h) Z Z)<|H 5 Z<|Y<|M<|aB 1 Z Z Zy (D (e9 n 0))<|K<|an Z (λp=>?_) (λp=>?_)
  ·rw[if_pos p]at a;refine M<|C 0 (t:=.sl []) Z (cA (.inr Z) dn)<|H 1 Z<|aO<|⟨.inr Z,_,.cons Z (.cons Z .nil),(iH a),dh _⟩
  rw[if_neg p,RK]at a;refine X<|M<|bA 6 (i+n) Z Z Zy O0<|C 0 (t:=sT (bb ((s.data.toList.drop i).take n))) Z (av (dZ (l:=i) (h:=i+n) Z aR Z ⟨_,Z⟩ ⟨_,Z⟩ O0 O0) (cT (iG s i n v)))<|C 1 (t:=.sl [.agg [nI k,sT (bb ((s.data.toList.drop i).take n))]]) Z (aQ Z gS xX Z I0 I0 Z Z Z Z Z)<|bD (bs':=[]) (rs':=[some ⟨134,2,(b++[(⟨k,bb ((s.data.toList.drop i).take n)⟩:Tok)]).map Tok.tree,false⟩]) Z Z Z Z Aw Z Z Z Z (by intro e x;simp only[Qw,QH,or_false]at x;subst x;rfl) (AllC.lit Z) (AllC.lit Z) (by simp only[Qr,Qn,QC];omega) Z Z Z (by rw[Qz];rfl)<|H 1 Z<|am<|bA 2 (i+n) Z Z Zy O0<|H 1 Z<|⟨_,_,?_,⟨i+n,(b++[(⟨k,bb ((s.data.toList.drop i).take n)⟩:Tok)]),?_,Z,Z⟩,.rf⟩
  ·omega
  first|exact⟨O0,O0,f,O0,a⟩|exact⟨O0,by simp;omega,f,O0,eE a⟩
 refine bh<|Y<|cQ 0 (bs':=[]) (rs':=[none]) Z Z Z Z<|bO 3 Z<|aO<|⟨.inr Z,_,.cons Z (.cons Z .nil),(sf a (ME m)),dh _⟩
def eI{a b:Bool}(h:a=b):(Tree.sc (.bool a))=bT b:=by rw[h]
def je{α:Type}{p:α×PS}{v:α}{l:List Tok}{a:Nat}{b:Bool}{ty:TypeId}(h:p=(v,⟨l,a,b⟩)):(some (ty,[.sl (l.map Tok.tree),nI a,bT b]):Option (TypeId×List Tree))=some (ty,p.2.cells):=by rw[h];rfl
def Ce{s:PS}(h:(decide (s.nxt.k≠1)||io s.nxt.x)=true):bI s=(b9,⟨s.l,s.a,true⟩):=by
 rw[Q5]at h;exact if_pos (h.imp of_decide_eq_true id)
def xY{s:PS}(h:(decide (s.nxt.k≠1)||io s.nxt.x)=false):bI s=(s.nxt.x,⟨s.l,s.a+1,s.bad⟩):=by
 rw[QD]at h;exact if_neg (λc=>c.elim (of_decide_eq_false h.1) (λb=>by rw[h.2]at b;cases b))
def Cf{c:Tok->Bool}{s:PS}{ty:TypeId}(h:(!(aa c s).1)=true):(some (ty,[.sl ((aa c s).2.l.map Tok.tree),nI ((aa c s).2.a),bT true]):Option (TypeId×List Tree))=some (ty,(ak c s).2.cells):=by
 unfold aa ak at*;split at h
 ·cases h
 next h1=>rw[if_neg h1,if_neg h1];rfl
def xZ{c:Tok->Bool}{s:PS}{ty:TypeId}(h:(!(aa c s).1)=false):(some (ty,[.sl ((aa c s).2.l.map Tok.tree),nI ((aa c s).2.a),.sc (.bool (aa c s).2.bad)]):Option (TypeId×List Tree))=some (ty,(ak c s).2.cells):=by
 unfold aa ak at*;split at h
 ·next h1=>rw[if_pos h1,if_pos h1];rfl
 cases h
def so{c:Tok->Bool}{s:PS}(h:c s.nxt=false):aa c s=(false,s):=if_neg (by rw[h];exact Qk)
def oH{c:Tok->Bool}{s:PS}(h:c s.nxt=true):aa c s=(true,s.adv):=if_pos h
def jB:nT prog 134=some 2:=U
def tU:gm prog 134 0=some 0:=U
def mP:gm prog 134 1=some 1:=U
def gz:gm prog 92 0=some 0:=U
def gA:gm prog 92 1=some 1:=U
def oI:gm prog 92 2=some 2:=U
def cv:eN prog 3=true:=U
def jg:eN prog 88=true:=U
def dL:eN prog 9=true:=U
def x4:(prog.info? 134).map (·.size)=some 2:=U
def N9:(prog.info? 3).map (·.size)=some 1:=U
def Oa:(prog.info? 4).map (·.size)=some 1:=U
def Cg(s:PS)(hl:s.l.length<=1073741824)(g:s.a<=s.l.length):Ct 80 [.ref s.cells] (s.nxt.tree):=by
 refine Ct.of (n:=30) func80 Z Z Z Z Z λw0 G0=>?_
 refine N 1 Z<|Y<|Y<|cu (fu:=16) _ [.ref [.sl (s.l.map Tok.tree),nI s.a,bT s.bad],.ref [.sl (s.l.map Tok.tree),nI s.a,bT s.bad],.ref [bT s.bad],bT s.bad,bT s.bad,if s.bad=false then(.ref [.sl (s.l.map Tok.tree),nI s.a,bT s.bad]:Tree)else .sc undef,if s.bad=false then(.ref [.sl (s.l.map Tok.tree),nI s.a,bT s.bad]:Tree)else .sc undef,if s.bad=false then(.ref [nI s.a,bT s.bad]:Tree)else .sc undef,if s.bad=false then(nI s.a:Tree)else .sc undef,if s.bad=false then(.ref [.sl (s.l.map Tok.tree),nI s.a,bT s.bad]:Tree)else .sc undef,if s.bad=false then(.ref [.sl (s.l.map Tok.tree),nI s.a,bT s.bad]:Tree)else .sc undef,if s.bad=false then(.ref [.sl (s.l.map Tok.tree),nI s.a,bT s.bad]:Tree)else .sc undef,if s.bad=false then(.sl (s.l.map Tok.tree):Tree)else .sc undef,if s.bad=false then(nI s.l.length:Tree)else .sc undef,if s.bad=false then(bT (decide (s.l.length<=s.a)):Tree)else .sc undef,bT (s.bad||(decide (s.l.length<=s.a)))] U Z Z U Z ?_ ?_
 ·refine Chain.op Z (E Z Z)<|Chain.op Z (bG Z Z)<|Chain.op Z (be Z Z oI Z)<|Chain.op Z (aX Z Z eC Z)<|Chain.op Z (E Z Z)<|aq Z Z Z (λb=>E Z Z)<|aq Z Z Z (λb=>bG Z (if_pos b))<|aq Z Z Z (λb=>be Z (if_pos b) gA Z)<|aq Z Z Z (λb=>aX Z (if_pos b) cv Z)<|aq Z Z Z (λb=>E Z Z)<|aq Z Z Z (λb=>bG Z (if_pos b))<|aq Z Z Z (λb=>be Z (if_pos b) gz Z)<|aq Z Z Z (λb=>aX Z (if_pos b) jg Z)<|aq Z Z Z (λb=>av (iU Z gS (if_pos b)) (by simp only[Qr]))<|aq Z Z Z (λb=>av (aL Z (if_pos b) (if_pos b) (λ_=>rfl)) (D (Ls s.a s.l.length)))<|Chain.op Z (eo Z Z Z Z)<|Chain.nil
 refine aF Z (λc=>?_) (λc=>?_)
 ·refine N 2 Z<|aV ⟨(eZ Z Z jB Z),(by rw[oF c];rfl),Z⟩ Z
 obtain⟨h,d,e⟩:=oG c;refine X<|Y<|tQ (ops:=[_,_,_,_,_,_,_,_,_,_]) (fu:=11) (bs':=[(134,[nI s.nxt.k,sT s.nxt.x])]) [some 20,some 21,some 22,some 23,some 24,some 25,some 26,some 27,some 28,some 29] [.ref [.sl (s.l.map Tok.tree),nI s.a,bT s.bad],.ref [.sl (s.l.map Tok.tree),nI s.a,bT s.bad],.ref [.sl (s.l.map Tok.tree),nI s.a,bT s.bad],.sl (s.l.map Tok.tree),.ref [.sl (s.l.map Tok.tree),nI s.a,bT s.bad],.ref [.sl (s.l.map Tok.tree),nI s.a,bT s.bad],.ref [nI s.a,bT s.bad],nI s.a,.ref [nI s.nxt.k,sT s.nxt.x],.agg [nI s.nxt.k,sT s.nxt.x]] U Z Z Z Z Z U U Z Z Z Z Z Z Z Z x4 Z Z Z ?_ ?_
 ·refine Chain.op Z (E Z Z)<|Chain.op Z (bG Z Z)<|Chain.op Z (be Z Z gz Z)<|Chain.op Z (aX Z Z jg Z)<|Chain.op Z (E Z Z)<|Chain.op Z (bG Z Z)<|Chain.op Z (be Z Z gA Z)<|Chain.op Z (aX Z Z cv Z)<|Chain.op Z (aY (Tok.tree s.nxt) Z gS Z Z Z (bi (f:=Tok.tree) e) (gi _) Z)<|Chain.op Z (bm Z Z jB Z Z)<|Chain.nil
 exact aV ⟨(eZ Z Z jB Z),Z,Z⟩ Z
def vU(s:PS)(hl:s.l.length<=1073741824)(b:s.a<=s.l.length):CtV 80 92 s.cells [] s.nxt.tree:=.of_ct (Cg s hl b) Z
def Ea(s:PS)(k:Nat)(x:ByteArray)(hl:s.l.length<=1073741824)(c:s.a<=s.l.length):Ct 38 [.ref s.cells,nI k,sT x] (bT (IT k x s.nxt)):=by
 refine Ct.of (n:=20) func38 Z Z Z Z Z λw0 G0=>?_
 refine N 1 Z<|M<|C 1 Z (aJ Z (Cg s hl c) Z Z)<|H 2 Z<|M<|aB 3 Z Z Zy (D (e9 s.nxt.k k))<|ay 1 Z<|B Z Z Z Z (λb=>ao Z Z mP Z)<|B Z Z Z Z (λb=>aA Z (if_pos b) Z dL Z)<|B Z Z Z Z (λb=>E Z Z)<|B (t:=bT (decide (s.nxt.x=x))) Z Z Z Z (λb=>av (aL Z (if_pos b) (if_pos b) (λ_=>rfl)) (D (aM _ _)))<|C 0 Z (bR Z Z Z Z)<|H 1 Z<|aV ⟨Z,Z,Z⟩ Z
def x5(s:PS)(k:Nat)(x:ByteArray)(hl:s.l.length<=1073741824)(b:s.a<=s.l.length):CtV 38 92 s.cells [nI k,sT x] (bT (IT k x s.nxt)):=.of_ct (Ea s k x hl b) Z
def x6(s:PS)(k:Nat)(x:ByteArray)(hl:s.l.length<=1073741824)(c:s.a<=s.l.length):CtM 138 92 [.sl (s.l.map Tok.tree),nI s.a,bT s.bad] [nI k,sT x] (aa (IT k x) s).2.cells (.sc (.bool (aa (IT k x) s).1)):=by
 refine CtM.of (n:=19) func138 Z Z Z Z Z λw0 G0 d=>?_
 refine N 1 Z<|Y<|M<|C 3 (t:=bT (IT k x s.nxt)) Z (dS Z Z Z (x5 s k x hl c) Z Z Z)<|C 0 (t:=bT (!(IT k x s.nxt))) Z (dl Z Z Zy)<|K<|aF Z (λb=>?_) (λb=>?_)
 ·refine N 1 Z<|aO<|⟨⟨.inr Z,_,.cons Z .nil,eI (by rw[so (by simpa using b)]),Z⟩,by rw[so (by simpa using b)];rfl,Z⟩
 refine X<|M<|C 1 (t:=.box 0 0) Z (a6 Z Z)<|bA 2 (s.a+1) Z Z Zy O0<|C 0 (t:=.box 0 0) Z (a6 Z Z)<|H 2 Z<|N 1 Z<|aO<|⟨⟨.inr Z,_,.cons Z .nil,eI (by rw[oH (by simpa using b)]),Z⟩,by rw[oH (by simpa using b)];rfl,Z⟩
def fQ(s:PS)(x:ByteArray)(hl:s.l.length<=1073741824)(b:s.a<=s.l.length):CtM 81 92 [.sl (s.l.map Tok.tree),nI s.a,bT s.bad] [sT x] (aa (aT x) s).2.cells (.sc (.bool (aa (aT x) s).1)):=by
 refine CtM.of (n:=8) func81 Z Z Z Z Z λw0 G0 c=>?_
 refine N 1 Z<|M<|ay 2 Z<|aH (r:=bT ((aa (aT x) s).1)) (bs':=[(92,[.sl (((aa (aT x) s).2.l).map Tok.tree),nI ((aa (aT x) s).2.a),bT ((aa (aT x) s).2.bad)])]) Z Z Z Z Z Z (x6 s 4 x hl b) Z Z Z Z<|H 1 Z<|aO<|⟨⟨.inr Z,_,.cons Z .nil,Z,Z⟩,Z,Z⟩
def ms(s:PS)(x:ByteArray)(hl:s.l.length<=1073741824)(b:s.a<=s.l.length):CtM 83 92 [.sl (s.l.map Tok.tree),nI s.a,bT s.bad] [sT x] (aa (a7 x) s).2.cells (.sc (.bool (aa (a7 x) s).1)):=by
 refine CtM.of (n:=8) func83 Z Z Z Z Z λw0 G0 c=>?_
 refine N 1 Z<|M<|ay 2 Z<|aH (r:=bT ((aa (a7 x) s).1)) (bs':=[(92,[.sl (((aa (a7 x) s).2.l).map Tok.tree),nI ((aa (a7 x) s).2.a),bT ((aa (a7 x) s).2.bad)])]) Z Z Z Z Z Z (x6 s 1 x hl b) Z Z Z Z<|H 1 Z<|aO<|⟨⟨.inr Z,_,.cons Z .nil,Z,Z⟩,Z,Z⟩
def lF(s:PS)(x:ByteArray)(hl:s.l.length<=1073741824)(c:s.a<=s.l.length):CtM 40 92 [.sl (s.l.map Tok.tree),nI s.a,bT s.bad] [sT x] (ak (aT x) s).2.cells (.tup []):=by
 refine CtM.of (n:=11) func40 Z Z Z Z Z λw0 G0 d=>?_
 refine M<|ay 2 Z<|aH (r:=bT ((aa (aT x) s).1)) (bs':=[(92,[.sl (((aa (aT x) s).2.l).map Tok.tree),nI ((aa (aT x) s).2.a),bT ((aa (aT x) s).2.bad)])]) Z Z Z Z Z Z (fQ s x hl c) Z Z Z Z<|C 0 (t:=bT (!((aa (aT x) s).1))) Z (dl Z Z Zy)<|K<|aF Z (λb=>?_) (λb=>?_)
 ·refine am<|C 1 (t:=.box 0 0) Z (a6 Z Z)<|H 2 Z<|⟨⟨.inl Z,_,.nil,Z,Z⟩,Cf b,Z⟩
 refine X<|⟨⟨.inl Z,_,.nil,Z,Z⟩,xZ b,Z⟩
def x7(s:ByteArray):Ct 188 [sT s] (bT (io s)):=by
 refine Ct.of (n:=29) func188 Z Z Z Z Z λw0 G0=>?_
 refine N 1 Z<|Y<|N 1 Z<|aG<|Y<|jZ ⟨29,[(4,bT (io s))],[],[]⟩ 0 0 ?_ ?_
 ·refine M<|aB 0 (t:=bT (decide (s=(⟨#[114,101,108,97,116,105,111,110]⟩:ByteArray)))) Z Z Zy (D (aM _ _))<|H 1 Z<|an Z (λq=>?_) (λq=>?_)
  ·refine X<|⟨Z,Z,Z,.cons (eI (by rw[q];decide+kernel)) Z .nil,Z⟩
  refine M<|aB 0 (t:=bT (decide (s=(⟨#[99,101,114,116,97,105,110]⟩:ByteArray)))) Z Z Zy (D (aM _ _))<|H 1 Z<|an Z (λr=>?_) (λr=>?_)
  ·refine X<|⟨Z,Z,Z,.cons (eI (by rw[r];decide+kernel)) Z .nil,Z⟩
  refine M<|aB 0 (t:=bT (decide (s=(⟨#[116,117,112,108,101]⟩:ByteArray)))) Z Z Zy (D (aM _ _))<|H 1 Z<|an Z (λu=>?_) (λu=>?_)
  ·refine X<|⟨Z,Z,Z,.cons (eI (by rw[u];decide+kernel)) Z .nil,Z⟩
  refine M<|aB 0 (t:=bT (decide (s=(⟨#[107,101,121]⟩:ByteArray)))) Z Z Zy (D (aM _ _))<|H 1 Z<|an Z (λv=>?_) (λv=>?_)
  ·refine X<|⟨Z,Z,Z,.cons (eI (by rw[v];decide+kernel)) Z .nil,Z⟩
  refine M<|aB 0 (t:=bT (decide (s=(⟨#[114,117,108,101]⟩:ByteArray)))) Z Z Zy (D (aM _ _))<|H 1 Z<|an Z (λw=>?_) (λw=>?_)
  ·refine X<|⟨Z,Z,Z,.cons (eI (by rw[w];decide+kernel)) Z .nil,Z⟩
  refine M<|aB 0 (t:=bT (decide (s=(⟨#[105,109,112,108,105,101,115]⟩:ByteArray)))) Z Z Zy (D (aM _ _))<|H 1 Z<|an Z (λx=>?_) (λx=>?_)
  ·refine X<|⟨Z,Z,Z,.cons (eI (by rw[x];decide+kernel)) Z .nil,Z⟩
  refine M<|aB 0 (t:=bT (decide (s=(⟨#[111,114]⟩:ByteArray)))) Z Z Zy (D (aM _ _))<|H 1 Z<|an Z (λy=>?_) (λy=>?_)
  ·refine X<|⟨Z,Z,Z,.cons (eI (by rw[y];decide+kernel)) Z .nil,Z⟩
  refine M<|aB 0 (t:=bT (decide (s=(⟨#[99,111,117,110,116]⟩:ByteArray)))) Z Z Zy (D (aM _ _))<|H 1 Z<|an Z (λz=>?_) (λz=>?_)
  ·refine X<|⟨Z,Z,Z,.cons (eI (by rw[z];decide+kernel)) Z .nil,Z⟩
  refine M<|aB 0 (t:=bT (decide (s=(⟨#[116,111]⟩:ByteArray)))) Z Z Zy (D (aM _ _))<|H 1 Z<|an Z (λA=>?_) (λA=>?_)
  ·refine X<|⟨Z,Z,Z,.cons (eI (by rw[A];decide+kernel)) Z .nil,Z⟩
  refine M<|aB 0 (t:=bT (decide (s=(⟨#[111,102]⟩:ByteArray)))) Z Z Zy (D (aM _ _))<|H 1 Z<|an Z (λa=>?_) (λa=>?_)
  ·refine X<|⟨Z,Z,Z,.cons (eI (by rw[a];decide+kernel)) Z .nil,Z⟩
  refine M<|aB 0 (t:=bT (decide (s=(⟨#[102,97,99,116,111,114]⟩:ByteArray)))) Z Z Zy (D (aM _ _))<|H 1 Z<|an Z (λb=>?_) (λb=>?_)
  ·refine X<|⟨Z,Z,Z,.cons (eI (by rw[b];decide+kernel)) Z .nil,Z⟩
  refine M<|aB 0 (t:=bT (decide (s=(⟨#[102,111,114]⟩:ByteArray)))) Z Z Zy (D (aM _ _))<|H 1 Z<|an Z (λc=>?_) (λc=>?_)
  ·refine X<|⟨Z,Z,Z,.cons (eI (by rw[c];decide+kernel)) Z .nil,Z⟩
  refine M<|aB 0 (t:=bT (decide (s=(⟨#[111,98,115,101,114,118,101]⟩:ByteArray)))) Z Z Zy (D (aM _ _))<|H 1 Z<|an Z (λd=>?_) (λd=>?_)
  ·refine X<|⟨Z,Z,Z,.cons (eI (by rw[d];decide+kernel)) Z .nil,Z⟩
  refine M<|aB 0 (t:=bT (decide (s=(⟨#[100,101,110,121]⟩:ByteArray)))) Z Z Zy (D (aM _ _))<|H 1 Z<|an Z (λe=>?_) (λe=>?_)
  ·refine X<|⟨Z,Z,Z,.cons (eI (by rw[e];decide+kernel)) Z .nil,Z⟩
  refine M<|aB 0 (t:=bT (decide (s=(⟨#[97,115,107]⟩:ByteArray)))) Z Z Zy (D (aM _ _))<|H 1 Z<|an Z (λf=>?_) (λf=>?_)
  ·refine X<|⟨Z,Z,Z,.cons (eI (by rw[f];decide+kernel)) Z .nil,Z⟩
  refine M<|aB 0 (t:=bT (decide (s=(⟨#[112,114,111,98,97,98,105,108,105,116,121]⟩:ByteArray)))) Z Z Zy (D (aM _ _))<|H 1 Z<|an Z (λg=>?_) (λg=>?_)
  ·refine X<|⟨Z,Z,Z,.cons (eI (by rw[g];decide+kernel)) Z .nil,Z⟩
  refine M<|aB 0 (t:=bT (decide (s=(⟨#[115,117,109]⟩:ByteArray)))) Z Z Zy (D (aM _ _))<|H 1 Z<|an Z (λh=>?_) (λh=>?_)
  ·refine X<|⟨Z,Z,Z,.cons (eI (by rw[h];decide+kernel)) Z .nil,Z⟩
  refine M<|aB 0 (t:=bT (decide (s=(⟨#[116,104,114,101,115,104,111,108,100]⟩:ByteArray)))) Z Z Zy (D (aM _ _))<|H 1 Z<|an Z (λi=>?_) (λi=>?_)
  ·refine X<|⟨Z,Z,Z,.cons (eI (by rw[i];decide+kernel)) Z .nil,Z⟩
  refine M<|aB 0 (t:=bT (decide (s=(⟨#[116,111,112]⟩:ByteArray)))) Z Z Zy (D (aM _ _))<|H 1 Z<|an Z (λj=>?_) (λj=>?_)
  ·refine X<|⟨Z,Z,Z,.cons (eI (by rw[j];decide+kernel)) Z .nil,Z⟩
  refine M<|aB 0 (t:=bT (decide (s=(⟨#[116,114,117,101]⟩:ByteArray)))) Z Z Zy (D (aM _ _))<|H 1 Z<|an Z (λk=>?_) (λk=>?_)
  ·refine X<|⟨Z,Z,Z,.cons (eI (by rw[k];decide+kernel)) Z .nil,Z⟩
  refine M<|aB 0 (t:=bT (decide (s=(⟨#[102,97,108,115,101]⟩:ByteArray)))) Z Z Zy (D (aM _ _))<|H 1 Z<|an Z (λl=>?_) (λl=>?_)
  ·refine X<|⟨Z,Z,Z,.cons (eI (by rw[l];decide+kernel)) Z .nil,Z⟩
  refine M<|aB 0 (t:=bT (decide (s=(⟨#[110,111,116]⟩:ByteArray)))) Z Z Zy (D (aM _ _))<|H 1 Z<|an Z (λm=>?_) (λm=>?_)
  ·refine X<|⟨Z,Z,Z,.cons (eI (by rw[m];decide+kernel)) Z .nil,Z⟩
  refine M<|aB 0 (t:=bT (decide (s=(⟨#[105,110,116]⟩:ByteArray)))) Z Z Zy (D (aM _ _))<|H 1 Z<|an Z (λo=>?_) (λo=>?_)
  ·refine X<|⟨Z,Z,Z,.cons (eI (by rw[o];decide+kernel)) Z .nil,Z⟩
  refine am<|aB 0 (t:=bT (decide (s=(⟨#[115,116,114,105,110,103]⟩:ByteArray)))) Z Z Zy (D (aM _ _))<|H 1 Z<|⟨Z,Z,Z,.cons (eI (by unfold io FJ;simp only[List.any_cons,List.any_nil,TI,Tg,decide_eq_false q,decide_eq_false r,decide_eq_false u,decide_eq_false v,decide_eq_false w,decide_eq_false x,decide_eq_false y,decide_eq_false z,decide_eq_false A,decide_eq_false a,decide_eq_false b,decide_eq_false c,decide_eq_false d,decide_eq_false e,decide_eq_false f,decide_eq_false g,decide_eq_false h,decide_eq_false i,decide_eq_false j,decide_eq_false k,decide_eq_false l,decide_eq_false m,decide_eq_false o])) Z .nil,Z⟩
 refine aF Z (λp=>?_) (λp=>?_)
 ·have B:=p;refine N 1 Z<|aV ⟨Z,eI B.symm,Z⟩ Z
 have B:=p;refine X<|N 1 Z<|aV ⟨Z,eI B.symm,Z⟩ Z
def vV(s:PS)(hl:s.l.length<=1073741824)(d:s.a<=s.l.length):CtM 139 92 [.sl (s.l.map Tok.tree),nI s.a,bT s.bad] [] (bI s).2.cells (.sc (.string (bI s).1)):=by
 refine CtM.of (n:=26) func139 Z Z Z Z Z λw0 G0 e=>?_
 refine N 1 Z<|M<|C 1 (t:=.agg [nI s.nxt.k,sT s.nxt.x]) Z (dS Z Z Z (vU s hl d) Z Z Z)<|H 2 Z<|Y<|M<|aB 2 Z Z Zy (D (qj s.nxt.k 1))<|ay 1 Z<|B Z Z Z Z (λc=>ao Z Z mP Z)<|B Z Z Z Z (λc=>aA Z (if_pos c) Z dL Z)<|B Z Z Z Z (λc=>aJ Z (x7 _) (dm (if_pos c) Z) Z)<|C 0 Z (eo Z Z Z Z)<|K<|aF Z (λb=>?_) (λb=>?_)
 ·refine M<|C 1 (t:=.box 0 0) Z (a6 Z Z)<|H 2 Z<|N 1 Z<|aO<|⟨⟨.inr Z,_,.cons Z .nil,cT (by rw[Ce b];rfl),Z⟩,je (Ce b),Z⟩
 refine X<|M<|C 1 (t:=.box 0 0) Z (a6 Z Z)<|bA 2 (s.a+1) Z Z Zy O0<|C 0 (t:=.box 0 0) Z (a6 Z Z)<|H 2 Z<|N 3 Z<|aO<|⟨⟨.inr Z,_,.cons Z .nil,cT (by rw[xY b]),Z⟩,je (xY b),Z⟩
end Go.Proofs.YtmhcanmapkenbaaGreatDoor
namespace Go.Proofs.YtmhcanmapkenbaaGreatDoor
def PS.In(s:PS):Prop:=s.a<=s.l.length
def Kp{α:Type}(f:PS->α×PS):Prop:=∀s,s.In->(f s).2.In/\(f s).2.l=s.l
def nq{s:PS}(h:s.nxt≠dN):s.a+1<=s.l.length:=by
 unfold PS.nxt at h;split at h
 ·exact absurd Z h
 next h1=>exact Nat.lt_of_not_le λb=>h1 (.inr b)
def Lx{s:PS}{k:Nat}(h:s.nxt.k=k)(b:k≠0):s.a+1<=s.l.length:=nq λe=>by rw[e]at h;exact b h.symm
def jR{s:PS}(h:s.a+1<=s.l.length):s.adv.In/\s.adv.l=s.l:=⟨h,Z⟩
def kJ{s:PS}(h:s.In):s.fail.In/\s.fail.l=s.l:=⟨h,Z⟩
section
variable {α β:Type}
def Kp.pure(v:α):Kp (λs=>(v,s)):=λ_ h=>⟨h,Z⟩
def Kp.bind{f:PS->α×PS}{a:α->PS->β×PS}(h:Kp f)(d:∀v,Kp (a v)):Kp (λs=>a (f s).1 (f s).2):=λs e=>by
 have b:=h s e;have c:=d (f s).1 (f s).2 b.1;exact⟨c.1,c.2.trans b.2⟩
def Kp.i{a c:PS->α×PS}(b:Bool)(d:Kp a)(e:Kp c):Kp (fI b a c):=by
 cases b
 ·exact e
 exact d
def uA{a c:PS->α×PS}(b:Bool)(d:Kp a)(e:Kp c):Kp (λs=>if b=true then a s else c s):=Kp.i b d e
def oJ{a b:PS->α×PS}(c:PS->Bool)(e:Kp a)(f:Kp b):Kp (λs=>if c s=true then a s else b s):=λs d=>by
 dsimp only;split
 ·exact e s d
 exact f s d
def ch{c:Tok->Bool}(a:c dN=false):Kp (aa c):=λs b=>by
 unfold aa;split
 ·next h=>exact jR (nq λe=>by rw[e,a]at h;cases h)
 exact⟨b,Z⟩
def fb{c:Tok->Bool}(a:c dN=false):Kp (ak c):=λs b=>by
 unfold ak;dsimp only;split
 ·next h=>exact jR (nq λe=>by rw[e,a]at h;cases h)
 exact kJ b
def kK{c:Tok->Bool}(d:c dN=false){f:β->PS->β×PS}(h:∀b,Kp (f b)):∀(n:Nat) (b:β),Kp (cD c f n b)
 |0,_=>λ_ a=>⟨a,Z⟩
 |n+1,b=>λs a=>by
  rw[cD];split
  ·next hc=>
   have j:=jR (nq (s:=s) λe=>by rw[e,d]at hc;cases hc);have g:=h b s.adv j.1;have i:=kK d h n (f b s.adv).1 (f b s.adv).2 g.1;exact⟨i.1,i.2.trans g.2⟩
  exact⟨a,Z⟩
end
def fS:Kp bI:=λs a=>by
 unfold bI;split
 ·exact kJ a
 next h=>exact jR (Lx (k:=1) (Classical.byContradiction λe=>h (.inl e)) I)
def Eb:Kp dY:=λs a=>by
 unfold dY;split
 ·exact kJ a
 next h=>
 have b:s.nxt≠dN:=λe=>h (by rw[e];decide)
 split
 ·exact jR (nq b)
 exact kJ a
def fT:Kp aK:=oJ (λs=>decide (s.nxt.k=1)) (Kp.bind fS λv=>Kp.pure (⟨v,V.zero⟩:Trm)) (Kp.bind Eb λv=>Kp.pure (⟨b9,v⟩:Trm))
def Ec(N:Nat):Kp (dj N):=Kp.bind (fb Z) λ_=>Kp.bind (ch Z) λb=>uA b (Kp.pure []) (Kp.bind fT λt=>Kp.bind (kK Z (λl=>Kp.bind fT λv=>Kp.pure (l++[v])) N [t]) λm=>Kp.bind (fb Z) λ_=>Kp.pure m)
def FZ:Kp gH:=λs b=>by
 unfold gH;have key:∀x,aT x s.nxt=true->s.a+1<=s.l.length:=λx h=>nq λe=>by rw[e]at h;cases h
 split
 ·next h=>exact jR (key _ h)
 split
 ·next h=>exact jR (key _ h)
 split
 ·next h=>exact jR (key _ h)
 split
 ·next h=>exact jR (key _ h)
 exact kJ b
def lG(N:Nat)(c:Cq):Kp (dE N c):=Kp.bind (ch (c:=a7 au) Z) λn=>oJ (λs=>n||(s.call&&decide (s.nxt.k=1))) (Kp.bind fS λa=>Kp.bind (Ec N) λt=>Kp.pure (Cq.mk (c.al++[Atm.mk a n t]) c.cl)) (Kp.bind fT λx=>Kp.bind FZ λo=>Kp.bind fT λy=>Kp.pure (Cq.mk c.al (c.cl++[Cpr.mk o x y])))
def vW(N:Nat):Kp (lk N):=Kp.bind (ch Z) λb=>uA b (Kp.pure (⟨[],[]⟩:Cq)) (Kp.bind (lG N ⟨[],[]⟩) λx=>kK Z (lG N) N x)
def py(N:Nat):Kp (e8 N):=Kp.bind fS λt=>kK Z (λl=>Kp.bind fS λv=>Kp.pure (l++[v])) N [t]
