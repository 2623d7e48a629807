import Derived.Test.YtmhcanmapkenbaaGreatDoorA23
set_option maxRecDepth 100000
set_option maxHeartbeats 4000000
set_option linter.defProp false
open Go.Proofs.Tryz
namespace Go.Proofs.YtmhcanmapkenbaaGreatDoor
open Go.RowKit
def eR:eN prog 41=true:=U
def sE(a b:Trm):Ct 186 [a.tree,b.tree] (bT (jE a b)):=by
 refine Ct.of (n:=23) func186 Z Z Z Z Z λw0 G0=>?_
 refine N 3 Z<|Y<|M<|aB 2 (t:=bT (decide (¬a.v=b9))) Z Z Zy (D (ji _ _))<|ay 1 Z<|B Z Z Z Z (λe=>ao Z Z jS Z)<|B Z Z Z Z (λe=>aA Z (if_pos e) Z dL Z)<|B (t:=bT (decide (¬b.v=b9))) Z Z Z Z (λe=>av (aL Z (if_pos e) Z (λ_=>rfl)) (D (ji _ _)))<|C 0 Z (eo Z Z Z Z)<|K<|aF Z (λd=>?_) (λd=>?_)
 ·refine M<|aB 4 (t:=bT (decide (a.v=b.v))) Z Z Zy (D (aM _ _))<|H 1 Z<|aV ⟨Z,eI (if_pos d).symm,Z⟩ Z
 refine X<|M<|C 4 (t:=bT (yj a.c b.c)) Z (wa [.int .i64 a.c.t,.int .i64 a.c.n,.string a.c.s] [.int .i64 b.c.t,.int .i64 b.c.n,.string b.c.s] Z Z Z (λw=>Ek a.c b.c w))<|H 1 Z<|aV ⟨Z,eI (if_neg (by rw[d];exact Qk)).symm,Z⟩ Z
def J1(l m:List Trm)(u:l.length<=1073741824):Ct 185 [.sl (l.map Trm.tree),.sl (m.map Trm.tree),.sc (.func (.func 186) #[] #[])] (bT (pa jE l m)):=by
 refine Ct.of (n:=32) func185 Z Z Z Z Z λw0 G0=>?_
 refine N 1 Z<|Y<|M<|C 1 Z (bg Z bK Z)<|C 1 Z (bg Z bK Z)<|aB 0 Z Z Zy (D (qj l.length m.length))<|K<|an Z (λg=>?_) (λg=>?_)
 ·have d:¬l.length=m.length:=g;refine N 1 Z<|aV ⟨Z,eI (kO d).symm,Z⟩ Z
 have d:l.length=m.length:=RF.1 g;refine X<|Y<|M<|C 1 Z (bg Z bK Z)<|H 1 Z<|aG<|bn (λr o=>∃(i:Nat),(i<=l.length/\((l.zip m).take i).all (λq=>(jE) q.1 q.2)=true)/\r=l.length-i/\o=⟨32,[(0,.sl (l.map Trm.tree)),(1,.sl (m.map Trm.tree)),(2,.sc (.func (.func 186) #[] #[])),(15,.sl (l.map Trm.tree)),(16,nI l.length),(17,nI i)],[],[]⟩) 0 0 ⟨0,⟨O0,Z⟩,Z,Z⟩ .rf ?_;rintro r o ⟨i,⟨w,e⟩,rfl,rfl⟩;refine M<|aB 0 Z Z Zy (D (iL i l.length))<|K<|Y<|an Z (λj=>?_) (λj=>?_)
 ·obtain⟨a,hl⟩:∃a,l[i]? =some a:=⟨_,Qj j⟩;obtain⟨b,k⟩:∃b,m[i]? =some b:=⟨_,Qj O0⟩;refine X<|Y<|aG<|M<|C 1 (t:=.ref [sT a.v,iT a.c.t,iT a.c.n,sT a.c.s]) Z (aY (Trm.tree a) Z bK Z Z Z (bi (f:=Trm.tree) hl) (fx _) Z)<|H 4 Z<|M<|C 2 (t:=.ref [sT b.v,iT b.c.t,iT b.c.n,sT b.c.s]) Z (aY (Trm.tree b) Z bK Z Z Z (bi (f:=Trm.tree) k) (fx _) Z)<|H 3 Z<|M<|C 3 (t:=bT (jE a b)) Z (oo Z Z (sE a b) Z Z)<|C 0 (t:=bT (!(jE a b))) Z (dl Z Z Zy)<|K<|aF Z (λh=>?_) (λh=>?_)
  ·refine N 1 Z<|aV ⟨Z,eI (nz (p:=jE) hl k (by simpa using h)).symm,Z⟩ Z
  refine X<|am<|bA 0 (i+1) Z Z Zy O0<|H 1 Z<|⟨_,_,?_,⟨i+1,?_,Z,Z⟩,.rf⟩
  ·omega
  exact⟨O0,jj (p:=jE) hl k (by simpa using h) e⟩
 refine bh<|N 1 Z<|aV ⟨Z,eI (kP d O0 e).symm,Z⟩ Z
def Gd(a b:Atm)(d:a.ts.length<=1073741824):Ct 130 [a.tree,b.tree] (bT (la a b)):=by
 refine Ct.of (n:=24) func130 Z Z Z Z Z λw0 G0=>?_
 refine N 3 Z<|M<|aB 4 (t:=bT (decide (a.r=b.r))) Z Z Zy (D (aM _ _))<|ay 1 Z<|B Z Z Z Z (λc=>ao Z Z g9 Z)<|B Z Z Z Z (λc=>aA Z (if_pos c) Z eC Z)<|B Z Z Z Z (λc=>ao Z Z g9 Z)<|B Z Z Z Z (λc=>aA Z (if_pos c) Z eC Z)<|B (t:=bT (a.ng==b.ng)) Z Z Z Z (λc=>aL Z (if_pos c) (if_pos c) (λ_=>rfl))<|C 0 Z (bR Z Z Z Z)<|ay 1 Z<|B Z Z Z Z (λc=>ao Z Z ce Z)<|B Z Z Z Z (λc=>aA Z (if_pos c) Z cX Z)<|B Z Z Z Z (λc=>ao Z Z ce Z)<|B Z Z Z Z (λc=>aA Z (if_pos c) Z cX Z)<|B Z Z Z Z (λc=>aJ Z (J1 a.ts b.ts d) (dm (if_pos c) (dm (if_pos c) (dm Z Z))) Z)<|C 0 Z (bR Z Z Z Z)<|H 1 Z<|aV ⟨Z,Z,Z⟩ Z
def Ge(a b:Cpr):Ct 132 [a.tree,b.tree] (bT (lb a b)):=by
 refine Ct.of (n:=24) func132 Z Z Z Z Z λw0 G0=>?_
 refine N 3 Z<|M<|aB 4 Z Z Zy (D (e9 a.op b.op))<|ay 1 Z<|B Z Z Z Z (λc=>ao Z Z ej Z)<|B Z Z Z Z (λc=>bw Z (if_pos c) Z bJ Z Z)<|B Z Z Z Z (λc=>ao Z Z ej Z)<|B Z Z Z Z (λc=>bw Z (if_pos c) Z bJ Z Z)<|B Z Z Z Z (λc=>aJ Z (sE a.l b.l) (dm (if_pos c) (dm (if_pos c) Z)) Z)<|C 0 Z (bR Z Z Z Z)<|ay 1 Z<|B Z Z Z Z (λc=>ao Z Z ek Z)<|B Z Z Z Z (λc=>bw Z (if_pos c) Z bJ Z Z)<|B Z Z Z Z (λc=>ao Z Z ek Z)<|B Z Z Z Z (λc=>bw Z (if_pos c) Z bJ Z Z)<|B Z Z Z Z (λc=>aJ Z (sE a.r b.r) (dm (if_pos c) (dm (if_pos c) Z)) Z)<|C 0 Z (bR Z Z Z Z)<|H 1 Z<|aV ⟨Z,Z,Z⟩ Z
def J2(l m:List Cpr)(w:l.length<=1073741824):Ct 131 [.sl (l.map Cpr.tree),.sl (m.map Cpr.tree),.sc (.func (.func 132) #[] #[])] (bT (pa lb l m)):=by
 refine Ct.of (n:=32) func131 Z Z Z Z Z λw0 G0=>?_
 refine N 1 Z<|Y<|M<|C 1 Z (bg Z bZ Z)<|C 1 Z (bg Z bZ Z)<|aB 0 Z Z Zy (D (qj l.length m.length))<|K<|an Z (λg=>?_) (λg=>?_)
 ·have d:¬l.length=m.length:=g;refine N 1 Z<|aV ⟨Z,eI (kO d).symm,Z⟩ Z
 have d:l.length=m.length:=RF.1 g;refine X<|Y<|M<|C 1 Z (bg Z bZ Z)<|H 1 Z<|aG<|bn (λu o=>∃(i:Nat),(i<=l.length/\((l.zip m).take i).all (λq=>(lb) q.1 q.2)=true)/\u=l.length-i/\o=⟨32,[(0,.sl (l.map Cpr.tree)),(1,.sl (m.map Cpr.tree)),(2,.sc (.func (.func 132) #[] #[])),(15,.sl (l.map Cpr.tree)),(16,nI l.length),(17,nI i)],[],[]⟩) 0 0 ⟨0,⟨O0,Z⟩,Z,Z⟩ .rf ?_;rintro u o ⟨i,⟨x,e⟩,rfl,rfl⟩;refine M<|aB 0 Z Z Zy (D (iL i l.length))<|K<|Y<|an Z (λj=>?_) (λj=>?_)
 ·obtain⟨a,hl⟩:∃a,l[i]? =some a:=⟨_,Qj j⟩;obtain⟨b,k⟩:∃b,m[i]? =some b:=⟨_,Qj O0⟩;refine X<|Y<|aG<|M<|C 1 (t:=.ref [nI a.op,sT a.l.v,iT a.l.c.t,iT a.l.c.n,sT a.l.c.s,sT a.r.v,iT a.r.c.t,iT a.r.c.n,sT a.r.c.s]) Z (aY (Cpr.tree a) Z bZ Z Z Z (bi (f:=Cpr.tree) hl) (gk _) Z)<|H 4 Z<|M<|C 2 (t:=.ref [nI b.op,sT b.l.v,iT b.l.c.t,iT b.l.c.n,sT b.l.c.s,sT b.r.v,iT b.r.c.t,iT b.r.c.n,sT b.r.c.s]) Z (aY (Cpr.tree b) Z bZ Z Z Z (bi (f:=Cpr.tree) k) (gk _) Z)<|H 3 Z<|M<|C 3 (t:=bT (lb a b)) Z (oo Z Z (Ge a b) Z Z)<|C 0 (t:=bT (!(lb a b))) Z (dl Z Z Zy)<|K<|aF Z (λh=>?_) (λh=>?_)
  ·refine N 1 Z<|aV ⟨Z,eI (nz (p:=lb) hl k (by simpa using h)).symm,Z⟩ Z
  refine X<|am<|bA 0 (i+1) Z Z Zy O0<|H 1 Z<|⟨_,_,?_,⟨i+1,?_,Z,Z⟩,.rf⟩
  ·omega
  exact⟨O0,jj (p:=lb) hl k (by simpa using h) e⟩
 refine bh<|N 1 Z<|aV ⟨Z,eI (kP d O0 e).symm,Z⟩ Z
def J3(l m:List ByteArray)(r:l.length<=1073741824):Ct 75 [.sl (l.map aE),.sl (m.map aE)] (bT (pa (λx y:ByteArray=>decide (x=y)) l m)):=by
 refine Ct.of (n:=26) func75 Z Z Z Z Z λw0 G0=>?_
 refine N 1 Z<|Y<|M<|C 1 Z (bg Z bc Z)<|C 1 Z (bg Z bc Z)<|aB 0 Z Z Zy (D (qj l.length m.length))<|K<|an Z (λe=>?_) (λe=>?_)
 ·have c:¬l.length=m.length:=e;refine N 1 Z<|aV ⟨Z,eI (kO c).symm,Z⟩ Z
 have c:l.length=m.length:=RF.1 e;refine X<|Y<|M<|C 1 Z (bg Z bc Z)<|H 1 Z<|aG<|bn (λo k=>∃(i:Nat),(i<=l.length/\((l.zip m).take i).all (λq=>(λx y:ByteArray=>decide (x=y)) q.1 q.2)=true)/\o=l.length-i/\k=⟨26,[(0,.sl (l.map aE)),(1,.sl (m.map aE)),(11,.sl (l.map aE)),(12,nI l.length),(13,nI i)],[],[]⟩) 0 0 ⟨0,⟨O0,Z⟩,Z,Z⟩ .rf ?_;rintro o k ⟨i,⟨s,d⟩,rfl,rfl⟩;refine M<|aB 0 Z Z Zy (D (iL i l.length))<|K<|Y<|an Z (λh=>?_) (λh=>?_)
 ·obtain⟨a,hl⟩:∃a,l[i]? =some a:=⟨_,Qj h⟩;obtain⟨b,j⟩:∃b,m[i]? =some b:=⟨_,Qj O0⟩;refine X<|Y<|aG<|N 2 Z<|Y<|cu (fu:=9) _ [.sl (l.map aE),nI i,.ref [sT a],sT a,.sl (m.map aE),nI i,.ref [sT b],sT b,bT (!decide (a=b))] U0 Z Z U0 Z ?_ ?_
  ·refine Chain.op Z (E Z Z)<|Chain.op Z (E Z Z)<|Chain.op Z (aY (aE a) Z bc Z Z Z (bi (f:=aE) hl) (gQ _) Z)<|Chain.op Z (aX Z Z dL Z)<|Chain.op Z (E Z Z)<|Chain.op Z (E Z Z)<|Chain.op Z (aY (aE b) Z bc Z Z Z (bi (f:=aE) j) (gQ _) Z)<|Chain.op Z (aX Z Z dL Z)<|Chain.op Z (av (aL Z Z Z Zy) (D (congrArg (!·) (aM _ _))))<|Chain.nil
  refine aF Z (λg=>?_) (λg=>?_)
  ·refine N 1 Z<|aV ⟨Z,eI (nz (p:=λx y:ByteArray=>decide (x=y)) hl j (by simpa using g)).symm,Z⟩ Z
  refine X<|am<|bA 0 (i+1) Z Z Zy O0<|H 1 Z<|⟨_,_,?_,⟨i+1,?_,Z,Z⟩,.rf⟩
  ·omega
  exact⟨O0,jj (p:=λx y:ByteArray=>decide (x=y)) hl j (by simpa using g) d⟩
 refine bh<|N 1 Z<|aV ⟨Z,eI (kP c O0 d).symm,Z⟩ Z
def J4(l m:List Atm)(v:l.length<=1073741824)(h:∀a∈l,a.ts.length<=1073741824):Ct 129 [.sl (l.map Atm.tree),.sl (m.map Atm.tree),.sc (.func (.func 130) #[] #[])] (bT (pa la l m)):=by
 refine Ct.of (n:=32) func129 Z Z Z Z Z λw0 G0=>?_
 refine N 1 Z<|Y<|M<|C 1 Z (bg Z bq Z)<|C 1 Z (bg Z bq Z)<|aB 0 Z Z Zy (D (qj l.length m.length))<|K<|an Z (λe=>?_) (λe=>?_)
 ·have c:¬l.length=m.length:=e;refine N 1 Z<|aV ⟨Z,eI (kO c).symm,Z⟩ Z
 have c:l.length=m.length:=RF.1 e;refine X<|Y<|M<|C 1 Z (bg Z bq Z)<|H 1 Z<|aG<|bn (λu s=>∃(i:Nat),(i<=l.length/\((l.zip m).take i).all (λq=>(la) q.1 q.2)=true)/\u=l.length-i/\s=⟨32,[(0,.sl (l.map Atm.tree)),(1,.sl (m.map Atm.tree)),(2,.sc (.func (.func 130) #[] #[])),(15,.sl (l.map Atm.tree)),(16,nI l.length),(17,nI i)],[],[]⟩) 0 0 ⟨0,⟨O0,Z⟩,Z,Z⟩ .rf ?_;rintro u s ⟨i,⟨w,d⟩,rfl,rfl⟩;refine M<|aB 0 Z Z Zy (D (iL i l.length))<|K<|Y<|an Z (λj=>?_) (λj=>?_)
 ·obtain⟨a,hl⟩:∃a,l[i]? =some a:=⟨_,Qj j⟩;obtain⟨b,k⟩:∃b,m[i]? =some b:=⟨_,Qj O0⟩;have o:=h a (Qo hl);refine X<|Y<|aG<|M<|C 1 (t:=.ref [sT a.r,bT a.ng,.sl (a.ts.map Trm.tree)]) Z (aY (Atm.tree a) Z bq Z Z Z (bi (f:=Atm.tree) hl) (cL _) Z)<|H 4 Z<|M<|C 2 (t:=.ref [sT b.r,bT b.ng,.sl (b.ts.map Trm.tree)]) Z (aY (Atm.tree b) Z bq Z Z Z (bi (f:=Atm.tree) k) (cL _) Z)<|H 3 Z<|M<|C 3 (t:=bT (la a b)) Z (oo Z Z (Gd a b o) Z Z)<|C 0 (t:=bT (!(la a b))) Z (dl Z Z Zy)<|K<|aF Z (λg=>?_) (λg=>?_)
  ·refine N 1 Z<|aV ⟨Z,eI (nz (p:=la) hl k (by simpa using g)).symm,Z⟩ Z
  refine X<|am<|bA 0 (i+1) Z Z Zy O0<|H 1 Z<|⟨_,_,?_,⟨i+1,?_,Z,Z⟩,.rf⟩
  ·omega
  exact⟨O0,jj (p:=la) hl k (by simpa using g) d⟩
 refine bh<|N 1 Z<|aV ⟨Z,eI (kP c O0 d).symm,Z⟩ Z
def Gf(a b:Cq)(h:(a.al.length<=1073741824/\(∀x∈a.al,x.ts.length<=1073741824)/\a.cl.length<=1073741824)):Ct 77 [a.tree,b.tree] (bT (gD a b)):=by
 refine Ct.of (n:=17) func77 Z Z Z Z Z λw0 G0=>?_
 refine N 3 Z<|M<|C 4 Z (aJ Z (J4 a.al b.al h.1 h.2.1) Z Z)<|ay 1 Z<|B Z Z Z Z (λc=>ao Z Z cR Z)<|B Z Z Z Z (λc=>aA Z (if_pos c) Z dW Z)<|B Z Z Z Z (λc=>ao Z Z cR Z)<|B Z Z Z Z (λc=>aA Z (if_pos c) Z dW Z)<|B Z Z Z Z (λc=>aJ Z (J2 a.cl b.cl h.2.2) (dm (if_pos c) (dm (if_pos c) (dm Z Z))) Z)<|C 0 Z (bR Z Z Z Z)<|H 1 Z<|aV ⟨Z,Z,Z⟩ Z
def J5(l m:List Cq)(u:l.length<=1073741824)(h:∀a∈l,(a.al.length<=1073741824/\(∀x∈a.al,x.ts.length<=1073741824)/\a.cl.length<=1073741824)):Ct 76 [.sl (l.map Cq.tree),.sl (m.map Cq.tree),.sc (.func (.func 77) #[] #[])] (bT (pa gD l m)):=by
 refine Ct.of (n:=32) func76 Z Z Z Z Z λw0 G0=>?_
 refine N 1 Z<|Y<|M<|C 1 Z (bg Z bQ Z)<|C 1 Z (bg Z bQ Z)<|aB 0 Z Z Zy (D (qj l.length m.length))<|K<|an Z (λe=>?_) (λe=>?_)
 ·have c:¬l.length=m.length:=e;refine N 1 Z<|aV ⟨Z,eI (kO c).symm,Z⟩ Z
 have c:l.length=m.length:=RF.1 e;refine X<|Y<|M<|C 1 Z (bg Z bQ Z)<|H 1 Z<|aG<|bn (λs r=>∃(i:Nat),(i<=l.length/\((l.zip m).take i).all (λq=>(gD) q.1 q.2)=true)/\s=l.length-i/\r=⟨32,[(0,.sl (l.map Cq.tree)),(1,.sl (m.map Cq.tree)),(2,.sc (.func (.func 77) #[] #[])),(15,.sl (l.map Cq.tree)),(16,nI l.length),(17,nI i)],[],[]⟩) 0 0 ⟨0,⟨O0,Z⟩,Z,Z⟩ .rf ?_;rintro s r ⟨i,⟨v,d⟩,rfl,rfl⟩;refine M<|aB 0 Z Z Zy (D (iL i l.length))<|K<|Y<|an Z (λj=>?_) (λj=>?_)
 ·obtain⟨a,hl⟩:∃a,l[i]? =some a:=⟨_,Qj j⟩;obtain⟨b,k⟩:∃b,m[i]? =some b:=⟨_,Qj O0⟩;have o:=h a (Qo hl);refine X<|Y<|aG<|M<|C 1 (t:=.ref [.sl (a.al.map Atm.tree),.sl (a.cl.map Cpr.tree)]) Z (aY (Cq.tree a) Z bQ Z Z Z (bi (f:=Cq.tree) hl) (fh _) Z)<|H 4 Z<|M<|C 2 (t:=.ref [.sl (b.al.map Atm.tree),.sl (b.cl.map Cpr.tree)]) Z (aY (Cq.tree b) Z bQ Z Z Z (bi (f:=Cq.tree) k) (fh _) Z)<|H 3 Z<|M<|C 3 (t:=bT (gD a b)) Z (oo Z Z (Gf a b o) Z Z)<|C 0 (t:=bT (!(gD a b))) Z (dl Z Z Zy)<|K<|aF Z (λg=>?_) (λg=>?_)
  ·refine N 1 Z<|aV ⟨Z,eI (nz (p:=gD) hl k (by simpa using g)).symm,Z⟩ Z
  refine X<|am<|bA 0 (i+1) Z Z Zy O0<|H 1 Z<|⟨_,_,?_,⟨i+1,?_,Z,Z⟩,.rf⟩
  ·omega
  exact⟨O0,jj (p:=gD) hl k (by simpa using g) d⟩
 refine bh<|N 1 Z<|aV ⟨Z,eI (kP c O0 d).symm,Z⟩ Z
def yk(a b:List ByteArray×List Cq)(e:a.1.length<=1073741824)(f:a.2.length<=1073741824)(g:∀c∈a.2,(c.al.length<=1073741824/\(∀x∈c.al,x.ts.length<=1073741824)/\c.cl.length<=1073741824)):Ct 35 [oM a,oM b] (bT (iu a b)):=by
 refine Ct.of (n:=17) func35 Z Z Z Z Z λw0 G0=>?_
 refine N 3 Z<|M<|C 4 Z (aJ Z (J3 a.1 b.1 e) Z Z)<|ay 1 Z<|B Z Z Z Z (λd=>ao Z Z dB Z)<|B Z Z Z Z (λd=>aA Z (if_pos d) Z eR Z)<|B Z Z Z Z (λd=>ao Z Z dB Z)<|B Z Z Z Z (λd=>aA Z (if_pos d) Z eR Z)<|B Z Z Z Z (λd=>aJ Z (J5 a.2 b.2 f g) (dm (if_pos d) (dm (if_pos d) (dm Z Z))) Z)<|C 0 Z (bR Z Z Z Z)<|H 1 Z<|aV ⟨Z,Z,Z⟩ Z
attribute [local irreducible] aC iu bF
noncomputable def fA (q:List ByteArray×List Cq):Option ByteArray:=(v8 q.2).map λt=>if 0<q.1.length then(bF q.1++(⟨#[58,32]⟩:ByteArray))++t else t
noncomputable def wc (q:List ByteArray×List Cq):ByteArray:=match fA q with
 |none=>b9
 |some t=>if((aC t).2 !=0|| !(iu q (aC t).1))=true then b9 else t
def J6{q:List ByteArray×List Cq}(h:v8 q.2=none):b9=wc q:=by unfold wc fA;rw[h];rfl
def OZ{q:List ByteArray×List Cq}{t:ByteArray}(h:fA q=some t)(a:((aC t).2 !=0|| !(iu q (aC t).1))=true):b9=wc q:=by
 unfold wc;rw[h];exact(if_pos a).symm
def M4{q:List ByteArray×List Cq}{t:ByteArray}(h:fA q=some t)(a:((aC t).2 !=0|| !(iu q (aC t).1))=false):t=wc q:=by
 unfold wc;rw[h];exact(if_neg (by rw[a];exact Qk)).symm
def we{q:List ByteArray×List Cq}{t:ByteArray}(h:v8 q.2=some t)(a:0<q.1.length):fA q=some ((bF q.1++(⟨#[58,32]⟩:ByteArray))++t):=by unfold fA;rw[h];exact congrArg some (if_pos a)
def sF{q:List ByteArray×List Cq}{t:ByteArray}(h:v8 q.2=some t)(a:¬0<q.1.length):fA q=some t:=by unfold fA;rw[h];exact congrArg some (if_neg a)
def J7(q:List ByteArray×List Cq)(u:q.1.length<=1000000)(E:(jn [44,32] 0 q.1).length<=1073741000)(l:QB q.2)(m:∀t,fA q=some t->t.size<=1073741824):Ct 13 [oM q] (sT (wc q)):=by
 have A:=l.n;have p:∀c∈q.2,c.al.length<=1073741824/\(∀x∈c.al,x.ts.length<=1073741824)/\c.cl.length<=1073741824:=λc v=>by
  have h:=l.b c v;exact⟨Qu h.na I0,λx z=>Qu (h.nt x z) I0,Qu h.nc I0⟩
 have y:=kN q.1;have w:(⟨#[58,32]⟩:ByteArray).size=2:=rfl;have o:∀t,v8 q.2=some t->t.size<=1073741824:=λt r=>by
  by_cases h:0<q.1.length
  ·have:=m _ (we r h);rw[Qq]at this;omega
  exact m _ (sF r h)
 refine Ct.of (n:=39) func13 Z Z Z Z Z λw0 G0=>?_
 refine N 2 Z<|Y ?_;rcases e:v8 q.2 with _|t
 ·refine am<|C 2 Z (aJ Z (OY e▸yi q.2 l) Z Z)<|H 5 Z<|Y<|M<|C 1 (t:=bT true) Z (dl Z Z Zy)<|K<|aF (b:=true) Z (λ_=>?_) (λh=>by cases h);refine N 1 Z<|aV ⟨Z,cT (J6 e),Z⟩ Z
 have s:=o t e;refine am<|C 2 Z (aJ Z (OX e▸yi q.2 l) Z Z)<|H 5 Z<|Y<|M<|C 1 (t:=bT false) Z (dl Z Z Zy)<|K<|aF (b:=false) Z (λh=>by cases h) (λ_=>?_);refine X<|Y<|M<|C 2 Z (bg Z bc Z)<|aB 0 Z Z Zy (D (DF (q.1.length) 0))<|K<|an Z (λg=>?_) (λg=>?_)
 ·have a:=we e g;have k:=m _ a;refine am<|C 2 Z (aJ Z (yh q.1 u O0) Z Z)<|C 0 (t:=sT ((bF q.1)++(⟨#[58,32]⟩))) Z (aL Z Z Z (λ_=>cB (by(try simp only[Qq]at*);omega)))<|C 1 (t:=sT (((bF q.1)++(⟨#[58,32]⟩))++t)) Z (aL Z Z Z (λ_=>cB (by(try simp only[Qq]at*);omega)))<|H 1 Z<|M<|C 1 Z (aJ Z (ka (((bF q.1)++(⟨#[58,32]⟩))++t) k) Z Z)<|H 6 Z<|Y<|M<|C 1 (t:=bT (((aC (((bF q.1)++(⟨#[58,32]⟩))++t)).2) !=0)) Z (aL Z Z Z Zy)<|ay 1 Z<|B Z Z Z Z (λd=>bw Z Z Z bu Z Z)<|B Z Z Z Z (λd=>bw Z Z Z bu Z Z)<|B Z Z Z Z (λd=>aJ Z (yk q (aC (((bF q.1)++(⟨#[58,32]⟩))++t)).1 O0 O0 p) (dm (if_pos d) (dm (if_pos d) Z)) Z)<|B (t:=bT (!(iu q (aC (((bF q.1)++(⟨#[58,32]⟩))++t)).1))) Z Z Z Z (λd=>dl Z (if_pos d) (λ_=>rfl))<|C 0 Z (eo Z Z Z Z)<|K<|aF Z (λi=>?_) (λi=>?_)
  ·have f:=i;refine N 1 Z<|aV ⟨Z,cT (OZ a f),Z⟩ Z
  have f:=i;refine X<|N 2 Z<|aV ⟨Z,cT (M4 a f),Z⟩ Z
 have a:=sF e g;have k:=m _ a;refine X<|M<|C 1 Z (aJ Z (ka t k) Z Z)<|H 6 Z<|Y<|M<|C 1 (t:=bT (((aC t).2) !=0)) Z (aL Z Z Z Zy)<|ay 1 Z<|B Z Z Z Z (λd=>bw Z Z Z bu Z Z)<|B Z Z Z Z (λd=>bw Z Z Z bu Z Z)<|B Z Z Z Z (λd=>aJ Z (yk q (aC t).1 O0 O0 p) (dm (if_pos d) (dm (if_pos d) Z)) Z)<|B (t:=bT (!(iu q (aC t).1))) Z Z Z Z (λd=>dl Z (if_pos d) (λ_=>rfl))<|C 0 Z (eo Z Z Z Z)<|K<|aF Z (λj=>?_) (λj=>?_)
 ·have f:=j;refine N 1 Z<|aV ⟨Z,cT (OZ a f),Z⟩ Z
 have f:=j;refine X<|N 2 Z<|aV ⟨Z,cT (M4 a f),Z⟩ Z
def li:List ByteArray:=[⟨#[82,40,120,44,32,121,41]⟩,⟨#[82,40,120,44,32,121,41,44,32,83,40,121,41]⟩,⟨#[82,40,120,44,32,121,41,44,32,83,40,120,41]⟩,⟨#[82,40,120,44,32,121,41,44,32,75,40,121,44,32,122,41]⟩,⟨#[75,40,120,44,32,121,41,44,32,83,40,121,41]⟩,⟨#[82,40,120,44,32,121,41,44,32,82,40,121,44,32,122,41]⟩,⟨#[82,40,120,44,32,121,41,44,32,82,40,121,44,32,120,41]⟩,⟨#[67,40,120,44,32,121,41,44,32,82,40,121,44,32,122,41]⟩,⟨#[82,40,120,44,32,121,41,44,32,110,111,116,32,83,40,121,41]⟩,⟨#[83,40,120,41,44,32,110,111,116,32,82,40,120,44,32,64,41]⟩,⟨#[67,40,120,44,32,121,41,44,32,83,40,121,41,44,32,110,111,116,32,75,40,120,44,32,121,41]⟩,⟨#[82,40,120,44,32,121,41,44,32,83,40,120,41,44,32,83,40,121,41]⟩,⟨#[75,40,120,44,32,121,41,44,32,75,40,122,44,32,121,41]⟩,⟨#[82,40,120,44,32,64,41]⟩,⟨#[83,40,120,41,44,32,75,40,120,44,32,64,41]⟩,⟨#[82,40,120,44,32,121,41,44,32,120,32,60,32,121]⟩,⟨#[82,40,120,44,32,121,41,44,32,83,40,122,41,44,32,121,32,33,61,32,122]⟩,⟨#[83,40,120,41,44,32,83,40,121,41,44,32,120,32,60,61,32,121]⟩,⟨#[67,40,120,44,32,121,41,44,32,110,111,116,32,82,40,120,44,32,121,41]⟩,⟨#[82,40,120,44,32,120,41]⟩,⟨#[83,40,120,41,44,32,120,32,61,32,64]⟩,⟨#[75,40,120,44,32,121,41,44,32,82,40,121,44,32,122,41,44,32,83,40,122,41]⟩,⟨#[82,40,120,44,32,121,41,44,32,82,40,120,44,32,122,41,44,32,121,32,60,32,122]⟩,⟨#[75,40,120,44,32,64,41,44,32,67,40,121,44,32,120,41]⟩]
def M5:Ct 31 [] (.sl (li.map aE)):=by
 refine Ct.of (n:=2) func31 Z Z Z Z Z λw0 G0=>?_
 refine M<|C 0 (t:=.sl []) Z (cA (.inr Z) dn)<|K<|M<|C 0 (t:=.sl [sT (⟨#[82,40,120,44,32,121,41]⟩),sT (⟨#[82,40,120,44,32,121,41,44,32,83,40,121,41]⟩),sT (⟨#[82,40,120,44,32,121,41,44,32,83,40,120,41]⟩),sT (⟨#[82,40,120,44,32,121,41,44,32,75,40,121,44,32,122,41]⟩),sT (⟨#[75,40,120,44,32,121,41,44,32,83,40,121,41]⟩),sT (⟨#[82,40,120,44,32,121,41,44,32,82,40,121,44,32,122,41]⟩),sT (⟨#[82,40,120,44,32,121,41,44,32,82,40,121,44,32,120,41]⟩),sT (⟨#[67,40,120,44,32,121,41,44,32,82,40,121,44,32,122,41]⟩),sT (⟨#[82,40,120,44,32,121,41,44,32,110,111,116,32,83,40,121,41]⟩),sT (⟨#[83,40,120,41,44,32,110,111,116,32,82,40,120,44,32,64,41]⟩),sT (⟨#[67,40,120,44,32,121,41,44,32,83,40,121,41,44,32,110,111,116,32,75,40,120,44,32,121,41]⟩),sT (⟨#[82,40,120,44,32,121,41,44,32,83,40,120,41,44,32,83,40,121,41]⟩),sT (⟨#[75,40,120,44,32,121,41,44,32,75,40,122,44,32,121,41]⟩),sT (⟨#[82,40,120,44,32,64,41]⟩),sT (⟨#[83,40,120,41,44,32,75,40,120,44,32,64,41]⟩),sT (⟨#[82,40,120,44,32,121,41,44,32,120,32,60,32,121]⟩),sT (⟨#[82,40,120,44,32,121,41,44,32,83,40,122,41,44,32,121,32,33,61,32,122]⟩),sT (⟨#[83,40,120,41,44,32,83,40,121,41,44,32,120,32,60,61,32,121]⟩),sT (⟨#[67,40,120,44,32,121,41,44,32,110,111,116,32,82,40,120,44,32,121,41]⟩),sT (⟨#[82,40,120,44,32,120,41]⟩),sT (⟨#[83,40,120,41,44,32,120,32,61,32,64]⟩),sT (⟨#[75,40,120,44,32,121,41,44,32,82,40,121,44,32,122,41,44,32,83,40,122,41]⟩),sT (⟨#[82,40,120,44,32,121,41,44,32,82,40,120,44,32,122,41,44,32,121,32,60,32,122]⟩),sT (⟨#[75,40,120,44,32,64,41,44,32,67,40,121,44,32,120,41]⟩)]) Z (aQ Z bc cw Z I0 I0 Z Z Z Z Z)<|H 1 Z<|aV ⟨Z,Z,Z⟩ Z
def Gg{s:ByteArray}{i n d e:Nat}(j:i<s.size)(m:(if(bj s i).toNat=45 then 1 else 0)=n)(hd:cV (s.data.toList.drop (i+n))=d)(k:cV (s.data.toList.drop (i+n+d+1))=e):
  pw (s.data.toList.drop i)=if d=0 then 0 else if(decide (i+n+d<s.size)&&(decide ((bj s (i+n+d)).toNat=47)||decide ((bj s (i+n+d)).toNat=46)))=true then(if 0<e then n+d+(1+e)else n+d)else n+d:=by
 have hl:s.data.toList.drop i=bj s i::s.data.toList.drop (i+1):=cW j;have key:∀l:List UInt8,l=bj s i::s.data.toList.drop (i+1)->pw l=if cV (l.drop n)=0 then 0 else match l.drop (n+cV (l.drop n))with
   |c::r=>if(decide (c.toNat=47)||decide (c.toNat=46))&&decide (0<cV r)then n+cV (l.drop n)+(1+cV r)else n+cV (l.drop n)
   |[]=>n+cV (l.drop n):=λl h=>by
  rw[h,<-m];rfl
 rw[key _ hl,RK,hd,RK,<-RP];by_cases a:d=0
 ·rw[if_pos a,if_pos a]
 rw[if_neg a,if_neg a];by_cases f:i+n+d<s.size
 ·rw[cW f];simp only;rw[k,decide_eq_true f,Ri];by_cases g:(decide ((bj s (i+n+d)).toNat=47)||decide ((bj s (i+n+d)).toNat=46))=true
  ·rw[g,if_pos Z,Ri];by_cases b:0<e
   ·rw[if_pos (by simpa using b),if_pos b]
   rw[if_neg (by simpa using b),if_neg b]
  rw[if_neg g,if_neg (by rw[Qh];exact λh=>g h.1)]
 rw[Q1 (by rw[<-dT];omega),decide_eq_false f,Bool.false_and,if_neg Qk]
def Gh{s:ByteArray}{k n T:Nat}(h:iq k (s.data.toList.drop n)=T)(a:s.size<=n):0=T:=by
 rw[<-h,Q1 (by rw[<-dT];exact a)];rfl
def Gi{s:ByteArray}{n k T:Nat}(h:(match s.data.toList.drop (n+1)with
  |d::r'=>if d.toNat=39 then iq (k+2) r' else k+1
  |[]=>k+1)=T) (e:(decide (n+1<s.size)&&decide ((bj s (n+1)).toNat=39))=false):k+1=T:=by
 rw[<-h];cases hd:s.data.toList.drop (n+1)with
 |nil=>rfl
 |cons d r=>
  have a:s.data.toList[n+1]? =some d:=by rw[<-List.head?_drop,hd];rfl
  have b:=oC (p:=λc=>decide (c.toNat=39)) e d a;exact(if_neg (of_decide_eq_false b)).symm
def sG(c:UInt8):Ct 85 [.sc (.int .u8 ((c.toNat:Nat):Int))] (bT (cO c)):=by
 refine Ct.of (n:=17) func85 Z Z Z Z Z λw0 G0=>?_
 refine N 1 Z<|M<|aB 1 Z Z Zy (D (Ls c.toNat 97))<|ay 1 Z<|B Z Z Z Z (λa=>E Z Z)<|B Z Z Z Z (λa=>av (aL Z (if_pos a) Z (λ_=>rfl)) (D (Me c.toNat 122)))<|C 0 Z (bR Z Z Z Z)<|ay 1 Z<|B Z Z Z Z (λa=>E Z Z)<|B Z Z Z Z (λa=>av (aL Z (if_pos a) Z (λ_=>rfl)) (D (Ls c.toNat 65)))<|B Z Z Z Z (λa=>E Z (if_pos a))<|ci Z Z Z Z (λa=>E Z Z)<|ci Z Z Z Z (λa=>av (aL Z (if_pos a) Z (λ_=>rfl)) (D (Me c.toNat 90)))<|B (t:=bT ((decide (65<=c.toNat))&&(decide (c.toNat<=90)))) Z Z Z Z (λa=>fM Z (if_pos a) (λb=>(if_pos ⟨a,b⟩).trans (D (by rw[b];rfl))) (λb=>(D (by rw[b];rfl))))<|C 0 Z (eo Z Z Z Z)<|H 1 Z<|aV ⟨Z,Z,Z⟩ Z
def pC(c:UInt8):Ct 86 [.sc (.int .u8 ((c.toNat:Nat):Int))] (bT (gw c)):=by
 refine Ct.of (n:=9) func86 Z Z Z Z Z λw0 G0=>?_
 refine N 1 Z<|M<|aB 1 Z Z Zy (D (Ls c.toNat 48))<|ay 1 Z<|B Z Z Z Z (λa=>E Z Z)<|B Z Z Z Z (λa=>av (aL Z (if_pos a) Z (λ_=>rfl)) (D (Me c.toNat 57)))<|C 0 Z (bR Z Z Z Z)<|H 1 Z<|aV ⟨Z,Z,Z⟩ Z
def Gj(s:ByteArray)(i:Nat)(k:s.size<=1073741824)(e:i<=s.size):Ct 141 [sT s,nI i] (nI (i+cV (s.data.toList.drop i))):=by
 refine Ct.of (n:=18) func141 Z Z Z Z Z λw0 G0=>?_
 refine N 1 Z<|Y<|aG<|bn (λf d=>∃(n:Nat),(n<=s.size/\i+cV (s.data.toList.drop i)=n+((s.data.toList.drop n).takeWhile gw).length)/\f=s.size-n/\d=⟨18,[(0,sT s),(1,nI n)],[],[]⟩) 0 0 ⟨i,⟨e,Z⟩,Z,Z⟩ .rf ?_;rintro f d ⟨n,⟨e,a⟩,rfl,rfl⟩;refine Y<|M<|C 2 (t:=nI s.size) Z (dJ Z aR Z)<|aB 0 Z Z Zy (D (iL n s.size))<|ay 1 Z<|B Z Z Z Z (λb=>E Z Z)<|B Z Z Z Z (λb=>E Z Z)<|B (t:=.sc (.int .u8 (((bj s n).toNat:Nat):Int))) Z Z Z Z (λb=>bM (j:=n) Z aR (if_pos b) (if_pos b) Z (bB (by first|omega|(have g:=b;simp only[Qh,QD,decide_eq_true_eq,decide_eq_false_iff_not]at g;omega))))<|B Z Z Z Z (λb=>aJ Z (pC _) (dm (if_pos b) Z) Z)<|C 0 Z (bR Z Z Z Z)<|K<|aF Z (λc=>?_) (λc=>?_)
 ·obtain⟨h,hd⟩:=jd c;refine X<|aG<|am<|bA 1 (n+1) Z Z Zy O0<|H 1 Z<|⟨_,_,?_,⟨n+1,?_,Z,Z⟩,.rf⟩
  ·omega
  exact⟨O0,qz a (bB h) hd⟩
 refine bh<|N 2 Z<|aV ⟨Z,jc (vR a (oC c)),Z⟩ Z
def AL(s:ByteArray)(i:Nat)(w:s.size<=1073741824)(q:i+1<=s.size):Ct 88 [sT s,nI i] (nI (i+iq 1 (s.data.toList.drop (i+1)))):=by
 refine Ct.of (n:=46) func88 Z Z Z Z Z λw0 G0=>?_
 refine N 1 Z<|Y<|M<|bA 1 (i+1) Z Z Zy O0<|H 1 Z<|aG<|bn (λp o=>∃(k:Nat),(1<=k/\i+k<=s.size/\iq k (s.data.toList.drop (i+k))=iq 1 (s.data.toList.drop (i+1)))/\p=s.size-(i+k)/\o=⟨46,[(0,sT s),(1,nI i),(5,nI (i+k))],[],[]⟩) 0 0 ⟨1,⟨Qi _,q,Z⟩,Z,Z⟩ .rf ?_;rintro p o ⟨k,⟨r,v,a⟩,rfl,rfl⟩;refine Y<|M<|C 2 (t:=nI s.size) Z (dJ Z aR Z)<|aB 0 Z Z Zy (D (iL (i+k) s.size))<|K<|an Z (λh=>?_) (λh=>?_)
 ·have u:=h;refine X<|Y<|aG<|Y<|Y ?_;have l:=cW u;rw[l,j8]at a;refine am<|C 2 (t:=.sc (.int .u8 (((bj s (i+k)).toNat:Nat):Int))) Z (bM (j:=i+k) Z aR Z Z Z (bB (by first|omega|(have d:=b;simp only[Qh,QD,decide_eq_true_eq,decide_eq_false_iff_not]at d;omega))))<|aB 0 Z Z Zy (D (iL ((bj s (i+k)).toNat) 32))<|ay 1 Z<|B Z Z Z Z (λb=>E Z Z)<|B Z Z Z Z (λb=>E Z Z)<|B (t:=.sc (.int .u8 (((bj s (i+k)).toNat:Nat):Int))) Z Z Z Z (λb=>bM (j:=i+k) Z aR (if_pos b) (if_pos b) Z (bB (by first|omega|(have d:=b;simp only[Qh,QD,decide_eq_true_eq,decide_eq_false_iff_not]at d;omega))))<|B Z Z Z Z (λb=>av (aL Z (if_pos b) Z (λ_=>rfl)) (D (DF ((bj s (i+k)).toNat) 126)))<|C 0 Z (eo Z Z Z Z)<|K<|aF Z (λe=>?_) (λe=>?_)
  ·refine N 2 Z<|aV ⟨Z,jc (by rw[<-a,if_pos (Ca e)];rfl),Z⟩ Z
  rw[if_neg (FQ e)]at a;refine X<|Y<|M<|C 2 (t:=.sc (.int .u8 (((bj s (i+k)).toNat:Nat):Int))) Z (bM (j:=i+k) Z aR Z Z Z (bB (by first|omega|(have d:=b;simp only[Qh,QD,decide_eq_true_eq,decide_eq_false_iff_not]at d;omega))))<|aB 0 Z Z Zy (D (qj ((bj s (i+k)).toNat) 39))<|K<|an Z (λf=>?_) (λf=>?_)
  ·rw[if_pos f]at a;refine bh<|am<|bA 1 ((i+k)+1) Z Z Zy O0<|H 1 Z<|⟨_,_,?_,⟨k+1,?_,Z,Z⟩,.rf⟩
   ·omega
   exact⟨O0,O0,a⟩
  rw[if_neg f]at a;refine X<|Y<|M<|bA 1 ((i+k)+1) Z Z Zy O0<|C 1 (t:=nI s.size) Z (dJ Z aR Z)<|aB 0 Z Z Zy (D (iL ((i+k)+1) s.size))<|ay 1 Z<|B Z Z Z Z (λb=>E Z Z)<|B Z Z Z Z (λb=>E Z Z)<|B (t:=nI ((i+k)+1)) Z Z Z Z (λb=>av (aL Z (if_pos b) Z (λ_=>rfl)) (jy O0))<|B (t:=.sc (.int .u8 (((bj s ((i+k)+1)).toNat:Nat):Int))) Z Z Z Z (λb=>bM (j:=(i+k)+1) Z aR (if_pos b) (if_pos b) Z (bB (by first|omega|(have d:=b;simp only[Qh,QD,decide_eq_true_eq,decide_eq_false_iff_not]at d;omega))))<|B Z Z Z Z (λb=>av (aL Z (if_pos b) Z (λ_=>rfl)) (D (e9 ((bj s ((i+k)+1)).toNat) 39)))<|C 0 Z (bR Z Z Z Z)<|K<|aF Z (λg=>?_) (λg=>?_)
  ·obtain⟨m,c⟩:=jd g;replace c:=of_decide_eq_true c;rw[cW m]at a;simp only at a;rw[if_pos c]at a;refine M<|bA 1 ((i+k)+1) Z Z Zy O0<|H 1 Z<|bh<|am<|bA 1 (((i+k)+1)+1) Z Z Zy O0<|H 1 Z<|⟨_,_,?_,⟨k+2,?_,Z,Z⟩,.rf⟩
   ·omega
   exact⟨O0,O0,a⟩
  refine X<|M<|bA 1 ((i+k)+1) Z Z Zy O0<|H 1 Z<|aV ⟨Z,jc (by rw[RP,<-Gi a g]),Z⟩ Z
 refine bh<|N 2 Z<|aV ⟨Z,jc (by rw[<-Gh a O0,RQ]),Z⟩ Z
def AM(s:ByteArray)(i:Nat)(p:s.size<=1073741824)(o:i<s.size):Ct 87 [sT s,nI i] (nI (i+pw (s.data.toList.drop i))):=by
 refine Ct.of (n:=48) func87 Z Z Z Z Z λw0 G0=>?_
 refine N 1 Z<|Y ?_;obtain⟨n,h⟩:∃n:Nat,(if(bj s i).toNat=45 then 1 else 0)=n:=⟨_,Z⟩;refine bO 2 Z<|Y<|jZ ⟨48,[(0,sT s),(1,nI i),(5,nI (i+n))],[],[]⟩ 0 0 ?_ ?_
 ·refine M<|C 2 (t:=.sc (.int .u8 (((bj s i).toNat:Nat):Int))) Z (bM (j:=i) Z aR Z Z Z (bB o))<|aB 0 Z Z Zy (D (e9 ((bj s i).toNat) 45))<|K<|an Z (λg=>?_) (λg=>?_)
  ·refine am<|bA 1 (i+1) Z Z Zy O0<|H 1 Z<|⟨Z,Z,Z,.cons Z Z (.cons Z Z (.cons (jc (by rw[<-h,if_pos g])) Z .nil)),Z⟩
  refine X<|⟨Z,Z,Z,.cons Z Z (.cons Z Z (.cons (jc (by rw[<-h,if_neg g];rfl)) Z .nil)),Z⟩
 refine Y ?_;have v:n<=1:=by rw[<-h];split<;>omega
 obtain⟨d,hd⟩:∃d,cV (s.data.toList.drop (i+n))=d:=⟨_,Z⟩;have q:i+n+d<=s.size:=mr hd O0;obtain⟨e,m⟩:∃e,cV (s.data.toList.drop (i+n+d+1))=e:=⟨_,Z⟩;have c:=Gg o h hd m;refine am<|C 2 (t:=nI (i+n+d)) Z (aJ Z (by have b:=Gj s (i+n) p O0;rw[hd]at b;exact b) Z Z)<|H 1 Z<|Y<|M<|aB 2 Z Z Zy (D (e9 (i+n+d) (i+n)))<|K<|an Z (λk=>?_) (λk=>?_)
 ·refine N 2 Z<|aV ⟨Z,jc (by rw[c,if_pos O0,RQ]),Z⟩ Z
 refine X<|Y<|M<|C 2 (t:=nI s.size) Z (dJ Z aR Z)<|aB 0 Z Z Zy (D (iL (i+n+d) s.size))<|ay 1 Z<|B Z Z Z Z (λa=>E Z Z)<|B Z Z Z Z (λa=>E Z Z)<|B (t:=.sc (.int .u8 (((bj s (i+n+d)).toNat:Nat):Int))) Z Z Z Z (λa=>bM (j:=i+n+d) Z aR (if_pos a) (if_pos a) Z (bB (by first|omega|(have b:=a;simp only[Qh,QD,decide_eq_true_eq,decide_eq_false_iff_not]at b;omega))))<|B Z Z Z Z (λa=>av (aL Z (if_pos a) Z (λ_=>rfl)) (D (e9 ((bj s (i+n+d)).toNat) 47)))<|B Z Z Z Z (λa=>E Z (if_pos a))<|ci Z Z Z Z (λa=>E Z Z)<|ci Z Z Z Z (λa=>E Z Z)<|ci (t:=.sc (.int .u8 (((bj s (i+n+d)).toNat:Nat):Int))) Z Z Z Z (λa=>bM (j:=i+n+d) Z aR (if_pos a) (if_pos a) Z (bB (by first|omega|(have b:=a;simp only[Qh,QD,decide_eq_true_eq,decide_eq_false_iff_not]at b;omega))))<|ci Z Z Z Z (λa=>av (aL Z (if_pos a) Z (λ_=>rfl)) (D (e9 ((bj s (i+n+d)).toNat) 46)))<|B (t:=bT ((decide ((bj s (i+n+d)).toNat=47))||(decide ((bj s (i+n+d)).toNat=46)))) Z Z Z Z (λa=>fM Z (if_pos a) (λb=>(D (by rw[b];rfl))) (λb=>(if_pos ⟨a,b⟩).trans (D (by rw[b];rfl))))<|C 0 Z (bR Z Z Z Z)<|K<|aF Z (λf=>?_) (λf=>?_)
 ·refine Y ?_;have u:i+n+d<s.size:=(jd f).1;have r:i+n+d+1+e<=s.size:=mr m O0;refine am<|bA 2 ((i+n+d)+1) Z Z Zy O0<|C 0 (t:=nI (i+n+d+1+e)) Z (aJ Z (by have b:=Gj s (i+n+d+1) p O0;rw[m]at b;exact b) Z Z)<|H 1 Z<|M<|bA 2 ((i+n+d)+1) Z Z Zy O0<|aB 0 Z Z Zy (D (DF (i+n+d+1+e) ((i+n+d)+1)))<|K<|an Z (λl=>?_) (λl=>?_)
  ·refine N 2 Z<|aV ⟨Z,jc (by rw[c,if_neg O0,if_pos f,if_pos O0];omega),Z⟩ Z
  refine X<|N 2 Z<|aV ⟨Z,jc (by rw[c,if_neg O0,if_pos f,if_neg O0];omega),Z⟩ Z
 refine X<|N 2 Z<|aV ⟨Z,jc (by rw[c,if_neg O0,if_neg (by rw[f];exact Qk)];omega),Z⟩ Z
