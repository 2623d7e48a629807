import Derived.Test.YtfoejfohbkmmeaaGreatDoorK13
set_option maxRecDepth 100000
set_option maxHeartbeats 8000000
set_option linter.defProp false
open Go.Proofs.Tryz
namespace Go.Proofs.YtfoejfohbkmmeaaGreatDoor
open Go.RowKit
open Lib renaming hid→J
def ShlInv(w:World)(n sz:Nat)(ds:List Nat)(c i:Value)(wr:World):Prop:=
 ∃(k cy:Nat) (out:List Nat),k<=ds.length/\i=.int .i64 k/\c=.int .u32 cy/\cy<2^n/\out.length=k/\Digs out/\OwnN wr w.heap.size (.slice (some ⟨w.heap.size,0,none⟩) sz sz) (out++List.replicate (sz-k) 0)/\aG out+cy*4294967296^k=2^n*aG (ds.take k)/\Below w.heap.size w wr/\w.heap.size<wr.heap.size
def My(w:World)(n sz:Nat)(ds:List Nat)(e:Ending)(w':World):Prop:=
 ∃out cy,e=.returned (.slice (some ⟨w.heap.size,0,none⟩) sz sz)/\OwnN w' w.heap.size (.slice (some ⟨w.heap.size,0,none⟩) sz sz) out/\Digs out/\out.length=sz/\(sz=ds.length+1->cy=0)/\aG out+cy*4294967296^sz=2^n*aG ds/\Below w.heap.size w w'
def sC{n a:Nat}(e:n<32)(d:a<2^n):a<4294967296:=by
 have b:(2:Nat)^n<=2^32:=Rx I O;have c:(2:Nat)^32=4294967296:=I
 omega
def Bn{w wr:World}{n sz k e x:Nat}{c a:List Nat}{i:Int}(f:n<32)(C:sz=c.length\/sz=c.length+1)(s:k<c.length)(D:c[k]=x)(g:x<4294967296)(b:a.length=k)(j:Digs a)(r:e<2^n)(l:OwnN wr w.heap.size (.slice (some ⟨w.heap.size,0,none⟩) sz sz) (a++List.replicate (sz-k) 0))(z:aG a+e*4294967296^k=2^n*aG (c.take k))(y:Below w.heap.size w wr)(B:w.heap.size<wr.heap.size)(A:i=((k+1:Nat):Int)):
  ShlInv w n sz c (.int .u32 ((x:Int)/2^(32-n)%4294967296)) (.int .i64 i) (wr.setCell ⟨w.heap.size,k,none⟩ (.int .u32 (bits .or .u32 ((x:Int)*2^n%4294967296) (e:Int)))):=by
 subst A;obtain⟨u,v⟩:=Mx (d:=x) f r;have o:=GY f g;have h:=sC f r;have E:=sC f o;have m:((x:Int)*2^n%4294967296)=((x*2^n%4294967296:Nat):Int):=F
 have t:((x:Int)/2^(32-n)%4294967296)=((x/2^(32-n):Nat):Int):=by
  have:((x/2^(32-n):Nat):Int)=(x:Int)/2^(32-n):=F
  rw[<-this];clear m this;generalize x/2^(32-n)=q at*;omega
 rw[m,t,u32_or_nat _ _ (RJ _ I) h,u];refine⟨k+1,_,a++[x*2^n%4294967296+e],s,Z,Z,o,by simp[b],eV j v,?_,?_,y.setCell (p:=⟨w.heap.size,k,none⟩) (Q3 _) _,by simpa[World.setCell]using B⟩
 ·have:=l.put (i:=k) (by simp[b];omega) _ (x*2^n%4294967296+e) Z;rw[show sz-k=sz-(k+1)+1 by omega,lD _ _ _ _ b]at this;exact this
 rw[ez a _ k b,dO c k s,D,RA];exact JO f z
def FJ(A:Option Addr)(c:Nat)(a:List Nat)(n sz:Nat)(w:World)(h:IsN w A c a)(hl:a.length<=1048577)(hn:n<32)(T:sz=a.length\/sz=a.length+1):
  Calls prog 268 #[.slice A a.length c,.int .u64 n,.int .i64 sz] w (My w n sz a):=by
 have Y:=J h;clear h;obtain⟨W,u,C,v,V⟩:=fF w sz O;have u:=u .i64 .i64;have M:=J C;have K:=J v;have G:w.heap.size<W.heap.size:=O
 clear C v V
 go_enter func268,ntmps268
 go_wp2
 clear u
 go_loopw [8,15] (λcr i wr=>ShlInv w n sz a cr i wr) (λ_ i _=>a.length-(intOf i).toNat)
 case atStart=>exact⟨0,0,[],Rg _,Z,Z,Sh I,Z,λd hd=>by simp at hd,by simpa using M.out,by simp[aG],K.out,G⟩
 case round=>
  obtain⟨k,m,g,hk,rfl,rfl,hc,E,D,F,B,y,S⟩:=hrel;have f:=J F;have N:=J B;have j:=J y;have b:=J E;have r:=J D;have X:=J hc;clear F B y E D hc;by_cases l:k<a.length
  ·obtain⟨bx,ox,rfl,a0,z⟩:=(Y.out.below j.out).digit l;have cx:=z k l;have o:=Y.out.lt l;obtain⟨x,U⟩:∃x,a[k]=x:=⟨_,Z⟩;rw[U]at cx o;have HX:=J U;have R:=f.out.free k;have s:=f.out.cell (i:=k) (by have:=b.out;simp;omega);obtain⟨old,e⟩:∃old,(g++List.replicate (sz-k) 0)[k]'(by have:=b.out;simp;omega)=old:=⟨_,Z⟩;rw[e]at s;clear z U e
   go_wp2
   go_roundw
   case rel=>exact Bn hn T l HX.out o b.out r.out X.out f.out N.out j.out S O
   case measure=>simp[intOf];omega
  obtain rfl:k=a.length:=O
  by_cases a1:a.length<sz
  ·have R:=f.out.free a.length;have s:=f.out.cell (i:=a.length) (by have:=b.out;simp;omega);obtain⟨old,e⟩:∃old,(g++List.replicate (sz-a.length) 0)[a.length]'(by have:=b.out;simp;omega)=old:=⟨_,Z⟩;rw[e]at s;clear e;have t:m<4294967296:=sC hn X.out;have Q:=f.out.put (i:=a.length) (by have:=b.out;simp;omega) (m:Int) m Z;rw[show sz-a.length=0+1 by omega,lD _ _ _ _ b.out,SW,RP]at Q;have q:=J Q;have L:=J (eV r.out t);have P:Hid (aG (g++[m])=2^n*aG a):=by
    show _=_
    have:=N.out;rw[Sa]at this;rw[ez g m a.length b.out,Rk];exact this
   have H:=J (j.out.setCell (p:=⟨w.heap.size,a.length,none⟩) (Q3 _) (.int .u32 (m:Int)));clear Q
   go_wp2
   go_ret
   exact⟨g++[m],0,Z,q.out,L.out,by have:=b.out;simp;omega,λ_=>rfl,by rw[P.out];simp,H.out⟩
  obtain rfl:sz=a.length:=O
  have q:=J (show OwnN wr w.heap.size (.slice (some ⟨w.heap.size,0,none⟩) a.length a.length) g by have:=f.out;rwa[RW,SW,RP]at this)
  go_wp2
  go_ret
  exact⟨g,m,Z,q.out,r.out,b.out,λh=>O,by have:=N.out;rwa[Sa]at this,j.out⟩
def ShrInv(w:World)(n:Nat)(ds:List Nat)(i:Value)(wr:World):Prop:=
 ∃k:Nat,k<=ds.length/\i=.int .i64 k/\OwnN wr w.heap.size (.slice (some ⟨w.heap.size,0,none⟩) ds.length ds.length) ((shr n ds).take k++List.replicate (ds.length-k) 0)/\Below w.heap.size w wr/\w.heap.size<wr.heap.size
def FK{n k g:Nat}{a:List Nat}(d:k<a.length)(c:∀h:k<(shr n a).length,(shr n a)[k]=g):((shr n a).take k++List.replicate (a.length-k) 0).set k g=(shr n a).take (k+1)++List.replicate (a.length-(k+1)) 0:=by
 have b:=iK n a;rw[show a.length-k=a.length-(k+1)+1 by omega,lD _ _ _ _ (by rw[Rb,b];omega),Rz O,c O]
def Bo{w wr:World}{n k g:Nat}{z i:Int}{a:List Nat}(c:k<a.length)(e:∀h:k<(shr n a).length,(shr n a)[k]=g)(b:OwnN wr w.heap.size (.slice (some ⟨w.heap.size,0,none⟩) a.length a.length) ((shr n a).take k++List.replicate (a.length-k) 0))(d:Below w.heap.size w wr)(j:w.heap.size<wr.heap.size)(l:z=(g:Int))(f:i=((k+1:Nat):Int)):
  ShrInv w n a (.int .i64 i) (wr.setCell ⟨w.heap.size,k,none⟩ (.int .u32 z)):=by
 subst f;refine⟨k+1,c,Z,?_,d.setCell (p:=⟨w.heap.size,k,none⟩) (Q3 _) _,by simpa[World.setCell]using j⟩;have:=b.put (i:=k) (by simp[iK];omega) z g l;rwa[FK c e]at this
def z7{w wr:World}{n k g x:Nat}{z i:Int}{a:List Nat}(e:k<a.length)(l:∀h:k<(shr n a).length,(shr n a)[k]=g)(c:OwnN wr w.heap.size (.slice (some ⟨w.heap.size,0,none⟩) a.length a.length) ((shr n a).take k++List.replicate (a.length-k) 0))(j:Below w.heap.size w wr)(o:w.heap.size<wr.heap.size)(q:z=(g:Int))(m:i=((k+1:Nat):Int)):
  ShrInv w n a (.int .i64 i) ((wr.setCell ⟨w.heap.size,k,none⟩ (.int .u32 ((x:Int)/2^n))).setCell ⟨w.heap.size,k,none⟩ (.int .u32 z)).drew:=by
 subst m;have b:=(j.setCell (p:=⟨w.heap.size,k,none⟩) (Q3 _) (.int .u32 ((x:Int)/2^n))).setCell (p:=⟨w.heap.size,k,none⟩) (Q3 _) (.int .u32 z);refine⟨k+1,e,Z,?_,b.drew,by simpa[World.setCell]using o⟩;have f:=c.put (i:=k) (by simp[iK];omega) ((x:Int)/2^n) (x/2^n) F;have d:=f.put (i:=k) (by simp[iK];omega) z g q;rw[List.set_set,FK e l]at d;exact d.below ((Below.refl _ _).drew)
def JP{n k x:Nat}{a:List Nat}(b:k<a.length)(c:a[k]=x)(d:¬k+1<a.length):∀h:k<(shr n a).length,(shr n a)[k]=x/2^n:=λh=>by
 rw[z6 n a k b h,c,Rc O];simp
def Mz{n k x y:Nat}{a:List Nat}(t:n<32)(s:k<a.length)(v:a[k]=x)(b:x<4294967296)(m:k+1<a.length)(w:a[k+1]=y)(f:y<4294967296):
  ∃g:Nat,(∀h:k<(shr n a).length,(shr n a)[k]=g)/\bits .or .u32 ((x:Int)/2^n) (IntKind.u64.wrap ((y:Int)*2^(32-n))%4294967296)=(g:Int):=by
 have e:=uX t;have d:0<2^n:=Sh I;have u:0<2^(32-n):=Sh I;refine⟨x/2^n+y%2^n*2^(32-n),λh=>?_,?_⟩
 ·rw[z6 n a k s h,v,Re m,w];rfl
 have o:x/2^n<2^(32-n):=by rw[Sg d,Rk,e];exact b
 have c:y*2^(32-n)%4294967296=y%2^n*2^(32-n):=by rw[<-e,Vl]
 have p:y%2^n*2^(32-n)<4294967296:=by rw[<-c];exact RJ _ I
 have z:x/2^n<=x:=Ti _ _;have r:2^(32-n)<=4294967296:=by rw[<-e];exact Nat.le_mul_of_pos_left _ d
 have A:y*2^(32-n)<=4294967295*4294967296:=Tq O r;have i:((x:Int)/2^n)=((x/2^n:Nat):Int):=F
 have j:((y:Int)*2^(32-n))=((y*2^(32-n):Nat):Int):=F
 have l:IntKind.u64.wrap ((y*2^(32-n):Nat):Int)%4294967296=((y%2^n*2^(32-n):Nat):Int):=by
  rw[IntKind.wrap_u64,<-c];generalize y*2^(32-n)=q at*;omega
 rw[i,j,l,u32_or_nat _ _ O p,Vb,<-Tm,<-SK o,Tm,SN]
def MA(A:Option Addr)(c:Nat)(a:List Nat)(n:Nat)(w:World)(h:IsN w A c a)(hl:a.length<=1048577)(S:n<32):
  Calls prog 272 #[.slice A a.length c,.int .u64 n] w (iB (λW v=>IsD W v (aG a/2^n)) w):=by
 have H:=J h;clear h;obtain⟨W,q,C,s,V⟩:=fF w a.length O;have q:=q .i64 .i64;have Q:=J C;have L:=J s;have G:w.heap.size<W.heap.size:=O
 clear C s V
 go_enter func272,ntmps272
 go_wp2
 clear q
 go_loopw [13] (λi wr=>ShrInv w n a i wr) (λi _=>a.length-(intOf i).toNat)
 case atStart=>exact⟨0,Rg _,Z,by simpa using Q.out,L.out,G⟩
 case round=>
  obtain⟨k,hk,rfl,D,t,E⟩:=hrel;have f:=J D;have b:=J t;clear D t;have T:=iK n a;by_cases d:k<a.length
  ·obtain⟨bx,ox,rfl,a1,j⟩:=(H.out.below b.out).digit d;have cx:=j k d;have o:=H.out.lt d;obtain⟨x,U⟩:∃x,a[k]=x:=⟨_,Z⟩;rw[U]at cx o;have X:=J U;have a2:=f.out.free k;have a0:((shr n a).take k++List.replicate (a.length-k) 0).length=a.length:=by simp[T];omega
   have R:=f.out.cell (i:=k) O;obtain⟨old,m⟩:∃old,((shr n a).take k++List.replicate (a.length-k) 0)[k]'O=old:=⟨_,Z⟩;rw[m]at R;clear U m;by_cases l:k+1<a.length
   ·have cy:=j (k+1) l;have p:=H.out.lt l;obtain⟨y,I⟩:∃y,a[k+1]=y:=⟨_,Z⟩;rw[I]at cy p;have HY:=J I;obtain⟨g,z,B⟩:=Mz S d X.out o l I p;have N:=J z;have P:=J B;clear j I z B
    go_wp2
    go_region
    go_wp2
    go_roundw
    case rel=>exact z7 d N.out f.out b.out E P.out O
    case measure=>simp[intOf];omega
   clear j
   go_wp2
   go_roundw
   case rel=>exact Bo d (JP d X.out l) f.out b.out E F O
   case measure=>simp[intOf];omega
  obtain rfl:k=a.length:=O
  have Y:OwnN wr w.heap.size (.slice (some ⟨w.heap.size,0,none⟩) a.length a.length) (shr n a):=by
   have:=f.out;rwa[RW,SW,RP,Rf O]at this
  obtain⟨h4,h5⟩:=Y.isN (Bm S a H.out.ok);have HT:=J (qK h4 h5 O (FI S a));clear Y h4 h5
  go_wp2_with fail
  refine HT.out.mono ?_;rintro e w5 ⟨v5,rfl,u,r⟩;have M:=J u;have K:=J (aL b.out r b.out.size);clear u r
  go_wp2
  go_ret
  exact⟨_,Z,M.out,K.out⟩
def Bp{X V P v1 v2 vl u2 xl a:Nat}(h:X=(a*4294967296+u2)*P+xl)(j:xl<P)(i:u2<4294967296)(g:V=(v1*4294967296+v2)*P+vl)(c:0<v1):X/V<=a/v1:=by
 have o:=Tt a v1;have n:=RJ a c;have d:a+1<=(a/v1+1)*v1:=by rw[R2,Rk];omega
 have k:(a+1)*(4294967296*P)<=((a/v1+1)*v1)*(4294967296*P):=RB _ d;have l:((a/v1+1)*v1)*(4294967296*P)<=(a/v1+1)*V:=by
  rw[Ry];refine Sz _ ?_;rw[g,<-Ry];have:v1*4294967296*P<=(v1*4294967296+v2)*P:=RB _ O;omega
 have m:X<(a+1)*(4294967296*P):=by
  have e:(a+1)*(4294967296*P)=(a*4294967296+4294967296)*P:=by rw[<-Ry,R2 _ _ 4294967296]
  have f:(a*4294967296+u2+1)*P<=(a*4294967296+4294967296)*P:=RB _ O;rw[e,h];rw[R2 _ 1]at f;omega
 have b:0<V:=by
  have:0<P:=O
  have:1*P<=(v1*4294967296+v2)*P:=RB _ O;omega
 have:X/V<a/v1+1:=(Sg b).2 O;omega
def MB{t v:Nat}(b:0<v)(h:t<18446744073709551616):(t:Int)/(v:Int)%18446744073709551616=((t/v:Nat):Int):=by
 have a:t/v<=t:=Ti _ _;rw[show((t:Int)/(v:Int))=((t/v:Nat):Int) by simp];generalize t/v=q at*;omega
structure GuessD (X V P v1 v2 vl u0 u1 u2 xl:Nat):Prop where
 hx:X=((u0*4294967296+u1)*4294967296+u2)*P+xl
 hxl:xl<P
 hv:V=(v1*4294967296+v2)*P+vl
 hvl:vl<P
 hv1:2147483648<=v1/\v1<4294967296
 hv2:v2<4294967296
 hu1:u1<4294967296
 hu2:u2<4294967296
 hu0:u0<=v1
 lt:X/V<4294967296
def Ov(w:World)(X V:Nat)(e:Ending)(w':World):Prop:=∃g:Nat,e=.returned (.int .u64 g)/\X/V<=g/\g<=X/V+1/\g<4294967296/\Below w.heap.size w w'
def GuInv(w:World)(X V v1 top:Nat)(gv rv:Value)(wr:World):Prop:=∃g r:Nat,gv=.int .u64 g/\rv=.int .u64 r/\JN X V v1 top g r/\g<8589934592/\Below w.heap.size w wr
section
variable {X V P v1 v2 vl u0 u1 u2 xl g r:Nat}
def GuessD.stop(h:GuessD X V P v1 v2 vl u0 u1 u2 xl)(d:u0*4294967296+u1=g*v1+r)(a:X/V<=g)(b:g<4294967296)(c:g*v2<=r*4294967296+u2):X/V<=g/\g<=X/V+1/\g<4294967296:=
 ⟨a,DQ h.hx h.hv h.hvl (by have:=h.hv1;omega) d c b,b⟩
def GuessD.big(h:GuessD X V P v1 v2 vl u0 u1 u2 xl)(f:u0*4294967296+u1=g*v1+r)(d:4294967296<=g):(g=4294967296\/r+v1<4294967296)/\g*v1=(g-1)*v1+v1:=by
 have i:=h.hv1;have a:=h.hu1;have b:u0*4294967296<=v1*4294967296:=RB _ h.hu0;refine⟨?_,?_⟩
 ·by_cases e:g=4294967296
  ·exact .inl e
  right;have c:4294967297*v1<=g*v1:=RB _ O;omega
 obtain⟨k,rfl⟩:∃k,g=k+1:=⟨g-1,O⟩;rw[Tn,R2,TC]
def Bq{g v:Nat}(h:0<g):g*v=(g-1)*v+v:=by
 obtain⟨k,rfl⟩:∃k,g=k+1:=⟨g-1,O⟩;rw[Tn,R2,TC]
def GuessD.brk(h:GuessD X V P v1 v2 vl u0 u1 u2 xl)(c:u0*4294967296+u1=g*v1+r)(a:X/V+1<=g)(e:g<=4294967296)(f:4294967296<=r+v1):X/V<=g-1/\g-1<=X/V+1/\g-1<4294967296:=by
 have b:0<g:=Rh (UI _) a;refine h.stop (r:=r+v1) (by rw[c,Bq b];omega) (Vp a) O ?_;have d:(g-1)*v2<=4294967295*4294967295:=Tq O (by have:=h.hv2;omega);omega
def GuessD.over(h:GuessD X V P v1 v2 vl u0 u1 u2 xl)(c:u0*4294967296+u1=g*v1+r)(b:r*4294967296+u2<g*v2):X/V+1<=g:=by
 have a:=DP h.hx h.hxl h.hv c b;have d:X/V<g:=by
  rw[Sg]
  ·exact a
  refine RR λe=>?_
  rw[e,TL]at a;omega
 omega
def Br{w wr:World}{t:Nat}{zg zr:Int}(h:GuessD X V P v1 v2 vl u0 u1 u2 xl)(d:u0*4294967296+u1=t)(a:zg=((t/v1:Nat):Int))(b:zr=((t%v1:Nat):Int))(c:Below w.heap.size w wr):GuInv w X V v1 t (.int .u64 zg) (.int .u64 zr) wr:=by
 subst a b;have f:=h.hv1;have e:=RJ t (show 0<v1 by omega);refine⟨_,_,Z,Z,⟨by rw[Rk];exact(Tt t v1).symm,O,?_⟩,?_,c⟩
 ·rw[<-d];exact Bp h.hx h.hxl h.hu2 h.hv O
 rw[Sg O];have:=h.hu0;have:=h.hu1;omega
def uY{w wr:World}{t:Nat}{zg zr:Int}(e:JN X V v1 t g r)(a:X/V+1<=g)(i:g<8589934592)(h:r+v1<4294967296)(c:zg=(g:Int)-1)(d:zr=(r:Int)+(v1:Int))(f:Below w.heap.size w wr):GuInv w X V v1 t (.int .u64 zg) (.int .u64 zr) wr:=by
 have b:0<g:=Rh (UI _) a;subst c d;refine⟨g-1,r+v1,by congr 1;omega,by congr 1,⟨by rw[e.1,Bq b];omega,h,Vp a⟩,O,f⟩
end
def GZ(A B:Option Addr)(ca cb:Nat)(us vs:List Nat)(n:Nat)(w:World)(hA:IsN w A ca us)(hB:IsN w B cb vs)(k:Guess us vs n)(hn:n<=1048577):
  Calls prog 269 #[.slice A us.length ca,.slice B vs.length cb] w (Ov w (aG us) (aG vs)):=by
 have a4:=J hA;have a5:=J hB;have b5:=k.n2;have b0:=k.lu;have b3:=k.lv;clear hA hB;obtain⟨b1,o1,rfl,a9,u⟩:=a4.out.digit (i:=n) O;obtain⟨b2,o2,rfl,Q,C⟩:=a5.out.digit (i:=n-1) O;have c0:=u n O;have c1:=u (n-1) O;have c2:=u (n-2) O;have d1:=C (n-1) O;have d2:=C (n-2) O;clear u C;obtain⟨px,a3,pv,a2⟩:=k.parts O O O O O;have pf:=k.first O O;have H:us[n-1]'O<4294967296:=k.du.get _ O;have I:us[n-2]'O<4294967296:=k.du.get _ O;have a0:vs[n-1]'O<4294967296:=k.dv.get _ O;have a1:vs[n-2]'O<4294967296:=k.dv.get _ O;have Y:=k.top O;have P:aG us/aG vs<4294967296:=by
  have:=k.lt;rw[Sg (by
   refine RR λe=>?_
   rw[e]at this;omega)]
  exact this
 obtain⟨N,e0⟩:∃x,us[n]'O=x:=⟨_,Z⟩;obtain⟨x1,e1⟩:∃x,us[n-1]'O=x:=⟨_,Z⟩;obtain⟨x2,e2⟩:∃x,us[n-2]'O=x:=⟨_,Z⟩;obtain⟨c,f1⟩:∃x,vs[n-1]'O=x:=⟨_,Z⟩;obtain⟨y2,f2⟩:∃x,vs[n-2]'O=x:=⟨_,Z⟩;rw[e0]at c0 px pf;rw[e1]at c1 px H;rw[e2]at c2 px I;rw[f1]at d1 pv pf a0 Y;rw[f2]at d2 pv a1;have v:Hid (GuessD (aG us) (aG vs) (4294967296^(n-2)) c y2 (aG (vs.take (n-2))) N x1 x2 (aG (us.take (n-2)))):=⟨px,a3,pv,a2,⟨Y,a0⟩,a1,H,I,pf,P⟩;clear px a3 pv a2 P e0 e1 e2 f1 f2 k;obtain⟨X,hX⟩:∃X,aG us=X:=⟨_,Z⟩;obtain⟨V,hV⟩:∃V,aG vs=V:=⟨_,Z⟩;rw[hX,hV]at v⊢;clear hX hV;have T:=FF N x1 O H;rw[show(((N*4294967296:Nat)):Int)=(N:Int)*4294967296 by omega]at T;have z:N*4294967296+x1<18446744073709551616:=O
 obtain⟨t,ht⟩:∃t,N*4294967296+x1=t:=⟨_,Z⟩;rw[ht]at T z;have L:=J ht;have c3:((c:Int)==0)=false:=by rw[beq_eq_false_iff_ne];omega
 rw[b0,b3];have g1:(0:Int)<=(n:Int)-1:=O
 have g2:((n:Int)-1).toNat=n-1:=O
 have g3:(0:Int)<=(n:Int)-2:=O
 have g4:((n:Int)-2).toNat=n-2:=O
 clear ht
 go_enter func269,ntmps269
 go_wp2
 go_quiet (fail)
 go_wp2
 go_loopw [7,8] (λgv rv wr=>GuInv w X V c t gv rv wr) (λgv _ _=>(intOf gv).toNat)
 case atStart=>exact Br v.out L.out (by rw[IntKind.wrap_u64];exact MB O z) F (bH (Below.refl _ _))
 case round=>
  obtain⟨g,r,rfl,rfl,hI,b,R⟩:=hrel;have y:=J hI;have a:=J R;have U:=hI.2.1;have C2:=(a.out.cell (p:=⟨b1,o1+(n-2),none⟩) a9).trans c2;have D1:=(a.out.cell (p:=⟨b2,o2+(n-1),none⟩) Q).trans d1;have D2:=(a.out.cell (p:=⟨b2,o2+(n-2),none⟩) Q).trans d2;clear hI R;by_cases h:4294967296<=g
  ·have M:decide ((g:Int)≥4294967296)=true:=decide_eq_true O;have f:=J (show X/V+1<=g by have:=v.out.lt;exact Q7 (Uv this) h);have o:0<g:=Rh (UI _) f.out;have b4:=(v.out.big (by rw[L.out];exact y.out.1) h).1
   go_wp2
   go_quiet (fail)
   by_cases G:4294967296<=r+c
   ·have l:=J (v.out.brk (g:=g) (r:=r) (by rw[L.out];exact y.out.1) f.out O G);have q1:IntKind.u64.wrap ((g:Int)-1)=(g:Int)-1:=by rw[IntKind.wrap_u64];omega
    have q2:IntKind.u64.wrap ((r:Int)+(c:Int))=(r:Int)+(c:Int):=by rw[IntKind.wrap_u64];omega
    have q3:decide ((r:Int)+(c:Int)≥4294967296)=true:=decide_eq_true O;have d:=J (show((g-1:Nat):Int)=(g:Int)-1 by omega);clear b h G M o
    go_wp2
    go_ret
    exact⟨g-1,by rw[d.out];rfl,l.out.1,l.out.2.1,l.out.2.2,by first|exact bH a.out|exact bH (bH a.out)⟩
   have q1:IntKind.u64.wrap ((g:Int)-1)=(g:Int)-1:=by rw[IntKind.wrap_u64];omega
   have q2:IntKind.u64.wrap ((r:Int)+(c:Int))=(r:Int)+(c:Int):=by rw[IntKind.wrap_u64];omega
   have q3:decide ((r:Int)+(c:Int)≥4294967296)=false:=decide_eq_false O;have d:=J (show(intOf (.int .u64 ((g:Int)-1))).toNat<(intOf (.int .u64 (g:Int))).toNat by simp[intOf];omega);have HN:=J (λzg zr K=>uY (w:=w) (wr:=K) (zg:=zg) (zr:=zr) y.out f.out b (by omega:r+c<4294967296));clear b h G M o
   go_wp2
   go_roundw
   case rel=>exact HN.out _ _ _ Z Z (by first|exact bH a.out|exact bH (bH a.out))
   case measure=>exact d.out
  have M:decide ((g:Int)≥4294967296)=false:=decide_eq_false O;have E:g*y2<=4294967295*4294967295:=Tq O O;obtain⟨m,hm⟩:∃m,g*y2=m:=⟨_,Z⟩;rw[hm]at E;have S:IntKind.u64.wrap ((g:Int)*(y2:Int))=(m:Int):=by
   rw[show(g:Int)*(y2:Int)=(m:Int) by rw[<-hm];simp,IntKind.wrap_u64];omega
  have j:=FF r x2 U I;rw[show(((r*4294967296:Nat)):Int)=(r:Int)*4294967296 by omega]at j;have W:IntKind.u64.wrap ((r:Int)*4294967296)=(r:Int)*4294967296:=by rw[IntKind.wrap_u64];omega
  have s:r*4294967296+x2<18446744073709551616:=O
  obtain⟨q,hq⟩:∃q,r*4294967296+x2=q:=⟨_,Z⟩;rw[hq]at j s;have HM:=J hm;have HQ:=J hq;clear hm hq;by_cases hn:q<m
  ·have D:decide ((m:Int)>(q:Int))=true:=decide_eq_true O;have f:=J (v.out.over (g:=g) (r:=r) (by rw[L.out];exact y.out.1) (by rw[HQ.out,HM.out];exact hn));have o:0<g:=Rh (UI _) f.out
   go_wp2
   go_quiet (fail)
   clear D hn S j W s E;by_cases G:4294967296<=r+c
   ·have l:=J (v.out.brk (g:=g) (r:=r) (by rw[L.out];exact y.out.1) f.out O G);have q1:IntKind.u64.wrap ((g:Int)-1)=(g:Int)-1:=by rw[IntKind.wrap_u64];omega
    have q2:IntKind.u64.wrap ((r:Int)+(c:Int))=(r:Int)+(c:Int):=by rw[IntKind.wrap_u64];omega
    have q3:decide ((r:Int)+(c:Int)≥4294967296)=true:=decide_eq_true O;have d:=J (show((g-1:Nat):Int)=(g:Int)-1 by omega);clear b h G M o
    go_wp2
    go_ret
    exact⟨g-1,by rw[d.out];rfl,l.out.1,l.out.2.1,l.out.2.2,by first|exact bH a.out|exact bH (bH a.out)⟩
   have q1:IntKind.u64.wrap ((g:Int)-1)=(g:Int)-1:=by rw[IntKind.wrap_u64];omega
   have q2:IntKind.u64.wrap ((r:Int)+(c:Int))=(r:Int)+(c:Int):=by rw[IntKind.wrap_u64];omega
   have q3:decide ((r:Int)+(c:Int)≥4294967296)=false:=decide_eq_false O;have d:=J (show(intOf (.int .u64 ((g:Int)-1))).toNat<(intOf (.int .u64 (g:Int))).toNat by simp[intOf];omega);have HN:=J (λzg zr K=>uY (w:=w) (wr:=K) (zg:=zg) (zr:=zr) y.out f.out b (by omega:r+c<4294967296));clear b h G M o
   go_wp2
   go_roundw
   case rel=>exact HN.out _ _ _ Z Z (by first|exact bH a.out|exact bH (bH a.out))
   case measure=>exact d.out
  have D:decide ((m:Int)>(q:Int))=false:=decide_eq_false O;have l:=J (v.out.stop (g:=g) (r:=r) (by rw[L.out];exact y.out.1) y.out.2.2 O (by rw[HQ.out,HM.out];omega))
  go_wp2
  go_quiet (fail)
  clear D hn S j W s E b h M
  go_wp2
  go_ret
  exact⟨g,Z,l.out.1,l.out.2.1,l.out.2.2,by first|exact bH a.out|exact bH (bH a.out)⟩
def kO(w:World)(g i:Nat)(u:Value):w.grownBy (w.setCell ⟨g,i,none⟩ u) (some g):=⟨Z,Z,Z,by simp[World.setCell],λk _ a=>by
 simp only[World.setCell];rw[SX,if_neg (λe=>a (by rw[e]))]⟩
def IsN.grown{W W':World}{A:Option Addr}{c g:Nat}{l:List Nat}(h:IsN W A c l)(f:W.grownBy W' (some g))(k:∀b off,A=some ⟨b,off,none⟩->b≠g):IsN W' A c l:=by
 refine⟨λm=>?_,h.nil,h.cap,h.max,h.ok⟩;obtain⟨b,off,e,a,i⟩:=h.at_ m;refine⟨b,off,e,Rh a f.size,λj u n=>?_⟩;rw[<-i j u n];exact World.cell?_of_block (f.block b a λd=>k b off e (by injection d with d))
def SmInv(w:World)(g cap base j n f:Nat)(L vs:List Nat)(cv bv i:Value)(wr:World):Prop:=
 ∃(k c b:Nat) (out:List Nat),k<=n/\i=.int .i64 k/\cv=.int .u64 c/\bv=.int .u64 b/\c<4294967296/\b<=1/\out.length=k/\Digs out/\OwnN wr base (.slice (some ⟨g,0,none⟩) L.length cap) (L.take j++(out++L.drop (j+k)))/\aG out+f*aG (vs.take k)=aG ((L.drop j).take k)+(c+b)*4294967296^k/\w.grownBy wr (some g)
def oV{L a:List Nat}{j k:Nat}(c:j+k<=L.length)(b:a.length=k):(L.take j++(a++L.drop (j+k))).length=L.length:=by
 simp only[Q4,Rb,Rm,b];omega
def DR{L a:List Nat}{j k:Nat}(c:j+k<L.length)(d:a.length=k)(h:j+k<(L.take j++(a++L.drop (j+k))).length):(L.take j++(a++L.drop (j+k)))[j+k]=L[j+k]:=by
 have e:(L.take j++a).length=j+k:=by simp[d];omega
 have b:(L.take j++(a++L.drop (j+k)))[j+k]? =L[j+k]? :=by
  rw[<-RL,Ru O,e,RW,Si,SB]
 rw[Q2 h,Q2 c]at b;exact Sw b
def uc{L a:List Nat}{j k d:Nat}(b:j+k<L.length)(c:a.length=k):(L.take j++(a++L.drop (j+k))).set (j+k) d=L.take j++((a++[d])++L.drop (j+(k+1))):=by
 have e:(L.take j++a).length=j+k:=by simp[c];omega
 rw[<-RL,SY _ _ O,e,RW,Re b,Tb,RL,RL,show j+(k+1)=j+k+1 by omega];rfl
def qM{L:List Nat}{j k:Nat}(a:j+k<L.length):aG ((L.drop j).take (k+1))=aG ((L.drop j).take k)+4294967296^k*L[j+k]:=by
 rw[DO _ _ (by simp;omega),TO]
def FL{t:Nat}(a:t<18446744073709551616):bits .and .u64 (t:Int) 4294967295=((t%4294967296:Nat):Int):=by
 have h:=u64_and_nat t 4294967295 a I;rw[show(4294967295:Nat)=2^32-1 by decide,Tj,show(2:Nat)^32=4294967296 by decide]at h;exact h
def JQ{f x c u b:Nat}(v:f<4294967296)(w:x<4294967296)(s:c<4294967296)(r:u<4294967296)(q:b<=1):
  ∃t g d:Nat,t=f*x+c/\IntKind.u64.wrap (IntKind.u64.wrap ((f:Int)*(x:Int))+(c:Int))=(t:Int)/\t/4294967296<4294967296/\
   IntKind.u64.wrap (IntKind.u64.wrap ((u:Int)-bits .and .u64 (t:Int) 4294967295)-(b:Int))%4294967296=(g:Int)/\
   IntKind.u64.wrap (IntKind.u64.wrap ((u:Int)-bits .and .u64 (t:Int) 4294967295)-(b:Int))/9223372036854775808=(d:Int)/\g<4294967296/\d<=1/\g+t%4294967296+b=u+d*4294967296:=by
 have l:f*x<=4294967295*4294967295:=Tq O O;obtain⟨p,h⟩:∃p,f*x=p:=⟨_,Z⟩;rw[h]at l;have i:(f:Int)*(x:Int)=(p:Int):=by rw[<-h];simp
 obtain⟨g,d,j,k,m,n,o⟩:=x8 (u:=u) (lo:=(p+c)%4294967296) (bo:=b) r (RJ _ I) q;have e:∀a:Int,IntKind.u64.wrap (IntKind.u64.wrap ((u:Int)-a)-(b:Int))=((u:Int)-a-(b:Int))%18446744073709551616:=λa=>by rw[IntKind.wrap_u64,IntKind.wrap_u64];omega
 refine⟨p+c,g,d,by rw[h],by rw[i,IntKind.wrap_u64,IntKind.wrap_u64];omega,O,?_,?_,m,n,o⟩
 ·rw[FL O,e];exact j
 rw[FL O,e];exact k
def DS{w wr:World}{g e base j n f k c b x u:Nat}{L vs a:List Nat}{i:Int}(Q:k<n)(R:vs.length=n)(S:j+(n+1)<=L.length)(y:∃h:k<vs.length,vs[k]=x)(v:∃h:j+k<L.length,L[j+k]=u)(N:f<4294967296)(o:x<4294967296)(K:c<4294967296)(m:u<4294967296)(J:b<=1)(d:a.length=k)(r:Digs a)(s:OwnN wr base (.slice (some ⟨g,0,none⟩) L.length e) (L.take j++(a++L.drop (j+k))))(M:aG a+f*aG (vs.take k)=aG ((L.drop j).take k)+(c+b)*4294967296^k)(p:w.grownBy wr (some g))(P:i=((k+1:Nat):Int)):
  SmInv w g e base j n f L vs (.int .u64 (IntKind.u64.wrap (IntKind.u64.wrap ((f:Int)*(x:Int))+(c:Int))/4294967296))
   (.int .u64 (IntKind.u64.wrap (IntKind.u64.wrap ((u:Int)-bits .and .u64 (IntKind.u64.wrap (IntKind.u64.wrap ((f:Int)*(x:Int))+(c:Int))) 4294967295)-(b:Int))/9223372036854775808)) (.int .i64 i)
   (wr.setCell ⟨g,j+k,none⟩ (.int .u32 (IntKind.u64.wrap (IntKind.u64.wrap ((u:Int)-bits .and .u64 (IntKind.u64.wrap (IntKind.u64.wrap ((f:Int)*(x:Int))+(c:Int))) 4294967295)-(b:Int))%4294967296))):=by
 subst P;obtain⟨q,y⟩:=y;obtain⟨l,v⟩:=v;obtain⟨t,z,A,B,C,D,E,F,G,H,I⟩:=JQ N o K m J;rw[C,E,F];refine⟨k+1,t/4294967296,A,a++[z],Q,Z,by congr 1,Z,D,H,by simp[d],eV r G,?_,?_,p.trans (kO _ _ _ _)⟩
 ·have:=s.put (i:=j+k) (by rw[oV O d]) _ z Z;rwa[uc l d]at this
 rw[ez a _ k d,dO vs k q,y,qM l,v,RA];exact GT M B O I
def MC{u c b:Nat}(m:u<4294967296)(l:c<4294967296)(k:b<=1):∃d a:Nat,IntKind.u64.wrap (IntKind.u64.wrap ((u:Int)-(c:Int))-(b:Int))%4294967296=(d:Int)/\IntKind.u64.wrap (IntKind.u64.wrap ((u:Int)-(c:Int))-(b:Int))/9223372036854775808=(a:Int)/\d<4294967296/\a<=1/\d+c+b=u+a*4294967296:=by
 obtain⟨d,a,f,g,h,i,j⟩:=x8 (u:=u) (lo:=c) (bo:=b) m l k;have e:IntKind.u64.wrap (IntKind.u64.wrap ((u:Int)-(c:Int))-(b:Int))=((u:Int)-(c:Int)-(b:Int))%18446744073709551616:=by rw[IntKind.wrap_u64,IntKind.wrap_u64];omega
 rw[e];exact⟨d,a,f,g,h,i,j⟩
def Ow{A F U c b u d a P:Nat}(g:A+F=U+(c+b)*P)(h:d+c+b=u+a*4294967296):(A+P*d)+F=(U+P*u)+a*(P*4294967296):=by
 have e:P*(d+(c+b))=P*(u+a*4294967296):=by rw[<-h];congr 1;omega
 rw[RF P d,RF P u,Rk P (c+b)]at e;have f:P*(a*4294967296)=a*(P*4294967296):=SQ ..;omega
def Ox(w:World)(g cap base j n f:Nat)(L vs:List Nat)(e:Ending)(w':World):Prop:=
 ∃(b:Bool) (out:List Nat),e=.returned (.bool b)/\out.length=n+1/\Digs out/\OwnN w' base (.slice (some ⟨g,0,none⟩) L.length cap) (L.take j++(out++L.drop (j+(n+1))))/\aG out+f*aG vs=aG ((L.drop j).take (n+1))+(if b then 4294967296^(n+1)else 0)/\w.grownBy w' (some g)
def JR(g q base j n f cw cb:Nat)(B:Option Addr)(L vs:List Nat)(w:World)(hL:OwnN w base (.slice (some ⟨g,0,none⟩) L.length q) L)(H:Digs L)(hB:IsN w B cb vs)(A:∀b off,B=some ⟨b,off,none⟩->b≠g)(t:vs.length=n)(hj:j+(n+1)<=L.length)(hn:0<n)(hf:f<4294967296)(a3:n+1<=cw)(a0:L.length<=1073741824):
  Calls prog 270 #[.slice (some ⟨g,j,none⟩) (n+1) cw,.slice B vs.length cb,.int .u64 f] w (Ox w g q base j n f L vs):=by
 have HO:=J hL;have W:=J H;have K:=J hB;clear hL H hB;obtain⟨b2,o2,rfl,a1,Q⟩:=K.out.digit (i:=0) O;have a4:b2≠g:=A b2 o2 Z;rw[t];clear Q
 go_enter func270,ntmps270
 go_wp2
 go_loopw [8,9,19] (λcv bv i wr=>SmInv w g q base j n f L vs cv bv i wr) (λ_ _ i _=>n-(intOf i).toNat)
 case atStart=>exact⟨0,0,0,[],Rg _,Z,Z,Z,O,O,Z,λd H=>by simp at H,by rw[Sc,SB,R3];exact HO.out,by simp[aG],World.grownBy.refl _ _⟩
 case round=>
  obtain⟨k,c,b,v,hk,rfl,rfl,rfl,hc,hb,F,E,G,D,r⟩:=hrel;have h:=J G;have HQ:=J D;have X:=J r;have e:=J F;have y:=J E;have M:=J (K.out.grown r A);clear G D r F E;have U:=oV (L:=L) (j:=j) (k:=k) O e.out;by_cases T:k<n
  ·obtain⟨b3,o3,m,a2,C⟩:=M.out.digit (i:=k) O;injection m with m
   injection m with m R
   subst m R;have cx:=C k O;have p:=K.out.lt (i:=k) O;obtain⟨x,V⟩:∃x,vs[k]'O=x:=⟨_,Z⟩;rw[V]at cx p;have HX:=J V;have l:=h.out.cell (i:=j+k) O;rw[DR O e.out]at l;have S:=h.out.free (j+k);have a:L[j+k]'O<4294967296:=W.out.get _ O;obtain⟨u,s⟩:∃u,L[j+k]'O=u:=⟨_,Z⟩;rw[s]at l a;have HU:=J s;clear C V s
   go_wp2
   go_roundw
   case rel=>exact DS T t hj ⟨O,HX.out⟩ ⟨O,HU.out⟩ hf p hc a hb e.out y.out h.out HQ.out X.out O
   case measure=>simp[intOf];omega
  obtain rfl:k=n:=O
  have l:=h.out.cell (i:=j+k) O;rw[DR O e.out]at l;have S:=h.out.free (j+k);have a:L[j+k]'O<4294967296:=W.out.get _ O;obtain⟨u,s⟩:∃u,L[j+k]'O=u:=⟨_,Z⟩;rw[s]at l a;obtain⟨I,o,h1,h2,h3,h4,h5⟩:=MC a hc hb;have HE:Hid (aG (v++[I])+f*aG vs=aG ((L.drop j).take (k+1))+(if decide (o=1)then 4294967296^(k+1)else 0)):=by
   show _=_
   have h6:=HQ.out;rw[Rf (Tf t)]at h6;rw[ez v _ k e.out,qM O,s,Ow h6 h5,RA];have N:o=0\/o=1:=O
   rcases N with rfl|rfl<;>simp
  have Y:=J (h.out.put (i:=j+k) U.symm (I:Int) I Z);rw[uc O e.out]at Y;have z:=J (eV y.out h3);have P:((o:Int)==1)=decide (o=1):=by
   have N:o=0\/o=1:=O
   rcases N with rfl|rfl<;>rfl
  clear s h5
  go_wp2
  go_ret
  exact⟨decide (o=1),v++[I],by rw[<-P];rfl,by have:=e.out;simp[this],z.out,Y.out,HE.out,X.out.trans (kO _ _ _ _)⟩
def AbInv(w:World)(g cap base j n:Nat)(L vs:List Nat)(cv i:Value)(wr:World):Prop:=
 ∃(k c:Nat) (out:List Nat),k<=n/\i=.int .i64 k/\cv=.int .u64 c/\c<=1/\out.length=k/\Digs out/\OwnN wr base (.slice (some ⟨g,0,none⟩) L.length cap) (L.take j++(out++L.drop (j+k)))/\aG out+c*4294967296^k=aG ((L.drop j).take k)+aG (vs.take k)/\w.grownBy wr (some g)
def DT{w wr:World}{g d base j n k c x u:Nat}{L vs a:List Nat}{i t v:Int}(C:k<n)(D:vs.length=n)(F:j+(n+1)<=L.length)(q:∃h:k<vs.length,vs[k]=x)(p:∃h:j+k<L.length,L[j+k]=u)(s:x<4294967296)(r:u<4294967296)(E:c<=1)(b:a.length=k)(m:Digs a)(o:OwnN wr base (.slice (some ⟨g,0,none⟩) L.length d) (L.take j++(a++L.drop (j+k))))(A:aG a+c*4294967296^k=aG ((L.drop j).take k)+aG (vs.take k))(f:w.grownBy wr (some g))(B:i=((k+1:Nat):Int))(y:t=(((u+x+c)/4294967296:Nat):Int))(z:v=(((u+x+c)%4294967296:Nat):Int)):
  AbInv w g d base j n L vs (.int .u64 t) (.int .i64 i) (wr.setCell ⟨g,j+k,none⟩ (.int .u32 v)):=by
 subst B y z;obtain⟨l,q⟩:=q;obtain⟨e,p⟩:=p;refine⟨k+1,(u+x+c)/4294967296,a++[(u+x+c)%4294967296],C,Z,Z,O,by simp[b],eV m (RJ _ I),?_,?_,f.trans (kO _ _ _ _)⟩
 ·have:=o.put (i:=j+k) (by rw[oV O b]) _ ((u+x+c)%4294967296) Z;rwa[uc e b]at this
 rw[ez a _ k b,dO vs k l,q,qM e,p,RA];exact GU A Z
def Oy(w:World)(g cap base j n:Nat)(L vs:List Nat)(e:Ending)(w':World):Prop:=
 ∃(out:List Nat) (q:Nat),e=.returned (.tuple #[])/\out.length=n+1/\Digs out/\OwnN w' base (.slice (some ⟨g,0,none⟩) L.length cap) (L.take j++(out++L.drop (j+(n+1))))/\aG out+q*4294967296^(n+1)=aG ((L.drop j).take (n+1))+aG vs/\w.grownBy w' (some g)
def Oz{A V U c u P:Nat}(h:A+c*P=U+V):(A+P*((u+c)%4294967296))+(u+c)/4294967296*(P*4294967296)=(U+P*u)+V:=by
 have a:P*((u+c)%4294967296)+(u+c)/4294967296*(P*4294967296)=P*(u+c):=by
  rw[<-Ry,Rk ((u+c)/4294967296) P,Ry,<-RF];congr 1;omega
 rw[RF P u,Rk P c]at a;omega
def JS(g m base j n W V:Nat)(B:Option Addr)(L vs:List Nat)(w:World)(hL:OwnN w base (.slice (some ⟨g,0,none⟩) L.length m) L)(E:Digs L)(Y:IsN w B V vs)(s:∀b off,B=some ⟨b,off,none⟩->b≠g)(p:vs.length=n)(hj:j+(n+1)<=L.length)(hn:0<n)(a3:n+1<=W)(a0:L.length<=1073741824):
  Calls prog 271 #[.slice (some ⟨g,j,none⟩) (n+1) W,.slice B vs.length V] w (Oy w g m base j n L vs):=by
 have HO:=J hL;have HD:=J E;have F:=J Y;clear hL E Y;obtain⟨U,o2,rfl,a1,H⟩:=F.out.digit (i:=0) O;have a5:U≠g:=s U o2 Z;rw[p];clear H
 go_enter func271,ntmps271
 go_wp2
 go_loopw [4,10] (λcv i wr=>AbInv w g m base j n L vs cv i wr) (λ_ i _=>n-(intOf i).toNat)
 case atStart=>exact⟨0,0,[],Rg _,Z,Z,O,Z,λd E=>by simp at E,by rw[Sc,SB,R3];exact HO.out,by simp[aG],World.grownBy.refl _ _⟩
 case round=>
  obtain⟨k,c,D,hk,rfl,rfl,hc,A,z,C,y,o⟩:=hrel;have f:=J C;have S:=J y;have Q:=J o;have a:=J A;have q:=J z;have G:=J (F.out.grown o s);clear C y o A z;have N:=oV (L:=L) (j:=j) (k:=k) O a.out;have t:=f.out.cell (i:=j+k) O;rw[DR O a.out]at t;have a4:=f.out.free (j+k);have h:L[j+k]'O<4294967296:=HD.out.get _ O;obtain⟨u,M⟩:∃u,L[j+k]'O=u:=⟨_,Z⟩;rw[M]at t h;have T:=J M;clear M;by_cases K:k<n
  ·obtain⟨b3,o3,e,a2,v⟩:=G.out.digit (i:=k) O;injection e with e
   injection e with e I
   subst e I;have cx:=v k O;have l:=F.out.lt (i:=k) O;obtain⟨x,P⟩:∃x,vs[k]'O=x:=⟨_,Z⟩;rw[P]at cx l;have HX:=J P;clear v P
   go_wp2
   go_roundw
   case rel=>exact DT K p hj ⟨O,HX.out⟩ ⟨O,T.out⟩ l h hc a.out q.out f.out S.out Q.out O O O
   case measure=>simp[intOf];omega
  obtain rfl:k=n:=O
  have HE:Hid (aG (D++[(u+c)%4294967296])+(u+c)/4294967296*4294967296^(k+1)=aG ((L.drop j).take (k+1))+aG vs):=by
   show _=_
   have X:=S.out;rw[Rf (Tf p)]at X;rw[ez D _ k a.out,qM O,T.out,RA];exact Oz X
  have R:=J (f.out.put (i:=j+k) N.symm (((u+c)%4294967296:Nat):Int) ((u+c)%4294967296) Z);rw[uc O a.out]at R;have r:=J (eV q.out (RJ (u+c) (show 0<4294967296 by decide)));have HZ:=J (show((u:Int)+(c:Int))%4294967296=(((u+c)%4294967296:Nat):Int) by omega)
  go_wp2
  go_end0
  rw[HZ.out];exact⟨_,_,Z,by have:=a.out;simp[this],r.out,R.out,HE.out,Q.out.trans (kO _ _ _ _)⟩
