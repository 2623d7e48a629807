import Derived.Test.YtfoejfohbkmmeaaGreatDoorU17
import Derived.Test.YtfoejfohbkmmeaaGreatDoorU18
import Derived.Test.YtfoejfohbkmmeaaGreatDoorU00
set_option maxRecDepth 100000
set_option maxHeartbeats 8000000
namespace Go.Proofs.YtfoejfohbkmmeaaGreatDoor
open Go.RowKit
open Lib renaming hid→J
def ShlInv(w:World)(n sz:Nat)(ds:List Nat)(c i:Value)(wr:World):Prop:=
 ∃(k cy:Nat) (out:List Nat),k<=ds.length/\i=.int .i64 k/\c=.int .u32 cy/\cy<2^n/\out.length=k/\Digs out/\OwnN wr w.heap.size (.slice (some ⟨w.heap.size,0,none⟩) sz sz) (out++List.replicate (sz-k) 0)/\aB out+cy*4294967296^k=2^n*aB (ds.take k)/\Below w.heap.size w wr/\w.heap.size<wr.heap.size
def G7(w:World)(n sz:Nat)(ds:List Nat)(e:Ending)(w':World):Prop:=
 ∃out cy,e=.returned (.slice (some ⟨w.heap.size,0,none⟩) sz sz)/\OwnN w' w.heap.size (.slice (some ⟨w.heap.size,0,none⟩) sz sz) out/\Digs out/\out.length=sz/\(sz=ds.length+1->cy=0)/\aB out+cy*4294967296^sz=2^n*aB ds/\Below w.heap.size w w'
theorem pG{n a:Nat}(b:n<32)(c:a<2^n):a<4294967296:=by
 have d:(2:Nat)^n<=2^32:=MP (by decide) (by omega);have e:(2:Nat)^32=4294967296:=by decide
 omega
theorem xq{w wr:World}{n sz k g x:Nat}{c a:List Nat}{i:Int}(e:n<32)(A:sz=c.length\/sz=c.length+1)(r:k<c.length)(u:c[k]=x)(f:x<4294967296)(b:a.length=k)(j:Digs a)(o:g<2^n)(l:OwnN wr w.heap.size (.slice (some ⟨w.heap.size,0,none⟩) sz sz) (a++List.replicate (sz-k) 0))(C:aB a+g*4294967296^k=2^n*aB (c.take k))(D:Below w.heap.size w wr)(t:w.heap.size<wr.heap.size)(z:i=((k+1:Nat):Int)):
  ShlInv w n sz c (.int .u32 ((x:Int)/2^(32-n)%4294967296)) (.int .i64 i) (wr.setCell ⟨w.heap.size,k,none⟩ (.int .u32 (bits .or .u32 ((x:Int)*2^n%4294967296) (g:Int)))):=by
 subst z;obtain⟨v,B⟩:=G6 (d:=x) e o;have m:=CW e f;have h:=pG e o;have E:=pG e m;have s:((x:Int)*2^n%4294967296)=((x*2^n%4294967296:Nat):Int):=by simp
 have y:((x:Int)/2^(32-n)%4294967296)=((x/2^(32-n):Nat):Int):=by
  have:((x/2^(32-n):Nat):Int)=(x:Int)/2^(32-n):=by simp
  rw[<-this];clear s this;generalize x/2^(32-n)=q at*;omega
 rw[s,y,u32_or_nat _ _ (Ni _ (by decide)) h,v];refine⟨k+1,_,a++[x*2^n%4294967296+g],r,Z,Z,m,by simp[b],dO j B,?_,?_,D.setCell (p:=⟨w.heap.size,k,none⟩) (L5 _) _,by simpa[World.setCell]using t⟩
 ·have:=l.put (i:=k) (by simp[b];omega) _ (x*2^n%4294967296+g) Z;rw[show sz-k=sz-(k+1)+1 by omega,jU _ _ _ _ b]at this;exact this
 rw[dm a _ k b,cQ c k r,u,MM];exact EQ e C
theorem BN(A:Option Addr)(c:Nat)(a:List Nat)(n sz:Nat)(w:World)(h:IsN w A c a)(hl:a.length<=1048577)(U:n<32)(Q:sz=a.length\/sz=a.length+1):
  Calls Tryz.prog 268 #[.slice A a.length c,.int .u64 n,.int .i64 sz] w (G7 w n sz a):=by
 have X:=J h;clear h;obtain⟨W,t,v,B,I⟩:=eF w sz (by omega);have t:=t .i64 .i64;have M:=J v;have R:=J B;have y:w.heap.size<W.heap.size:=by omega
 clear v B I
 go_enter Tryz.func268,Tryz.ntmps268
 go_wp2
 clear t
 go_loopw [8,15] (fun cr i wr=>ShlInv w n sz a cr i wr) (fun _ i _=>a.length-(intOf i).toNat)
 case atStart=>exact⟨0,0,[],Mx _,Z,Z,NN (by decide),Z,fun d hd=>by simp at hd,by simpa using M.out,by simp[aB],R.out,y⟩
 case round=>
  obtain⟨k,o,g,hk,rfl,rfl,V,D,C,E,G,F,L⟩:=hrel;have f:=J E;have T:=J G;have j:=J F;have b:=J D;have q:=J C;have Y:=J V;clear E G F D C V;by_cases l:k<a.length
  ·obtain⟨bx,ox,rfl,a0,z⟩:=(X.out.below j.out).digit l;have cx:=z k l;have m:=X.out.lt l;obtain⟨x,K⟩:∃x,a[k]=x:=⟨_,rfl⟩;rw[K]at cx m;have HX:=J K;have S:=f.out.free k;have u:=f.out.cell (i:=k) (by have:=b.out;simp;omega);obtain⟨old,e⟩:∃old,(g++List.replicate (sz-k) 0)[k]'(by have:=b.out;simp;omega)=old:=⟨_,rfl⟩;rw[e]at u;clear z K e
   go_wp2
   go_roundw
   case rel=>exact xq U Q l HX.out m b.out q.out Y.out f.out T.out j.out L (by omega)
   case measure=>simp[intOf];omega
  obtain rfl:k=a.length:=by omega
  by_cases a1:a.length<sz
  ·have S:=f.out.free a.length;have u:=f.out.cell (i:=a.length) (by have:=b.out;simp;omega);obtain⟨old,e⟩:∃old,(g++List.replicate (sz-a.length) 0)[a.length]'(by have:=b.out;simp;omega)=old:=⟨_,rfl⟩;rw[e]at u;clear e;have r:o<4294967296:=pG U Y.out;have H:=f.out.put (i:=a.length) (by have:=b.out;simp;omega) (o:Int) o Z;rw[show sz-a.length=0+1 by omega,jU _ _ _ _ b.out,NI,MA]at H;have s:=J H;have N:=J (dO q.out r);have P:Hid (aB (g++[o])=2^n*aB a):=by
    show _=_
    have:=T.out;rw[M9]at this;rw[dm g o a.length b.out,Mt];exact this
   have O:=J (j.out.setCell (p:=⟨w.heap.size,a.length,none⟩) (L5 _) (.int .u32 (o:Int)));clear H
   go_wp2
   go_ret
   exact⟨g++[o],0,Z,s.out,N.out,by have:=b.out;simp;omega,fun _=>rfl,by rw[P.out];simp,O.out⟩
  obtain rfl:sz=a.length:=by omega
  have s:=J (show OwnN wr w.heap.size (.slice (some ⟨w.heap.size,0,none⟩) a.length a.length) g by have:=f.out;rwa[M4,NI,MA]at this)
  go_wp2
  go_ret
  exact⟨g,o,Z,s.out,q.out,b.out,fun h=>by omega,by have:=T.out;rwa[M9]at this,j.out⟩
def ShrInv(w:World)(n:Nat)(ds:List Nat)(i:Value)(wr:World):Prop:=
 ∃k:Nat,k<=ds.length/\i=.int .i64 k/\OwnN wr w.heap.size (.slice (some ⟨w.heap.size,0,none⟩) ds.length ds.length) ((shr n ds).take k++List.replicate (ds.length-k) 0)/\Below w.heap.size w wr/\w.heap.size<wr.heap.size
theorem BO{n k g:Nat}{a:List Nat}(d:k<a.length)(c:∀h:k<(shr n a).length,(shr n a)[k]=g):((shr n a).take k++List.replicate (a.length-k) 0).set k g=(shr n a).take (k+1)++List.replicate (a.length-(k+1)) 0:=by
 have b:=gn n a;rw[show a.length-k=a.length-(k+1)+1 by omega,jU _ _ _ _ (by rw[Mf,b];omega),Mq (by omega),c (by omega)]
theorem xr{w wr:World}{n k g:Nat}{z i:Int}{a:List Nat}(c:k<a.length)(f:∀h:k<(shr n a).length,(shr n a)[k]=g)(b:OwnN wr w.heap.size (.slice (some ⟨w.heap.size,0,none⟩) a.length a.length) ((shr n a).take k++List.replicate (a.length-k) 0))(j:Below w.heap.size w wr)(l:w.heap.size<wr.heap.size)(e:z=(g:Int))(d:i=((k+1:Nat):Int)):
  ShrInv w n a (.int .i64 i) (wr.setCell ⟨w.heap.size,k,none⟩ (.int .u32 z)):=by
 subst d;refine⟨k+1,c,Z,?_,j.setCell (p:=⟨w.heap.size,k,none⟩) (L5 _) _,by simpa[World.setCell]using l⟩;have:=b.put (i:=k) (by simp[gn];omega) z g e;rwa[BO c f]at this
theorem vR{w wr:World}{n k g x:Nat}{z i:Int}{a:List Nat}(d:k<a.length)(m:∀h:k<(shr n a).length,(shr n a)[k]=g)(b:OwnN wr w.heap.size (.slice (some ⟨w.heap.size,0,none⟩) a.length a.length) ((shr n a).take k++List.replicate (a.length-k) 0))(j:Below w.heap.size w wr)(q:w.heap.size<wr.heap.size)(l:z=(g:Int))(f:i=((k+1:Nat):Int)):
  ShrInv w n a (.int .i64 i) ((wr.setCell ⟨w.heap.size,k,none⟩ (.int .u32 ((x:Int)/2^n))).setCell ⟨w.heap.size,k,none⟩ (.int .u32 z)).drew:=by
 subst f;have c:=(j.setCell (p:=⟨w.heap.size,k,none⟩) (L5 _) (.int .u32 ((x:Int)/2^n))).setCell (p:=⟨w.heap.size,k,none⟩) (L5 _) (.int .u32 z);refine⟨k+1,d,Z,?_,c.drew,by simpa[World.setCell]using q⟩;have o:=b.put (i:=k) (by simp[gn];omega) ((x:Int)/2^n) (x/2^n) (by simp);have e:=o.put (i:=k) (by simp[gn];omega) z g l;rw[List.set_set,BO d m]at e;exact e.below ((Below.refl _ _).drew)
theorem ER{n k x:Nat}{a:List Nat}(c:k<a.length)(b:a[k]=x)(d:¬k+1<a.length):∀h:k<(shr n a).length,(shr n a)[k]=x/2^n:=fun h=>by
 rw[vQ n a k c h,b,Mg (by omega)];simp
theorem G8{n k x y:Nat}{a:List Nat}(j:n<32)(r:k<a.length)(l:a[k]=x)(b:x<4294967296)(o:k+1<a.length)(m:a[k+1]=y)(f:y<4294967296):
  ∃g:Nat,(∀h:k<(shr n a).length,(shr n a)[k]=g)/\bits .or .u32 ((x:Int)/2^n) (IntKind.u64.wrap ((y:Int)*2^(32-n))%4294967296)=(g:Int):=by
 have e:=se j;have d:0<2^n:=NN (by decide);have v:0<2^(32-n):=NN (by decide);refine⟨x/2^n+y%2^n*2^(32-n),fun h=>?_,?_⟩
 ·rw[vQ n a k r h,l,Md o,m];rfl
 have t:x/2^n<2^(32-n):=by rw[Nz d,Mt,e];exact b
 have c:y*2^(32-n)%4294967296=y%2^n*2^(32-n):=by rw[<-e,Qe]
 have w:y%2^n*2^(32-n)<4294967296:=by rw[<-c];exact Ni _ (by decide)
 have z:x/2^n<=x:=NY _ _;have i:2^(32-n)<=4294967296:=by rw[<-e];exact Nat.le_mul_of_pos_left _ d
 have A:y*2^(32-n)<=4294967295*4294967296:=NU (by omega) i;have s:((x:Int)/2^n)=((x/2^n:Nat):Int):=by simp
 have p:((y:Int)*2^(32-n))=((y*2^(32-n):Nat):Int):=by simp
 have u:IntKind.u64.wrap ((y*2^(32-n):Nat):Int)%4294967296=((y%2^n*2^(32-n):Nat):Int):=by
  rw[IntKind.wrap_u64,<-c];generalize y*2^(32-n)=q at*;omega
 rw[s,p,u,u32_or_nat _ _ (by omega) w,Nat.or_comm,<-Oj,<-NF t,Oj,NW]
theorem G9(A:Option Addr)(c:Nat)(a:List Nat)(n:Nat)(w:World)(h:IsN w A c a)(hl:a.length<=1048577)(K:n<32):
  Calls Tryz.prog 272 #[.slice A a.length c,.int .u64 n] w (Gives (fun W v=>IsD W v (aB a/2^n)) w):=by
 have H:=J h;clear h;obtain⟨W,q,t,B,L⟩:=eF w a.length (by omega);have q:=q .i64 .i64;have Q:=J t;have S:=J B;have u:w.heap.size<W.heap.size:=by omega
 clear t B L
 go_enter Tryz.func272,Tryz.ntmps272
 go_wp2
 clear q
 go_loopw [13] (fun i wr=>ShrInv w n a i wr) (fun i _=>a.length-(intOf i).toNat)
 case atStart=>exact⟨0,Mx _,Z,by simpa using Q.out,S.out,u⟩
 case round=>
  obtain⟨k,hk,rfl,C,D,z⟩:=hrel;have f:=J C;have b:=J D;clear C D;have I:=gn n a;by_cases d:k<a.length
  ·obtain⟨bx,ox,rfl,a0,j⟩:=(H.out.below b.out).digit d;have cx:=j k d;have o:=H.out.lt d;obtain⟨x,M⟩:∃x,a[k]=x:=⟨_,rfl⟩;rw[M]at cx o;have V:=J M;have a1:=f.out.free k;have Y:((shr n a).take k++List.replicate (a.length-k) 0).length=a.length:=by simp[I];omega
   have T:=f.out.cell (i:=k) (by omega);obtain⟨old,m⟩:∃old,((shr n a).take k++List.replicate (a.length-k) 0)[k]'(by omega)=old:=⟨_,rfl⟩;rw[m]at T;clear M m;by_cases l:k+1<a.length
   ·have cy:=j (k+1) l;have p:=H.out.lt l;obtain⟨y,G⟩:∃y,a[k+1]=y:=⟨_,rfl⟩;rw[G]at cy p;have HY:=J G;obtain⟨g,E,F⟩:=G8 K d V.out o l G p;have R:=J E;have P:=J F;clear j G E F
    go_wp2
    go_region
    go_wp2
    go_roundw
    case rel=>exact vR d R.out f.out b.out z P.out (by omega)
    case measure=>simp[intOf];omega
   clear j
   go_wp2
   go_roundw
   case rel=>exact xr d (ER d V.out l) f.out b.out z (by simp) (by omega)
   case measure=>simp[intOf];omega
  obtain rfl:k=a.length:=by omega
  have X:OwnN wr w.heap.size (.slice (some ⟨w.heap.size,0,none⟩) a.length a.length) (shr n a):=by
   have:=f.out;rwa[M4,NI,MA,Me (by omega)]at this
  obtain⟨h4,U⟩:=X.isN (xp K a H.out.ok);have HT:=J (oD h4 U (by omega) (BM K a));clear X h4 U
  go_wp2_with fail
  refine HT.out.mono ?_;rintro e w5 ⟨v5,rfl,s,r⟩;have N:=J s;have O:=J (ak b.out r b.out.size);clear s r
  go_wp2
  go_ret
  exact⟨_,Z,N.out,O.out⟩
theorem xu{X V P v1 v2 vl u2 xl a:Nat}(f:X=(a*4294967296+u2)*P+xl)(h:xl<P)(g:u2<4294967296)(j:V=(v1*4294967296+v2)*P+vl)(b:0<v1):X/V<=a/v1:=by
 have m:=Oe a v1;have k:=Ni a b;have i:a+1<=(a/v1+1)*v1:=by rw[M3,Mt];omega
 have o:(a+1)*(4294967296*P)<=((a/v1+1)*v1)*(4294967296*P):=MJ _ i;have l:((a/v1+1)*v1)*(4294967296*P)<=(a/v1+1)*V:=by
  rw[Mu];refine Nw _ ?_;rw[j,<-Mu];have:v1*4294967296*P<=(v1*4294967296+v2)*P:=MJ _ (by omega);omega
 have n:X<(a+1)*(4294967296*P):=by
  have e:(a+1)*(4294967296*P)=(a*4294967296+4294967296)*P:=by rw[<-Mu,M3 _ _ 4294967296]
  have d:(a*4294967296+u2+1)*P<=(a*4294967296+4294967296)*P:=MJ _ (by omega);rw[e,f];rw[M3 _ 1]at d;omega
 have c:0<V:=by
  have:0<P:=by omega
  have:1*P<=(v1*4294967296+v2)*P:=MJ _ (by omega);omega
 have:X/V<a/v1+1:=(Nz c).2 (by omega);omega
theorem Ha{t v:Nat}(b:0<v)(h:t<18446744073709551616):(t:Int)/(v:Int)%18446744073709551616=((t/v:Nat):Int):=by
 have a:t/v<=t:=NY _ _;rw[show((t:Int)/(v:Int))=((t/v:Nat):Int) by simp];generalize t/v=q at*;omega
structure GuessD (X V P v1 v2 vl u0 u1 u2 xl:Nat):Prop where
 hx:X=((u0*4294967296+u1)*4294967296+u2)*P+xl
 hxl:xl<P
 hv:V=(v1*4294967296+v2)*P+vl
 hvl:vl<P
 hv1:2147483648<=v1/\v1<4294967296
 hv2:v2<4294967296
 hu1:u1<4294967296
 hu2:u2<4294967296
 hu0:u0<=v1
 lt:X/V<4294967296
def I9(w:World)(X V:Nat)(e:Ending)(w':World):Prop:=∃g:Nat,e=.returned (.int .u64 g)/\X/V<=g/\g<=X/V+1/\g<4294967296/\Below w.heap.size w w'
def GuInv(w:World)(X V v1 top:Nat)(gv rv:Value)(wr:World):Prop:=∃g r:Nat,gv=.int .u64 g/\rv=.int .u64 r/\EP X V v1 top g r/\g<8589934592/\Below w.heap.size w wr
section
variable {X V P v1 v2 vl u0 u1 u2 xl g r:Nat}
theorem GuessD.stop(h:GuessD X V P v1 v2 vl u0 u1 u2 xl)(d:u0*4294967296+u1=g*v1+r)(a:X/V<=g)(b:g<4294967296)(c:g*v2<=r*4294967296+u2):X/V<=g/\g<=X/V+1/\g<4294967296:=
 ⟨a,zE h.hx h.hv h.hvl (by have:=h.hv1;omega) d c b,b⟩
theorem GuessD.big(h:GuessD X V P v1 v2 vl u0 u1 u2 xl)(b:u0*4294967296+u1=g*v1+r)(d:4294967296<=g):(g=4294967296\/r+v1<4294967296)/\g*v1=(g-1)*v1+v1:=by
 have c:=h.hv1;have a:=h.hu1;have f:u0*4294967296<=v1*4294967296:=MJ _ h.hu0;refine⟨?_,?_⟩
 ·by_cases e:g=4294967296
  ·exact .inl e
  right;have i:4294967297*v1<=g*v1:=MJ _ (by omega);omega
 obtain⟨k,rfl⟩:∃k,g=k+1:=⟨g-1,by omega⟩;rw[Qu,M3,Og]
theorem xv{g v:Nat}(h:0<g):g*v=(g-1)*v+v:=by
 obtain⟨k,rfl⟩:∃k,g=k+1:=⟨g-1,by omega⟩;rw[Qu,M3,Og]
theorem GuessD.brk(h:GuessD X V P v1 v2 vl u0 u1 u2 xl)(c:u0*4294967296+u1=g*v1+r)(a:X/V+1<=g)(d:g<=4294967296)(f:4294967296<=r+v1):X/V<=g-1/\g-1<=X/V+1/\g-1<4294967296:=by
 have b:0<g:=Mp (PB _) a;refine h.stop (r:=r+v1) (by rw[c,xv b];omega) (Qi a) (by omega) ?_;have e:(g-1)*v2<=4294967295*4294967295:=NU (by omega) (by have:=h.hv2;omega);omega
theorem GuessD.over(h:GuessD X V P v1 v2 vl u0 u1 u2 xl)(c:u0*4294967296+u1=g*v1+r)(b:r*4294967296+u2<g*v2):X/V+1<=g:=by
 have a:=zD h.hx h.hxl h.hv c b;have d:X/V<g:=by
  rw[Nz]
  ·exact a
  refine NG fun e=>?_
  rw[e,Oy]at a;omega
 omega
theorem xw{w wr:World}{t:Nat}{zg zr:Int}(h:GuessD X V P v1 v2 vl u0 u1 u2 xl)(b:u0*4294967296+u1=t)(c:zg=((t/v1:Nat):Int))(d:zr=((t%v1:Nat):Int))(a:Below w.heap.size w wr):GuInv w X V v1 t (.int .u64 zg) (.int .u64 zr) wr:=by
 subst c d;have f:=h.hv1;have e:=Ni t (show 0<v1 by omega);refine⟨_,_,Z,Z,⟨by rw[Mt];exact(Oe t v1).symm,by omega,?_⟩,?_,a⟩
 ·rw[<-b];exact xu h.hx h.hxl h.hu2 h.hv (by omega)
 rw[Nz (by omega)];have:=h.hu0;have:=h.hu1;omega
theorem sf{w wr:World}{t:Nat}{zg zr:Int}(c:EP X V v1 t g r)(a:X/V+1<=g)(i:g<8589934592)(e:r+v1<4294967296)(f:zg=(g:Int)-1)(h:zr=(r:Int)+(v1:Int))(d:Below w.heap.size w wr):GuInv w X V v1 t (.int .u64 zg) (.int .u64 zr) wr:=by
 have b:0<g:=Mp (PB _) a;subst f h;refine⟨g-1,r+v1,by congr 1;omega,by congr 1,⟨by rw[c.1,xv b];omega,e,Qi a⟩,by omega,d⟩
end
theorem CY(A B:Option Addr)(ca cb:Nat)(us vs:List Nat)(n:Nat)(w:World)(hA:IsN w A ca us)(hB:IsN w B cb vs)(k:Guess us vs n)(hn:n<=1048577):
  Calls Tryz.prog 269 #[.slice A us.length ca,.slice B vs.length cb] w (I9 w (aB us) (aB vs)):=by
 have b0:=J hA;have a5:=J hB;have c3:=k.n2;have a4:=k.lu;have a3:=k.lv;clear hA hB;obtain⟨b1,o1,rfl,a9,u⟩:=b0.out.digit (i:=n) (by omega);obtain⟨b2,o2,rfl,W,F⟩:=a5.out.digit (i:=n-1) (by omega);have c0:=u n (by omega);have c1:=u (n-1) (by omega);have c2:=u (n-2) (by omega);have d1:=F (n-1) (by omega);have d2:=F (n-2) (by omega);clear u F;obtain⟨px,Y,pv,T⟩:=k.parts (by omega) (by omega) (by omega) (by omega) (by omega);have pf:=k.first (by omega) (by omega);have G:us[n-1]'(by omega)<4294967296:=k.du.get _ (by omega);have H:us[n-2]'(by omega)<4294967296:=k.du.get _ (by omega);have O:vs[n-1]'(by omega)<4294967296:=k.dv.get _ (by omega);have a2:vs[n-2]'(by omega)<4294967296:=k.dv.get _ (by omega);have N:=k.top (by omega);have Q:aB us/aB vs<4294967296:=by
  have:=k.lt;rw[Nz (by
   refine NG fun e=>?_
   rw[e]at this;omega)]
  exact this
 obtain⟨K,e0⟩:∃x,us[n]'(by omega)=x:=⟨_,rfl⟩;obtain⟨x1,e1⟩:∃x,us[n-1]'(by omega)=x:=⟨_,rfl⟩;obtain⟨x2,e2⟩:∃x,us[n-2]'(by omega)=x:=⟨_,rfl⟩;obtain⟨c,f1⟩:∃x,vs[n-1]'(by omega)=x:=⟨_,rfl⟩;obtain⟨P,f2⟩:∃x,vs[n-2]'(by omega)=x:=⟨_,rfl⟩;rw[e0]at c0 px pf;rw[e1]at c1 px G;rw[e2]at c2 px H;rw[f1]at d1 pv pf O N;rw[f2]at d2 pv a2;have v:Hid (GuessD (aB us) (aB vs) (4294967296^(n-2)) c P (aB (vs.take (n-2))) K x1 x2 (aB (us.take (n-2)))):=⟨px,Y,pv,T,⟨N,O⟩,a2,G,H,pf,Q⟩;clear px Y pv T Q e0 e1 e2 f1 f2 k;obtain⟨X,hX⟩:∃X,aB us=X:=⟨_,rfl⟩;obtain⟨V,hV⟩:∃V,aB vs=V:=⟨_,rfl⟩;rw[hX,hV]at v⊢;clear hX hV;have a1:=BH K x1 (by omega) G;rw[show(((K*4294967296:Nat)):Int)=(K:Int)*4294967296 by omega]at a1;have y:K*4294967296+x1<18446744073709551616:=by omega
 obtain⟨t,ht⟩:∃t,K*4294967296+x1=t:=⟨_,rfl⟩;rw[ht]at a1 y;have L:=J ht;have b5:((c:Int)==0)=false:=by rw[beq_eq_false_iff_ne];omega
 rw[a4,a3];have g1:(0:Int)<=(n:Int)-1:=by omega
 have g2:((n:Int)-1).toNat=n-1:=by omega
 have g3:(0:Int)<=(n:Int)-2:=by omega
 have g4:((n:Int)-2).toNat=n-2:=by omega
 clear ht
 go_enter Tryz.func269,Tryz.ntmps269
 go_wp2
 go_quiet (fail)
 go_wp2
 go_loopw [7,8] (fun gv rv wr=>GuInv w X V c t gv rv wr) (fun gv _ _=>(intOf gv).toNat)
 case atStart=>exact xw v.out L.out (by rw[IntKind.wrap_u64];exact Ha (by omega) y) (by simp) (bh (Below.refl _ _))
 case round=>
  obtain⟨g,r,rfl,rfl,hI,b,a0⟩:=hrel;have z:=J hI;have a:=J a0;have R:=hI.2.1;have C2:=(a.out.cell (p:=⟨b1,o1+(n-2),none⟩) a9).trans c2;have D1:=(a.out.cell (p:=⟨b2,o2+(n-1),none⟩) W).trans d1;have D2:=(a.out.cell (p:=⟨b2,o2+(n-2),none⟩) W).trans d2;clear hI a0;by_cases d:4294967296<=g
  ·have M:decide ((g:Int)≥4294967296)=true:=decide_eq_true (by omega);have f:=J (show X/V+1<=g by have:=v.out.lt;exact L6 (Pf this) d);have o:0<g:=Mp (PB _) f.out;have b3:=(v.out.big (by rw[L.out];exact z.out.1) d).1
   go_wp2
   go_quiet (fail)
   by_cases C:4294967296<=r+c
   ·have l:=J (v.out.brk (g:=g) (r:=r) (by rw[L.out];exact z.out.1) f.out (by omega) C);have q1:IntKind.u64.wrap ((g:Int)-1)=(g:Int)-1:=by rw[IntKind.wrap_u64];omega
    have q2:IntKind.u64.wrap ((r:Int)+(c:Int))=(r:Int)+(c:Int):=by rw[IntKind.wrap_u64];omega
    have q3:decide ((r:Int)+(c:Int)≥4294967296)=true:=decide_eq_true (by omega);have h:=J (show((g-1:Nat):Int)=(g:Int)-1 by omega);clear b d C M o
    go_wp2
    go_ret
    exact⟨g-1,by rw[h.out];rfl,l.out.1,l.out.2.1,l.out.2.2,by first|exact bh a.out|exact bh (bh a.out)⟩
   have q1:IntKind.u64.wrap ((g:Int)-1)=(g:Int)-1:=by rw[IntKind.wrap_u64];omega
   have q2:IntKind.u64.wrap ((r:Int)+(c:Int))=(r:Int)+(c:Int):=by rw[IntKind.wrap_u64];omega
   have q3:decide ((r:Int)+(c:Int)≥4294967296)=false:=decide_eq_false (by omega);have h:=J (show(intOf (.int .u64 ((g:Int)-1))).toNat<(intOf (.int .u64 (g:Int))).toNat by simp[intOf];omega);have HN:=J (fun zg zr D=>sf (w:=w) (wr:=D) (zg:=zg) (zr:=zr) z.out f.out b (by omega:r+c<4294967296));clear b d C M o
   go_wp2
   go_roundw
   case rel=>exact HN.out _ _ _ Z Z (by first|exact bh a.out|exact bh (bh a.out))
   case measure=>exact h.out
  have M:decide ((g:Int)≥4294967296)=false:=decide_eq_false (by omega);have E:g*P<=4294967295*4294967295:=NU (by omega) (by omega);obtain⟨m,hm⟩:∃m,g*P=m:=⟨_,rfl⟩;rw[hm]at E;have U:IntKind.u64.wrap ((g:Int)*(P:Int))=(m:Int):=by
   rw[show(g:Int)*(P:Int)=(m:Int) by rw[<-hm];simp,IntKind.wrap_u64];omega
  have j:=BH r x2 R H;rw[show(((r*4294967296:Nat)):Int)=(r:Int)*4294967296 by omega]at j;have S:IntKind.u64.wrap ((r:Int)*4294967296)=(r:Int)*4294967296:=by rw[IntKind.wrap_u64];omega
  have s:r*4294967296+x2<18446744073709551616:=by omega
  obtain⟨q,hq⟩:∃q,r*4294967296+x2=q:=⟨_,rfl⟩;rw[hq]at j s;have HM:=J hm;have HQ:=J hq;clear hm hq;by_cases hn:q<m
  ·have I:decide ((m:Int)>(q:Int))=true:=decide_eq_true (by omega);have f:=J (v.out.over (g:=g) (r:=r) (by rw[L.out];exact z.out.1) (by rw[HQ.out,HM.out];exact hn));have o:0<g:=Mp (PB _) f.out
   go_wp2
   go_quiet (fail)
   clear I hn U j S s E;by_cases C:4294967296<=r+c
   ·have l:=J (v.out.brk (g:=g) (r:=r) (by rw[L.out];exact z.out.1) f.out (by omega) C);have q1:IntKind.u64.wrap ((g:Int)-1)=(g:Int)-1:=by rw[IntKind.wrap_u64];omega
    have q2:IntKind.u64.wrap ((r:Int)+(c:Int))=(r:Int)+(c:Int):=by rw[IntKind.wrap_u64];omega
    have q3:decide ((r:Int)+(c:Int)≥4294967296)=true:=decide_eq_true (by omega);have h:=J (show((g-1:Nat):Int)=(g:Int)-1 by omega);clear b d C M o
    go_wp2
    go_ret
    exact⟨g-1,by rw[h.out];rfl,l.out.1,l.out.2.1,l.out.2.2,by first|exact bh a.out|exact bh (bh a.out)⟩
   have q1:IntKind.u64.wrap ((g:Int)-1)=(g:Int)-1:=by rw[IntKind.wrap_u64];omega
   have q2:IntKind.u64.wrap ((r:Int)+(c:Int))=(r:Int)+(c:Int):=by rw[IntKind.wrap_u64];omega
   have q3:decide ((r:Int)+(c:Int)≥4294967296)=false:=decide_eq_false (by omega);have h:=J (show(intOf (.int .u64 ((g:Int)-1))).toNat<(intOf (.int .u64 (g:Int))).toNat by simp[intOf];omega);have HN:=J (fun zg zr D=>sf (w:=w) (wr:=D) (zg:=zg) (zr:=zr) z.out f.out b (by omega:r+c<4294967296));clear b d C M o
   go_wp2
   go_roundw
   case rel=>exact HN.out _ _ _ Z Z (by first|exact bh a.out|exact bh (bh a.out))
   case measure=>exact h.out
  have I:decide ((m:Int)>(q:Int))=false:=decide_eq_false (by omega);have l:=J (v.out.stop (g:=g) (r:=r) (by rw[L.out];exact z.out.1) z.out.2.2 (by omega) (by rw[HQ.out,HM.out];omega))
  go_wp2
  go_quiet (fail)
  clear I hn U j S s E b d M
  go_wp2
  go_ret
  exact⟨g,Z,l.out.1,l.out.2.1,l.out.2.2,by first|exact bh a.out|exact bh (bh a.out)⟩
theorem jw(w:World)(g i:Nat)(u:Value):w.grownBy (w.setCell ⟨g,i,none⟩ u) (some g):=⟨Z,Z,Z,by simp[World.setCell],fun k _ a=>by
 simp only[World.setCell];rw[NJ,if_neg (fun e=>a (by rw[e]))]⟩
theorem IsN.grown{W W':World}{A:Option Addr}{c g:Nat}{l:List Nat}(h:IsN W A c l)(f:W.grownBy W' (some g))(n:∀b off,A=some ⟨b,off,none⟩->b≠g):IsN W' A c l:=by
 refine⟨fun m=>?_,h.nil,h.cap,h.max,h.ok⟩;obtain⟨b,off,e,a,i⟩:=h.at_ m;refine⟨b,off,e,Mp a f.size,fun j u k=>?_⟩;rw[<-i j u k];exact World.cell?_of_block (f.block b a fun d=>n b off e (by injection d with d))
def SmInv(w:World)(g cap base j n f:Nat)(L vs:List Nat)(cv bv i:Value)(wr:World):Prop:=
 ∃(k c b:Nat) (out:List Nat),k<=n/\i=.int .i64 k/\cv=.int .u64 c/\bv=.int .u64 b/\c<4294967296/\b<=1/\out.length=k/\Digs out/\OwnN wr base (.slice (some ⟨g,0,none⟩) L.length cap) (L.take j++(out++L.drop (j+k)))/\aB out+f*aB (vs.take k)=aB ((L.drop j).take k)+(c+b)*4294967296^k/\w.grownBy wr (some g)
theorem mJ{L a:List Nat}{j k:Nat}(c:j+k<=L.length)(b:a.length=k):(L.take j++(a++L.drop (j+k))).length=L.length:=by
 simp only[Mc,Mf,MS,b];omega
theorem zF{L a:List Nat}{j k:Nat}(c:j+k<L.length)(d:a.length=k)(h:j+k<(L.take j++(a++L.drop (j+k))).length):(L.take j++(a++L.drop (j+k)))[j+k]=L[j+k]:=by
 have e:(L.take j++a).length=j+k:=by simp[d];omega
 have b:(L.take j++(a++L.drop (j+k)))[j+k]? =L[j+k]? :=by
  rw[<-MG,Mw (by omega),e,M4,Nd,No]
 rw[L4 h,L4 c]at b;exact Nt b
theorem qW{L a:List Nat}{j k d:Nat}(b:j+k<L.length)(c:a.length=k):(L.take j++(a++L.drop (j+k))).set (j+k) d=L.take j++((a++[d])++L.drop (j+(k+1))):=by
 have e:(L.take j++a).length=j+k:=by simp[c];omega
 rw[<-MG,NK _ _ (by omega),e,M4,Md b,Ms,MG,MG,show j+(k+1)=j+k+1 by omega];rfl
theorem oF{L:List Nat}{j k:Nat}(a:j+k<L.length):aB ((L.drop j).take (k+1))=aB ((L.drop j).take k)+4294967296^k*L[j+k]:=by
 rw[zC _ _ (by simp;omega),OS]
theorem BP{t:Nat}(a:t<18446744073709551616):bits .and .u64 (t:Int) 4294967295=((t%4294967296:Nat):Int):=by
 have h:=u64_and_nat t 4294967295 a (by decide);rw[show(4294967295:Nat)=2^32-1 by decide,On,show(2:Nat)^32=4294967296 by decide]at h;exact h
theorem ES{f x c u b:Nat}(w:f<4294967296)(v:x<4294967296)(s:c<4294967296)(n:u<4294967296)(k:b<=1):
  ∃t g d:Nat,t=f*x+c/\IntKind.u64.wrap (IntKind.u64.wrap ((f:Int)*(x:Int))+(c:Int))=(t:Int)/\t/4294967296<4294967296/\
   IntKind.u64.wrap (IntKind.u64.wrap ((u:Int)-bits .and .u64 (t:Int) 4294967295)-(b:Int))%4294967296=(g:Int)/\
   IntKind.u64.wrap (IntKind.u64.wrap ((u:Int)-bits .and .u64 (t:Int) 4294967295)-(b:Int))/9223372036854775808=(d:Int)/\g<4294967296/\d<=1/\g+t%4294967296+b=u+d*4294967296:=by
 have o:f*x<=4294967295*4294967295:=NU (by omega) (by omega);obtain⟨p,i⟩:∃p,f*x=p:=⟨_,rfl⟩;rw[i]at o;have h:(f:Int)*(x:Int)=(p:Int):=by rw[<-i];simp
 obtain⟨g,d,m,j,r,l,q⟩:=uj (u:=u) (lo:=(p+c)%4294967296) (bo:=b) n (Ni _ (by decide)) k;have e:∀a:Int,IntKind.u64.wrap (IntKind.u64.wrap ((u:Int)-a)-(b:Int))=((u:Int)-a-(b:Int))%18446744073709551616:=fun a=>by rw[IntKind.wrap_u64,IntKind.wrap_u64];omega
 refine⟨p+c,g,d,by rw[i],by rw[h,IntKind.wrap_u64,IntKind.wrap_u64];omega,by omega,?_,?_,r,l,q⟩
 ·rw[BP (by omega),e];exact m
 rw[BP (by omega),e];exact j
theorem zG{w wr:World}{g e base j n f k c b x u:Nat}{L vs a:List Nat}{i:Int}(I:k<n)(E:vs.length=n)(_:j+(n+1)<=L.length)(q:∃h:k<vs.length,vs[k]=x)(r:∃h:j+k<L.length,L[j+k]=u)(J:f<4294967296)(l:x<4294967296)(H:c<4294967296)(o:u<4294967296)(P:b<=1)(d:a.length=k)(v:Digs a)(y:OwnN wr base (.slice (some ⟨g,0,none⟩) L.length e) (L.take j++(a++L.drop (j+k))))(O:aB a+f*aB (vs.take k)=aB ((L.drop j).take k)+(c+b)*4294967296^k)(s:w.grownBy wr (some g))(G:i=((k+1:Nat):Int)):
  SmInv w g e base j n f L vs (.int .u64 (IntKind.u64.wrap (IntKind.u64.wrap ((f:Int)*(x:Int))+(c:Int))/4294967296))
   (.int .u64 (IntKind.u64.wrap (IntKind.u64.wrap ((u:Int)-bits .and .u64 (IntKind.u64.wrap (IntKind.u64.wrap ((f:Int)*(x:Int))+(c:Int))) 4294967295)-(b:Int))/9223372036854775808)) (.int .i64 i)
   (wr.setCell ⟨g,j+k,none⟩ (.int .u32 (IntKind.u64.wrap (IntKind.u64.wrap ((u:Int)-bits .and .u64 (IntKind.u64.wrap (IntKind.u64.wrap ((f:Int)*(x:Int))+(c:Int))) 4294967295)-(b:Int))%4294967296))):=by
 subst G;obtain⟨p,q⟩:=q;obtain⟨m,r⟩:=r;obtain⟨t,z,M,D,K,C,Q,B,A,N,F⟩:=ES J l H o P;rw[K,Q,B];refine⟨k+1,t/4294967296,M,a++[z],I,Z,by congr 1,Z,C,N,by simp[d],dO v A,?_,?_,s.trans (jw _ _ _ _)⟩
 ·have:=y.put (i:=j+k) (by rw[mJ (by omega) d]) _ z Z;rwa[qW m d]at this
 rw[dm a _ k d,cQ vs k p,q,oF m,r,MM];exact CR O D (by omega) F
theorem Hb{u c b:Nat}(j:u<4294967296)(i:c<4294967296)(k:b<=1):∃d a:Nat,IntKind.u64.wrap (IntKind.u64.wrap ((u:Int)-(c:Int))-(b:Int))%4294967296=(d:Int)/\IntKind.u64.wrap (IntKind.u64.wrap ((u:Int)-(c:Int))-(b:Int))/9223372036854775808=(a:Int)/\d<4294967296/\a<=1/\d+c+b=u+a*4294967296:=by
 obtain⟨d,a,h,f,m,g,l⟩:=uj (u:=u) (lo:=c) (bo:=b) j i k;have e:IntKind.u64.wrap (IntKind.u64.wrap ((u:Int)-(c:Int))-(b:Int))=((u:Int)-(c:Int)-(b:Int))%18446744073709551616:=by rw[IntKind.wrap_u64,IntKind.wrap_u64];omega
 rw[e];exact⟨d,a,h,f,m,g,l⟩
theorem Ja{A F U c b u d a P:Nat}(g:A+F=U+(c+b)*P)(h:d+c+b=u+a*4294967296):(A+P*d)+F=(U+P*u)+a*(P*4294967296):=by
 have e:P*(d+(c+b))=P*(u+a*4294967296):=by rw[<-h];congr 1;omega
 rw[MF P d,MF P u,Mt P (c+b)]at e;have f:P*(a*4294967296)=a*(P*4294967296):=NO ..;omega
def Jb(w:World)(g cap base j n f:Nat)(L vs:List Nat)(e:Ending)(w':World):Prop:=
 ∃(b:Bool) (out:List Nat),e=.returned (.bool b)/\out.length=n+1/\Digs out/\OwnN w' base (.slice (some ⟨g,0,none⟩) L.length cap) (L.take j++(out++L.drop (j+(n+1))))/\aB out+f*aB vs=aB ((L.drop j).take (n+1))+(if b then 4294967296^(n+1)else 0)/\w.grownBy w' (some g)
theorem ET(g s base j n f Y cb:Nat)(B:Option Addr)(L vs:List Nat)(w:World)(X:OwnN w base (.slice (some ⟨g,0,none⟩) L.length s) L)(I:Digs L)(hB:IsN w B cb vs)(G:∀b off,B=some ⟨b,off,none⟩->b≠g)(t:vs.length=n)(hj:j+(n+1)<=L.length)(hn:0<n)(hf:f<4294967296)(a3:n+1<=Y)(a0:L.length<=1073741824):
  Calls Tryz.prog 270 #[.slice (some ⟨g,j,none⟩) (n+1) Y,.slice B vs.length cb,.int .u64 f] w (Jb w g s base j n f L vs):=by
 have HO:=J X;have HD:=J I;have R:=J hB;clear X I hB;obtain⟨b2,o2,rfl,a1,N⟩:=R.out.digit (i:=0) (by omega);have a4:b2≠g:=G b2 o2 Z;rw[t];clear N
 go_enter Tryz.func270,Tryz.ntmps270
 go_wp2
 go_loopw [8,9,19] (fun cv bv i wr=>SmInv w g s base j n f L vs cv bv i wr) (fun _ _ i _=>n-(intOf i).toNat)
 case atStart=>exact⟨0,0,0,[],Mx _,Z,Z,Z,by omega,by omega,Z,fun d I=>by simp at I,by rw[M6,No,M8];exact HO.out,by simp[aB],World.grownBy.refl _ _⟩
 case round=>
  obtain⟨k,c,b,v,hk,rfl,rfl,rfl,hc,hb,D,C,E,F,r⟩:=hrel;have h:=J E;have HQ:=J F;have HG:=J r;have e:=J D;have y:=J C;have O:=J (R.out.grown r G);clear E F r D C;have P:=mJ (L:=L) (j:=j) (k:=k) (by omega) e.out;by_cases M:k<n
  ·obtain⟨b3,o3,l,a2,z⟩:=O.out.digit (i:=k) (by omega);injection l with l
   injection l with l T
   subst l T;have cx:=z k (by omega);have o:=R.out.lt (i:=k) (by omega);obtain⟨x,K⟩:∃x,vs[k]'(by omega)=x:=⟨_,rfl⟩;rw[K]at cx o;have HX:=J K;have m:=h.out.cell (i:=j+k) (by omega);rw[zF (by omega) e.out]at m;have S:=h.out.free (j+k);have a:L[j+k]'(by omega)<4294967296:=HD.out.get _ (by omega);obtain⟨u,q⟩:∃u,L[j+k]'(by omega)=u:=⟨_,rfl⟩;rw[q]at m a;have HU:=J q;clear z K q
   go_wp2
   go_roundw
   case rel=>exact zG M t hj ⟨by omega,HX.out⟩ ⟨by omega,HU.out⟩ hf o hc a hb e.out y.out h.out HQ.out HG.out (by omega)
   case measure=>simp[intOf];omega
  obtain rfl:k=n:=by omega
  have m:=h.out.cell (i:=j+k) (by omega);rw[zF (by omega) e.out]at m;have S:=h.out.free (j+k);have a:L[j+k]'(by omega)<4294967296:=HD.out.get _ (by omega);obtain⟨u,q⟩:∃u,L[j+k]'(by omega)=u:=⟨_,rfl⟩;rw[q]at m a;obtain⟨H,p,h1,h2,h3,h4,W⟩:=Hb a hc hb;have HE:Hid (aB (v++[H])+f*aB vs=aB ((L.drop j).take (k+1))+(if decide (p=1)then 4294967296^(k+1)else 0)):=by
   show _=_
   have V:=HQ.out;rw[Me (Ob t)]at V;rw[dm v _ k e.out,oF (by omega),q,Ja V W,MM];have U:p=0\/p=1:=by omega
   rcases U with rfl|rfl<;>simp
  have HP:=J (h.out.put (i:=j+k) P.symm (H:Int) H Z);rw[qW (by omega) e.out]at HP;have A:=J (dO y.out h3);have Q:((p:Int)==1)=decide (p=1):=by
   have U:p=0\/p=1:=by omega
   rcases U with rfl|rfl<;>rfl
  clear q W
  go_wp2
  go_ret
  exact⟨decide (p=1),v++[H],by rw[<-Q];rfl,by have:=e.out;simp[this],A.out,HP.out,HE.out,HG.out.trans (jw _ _ _ _)⟩
def AbInv(w:World)(g cap base j n:Nat)(L vs:List Nat)(cv i:Value)(wr:World):Prop:=
 ∃(k c:Nat) (out:List Nat),k<=n/\i=.int .i64 k/\cv=.int .u64 c/\c<=1/\out.length=k/\Digs out/\OwnN wr base (.slice (some ⟨g,0,none⟩) L.length cap) (L.take j++(out++L.drop (j+k)))/\aB out+c*4294967296^k=aB ((L.drop j).take k)+aB (vs.take k)/\w.grownBy wr (some g)
theorem zH{w wr:World}{g d base j n k c x u:Nat}{L vs a:List Nat}{i t s:Int}(B:k<n)(z:vs.length=n)(E:j+(n+1)<=L.length)(l:∃h:k<vs.length,vs[k]=x)(m:∃h:j+k<L.length,L[j+k]=u)(r:x<4294967296)(v:u<4294967296)(F:c<=1)(b:a.length=k)(p:Digs a)(q:OwnN wr base (.slice (some ⟨g,0,none⟩) L.length d) (L.take j++(a++L.drop (j+k))))(D:aB a+c*4294967296^k=aB ((L.drop j).take k)+aB (vs.take k))(o:w.grownBy wr (some g))(A:i=((k+1:Nat):Int))(y:t=(((u+x+c)/4294967296:Nat):Int))(C:s=(((u+x+c)%4294967296:Nat):Int)):
  AbInv w g d base j n L vs (.int .u64 t) (.int .i64 i) (wr.setCell ⟨g,j+k,none⟩ (.int .u32 s)):=by
 subst A y C;obtain⟨f,l⟩:=l;obtain⟨e,m⟩:=m;refine⟨k+1,(u+x+c)/4294967296,a++[(u+x+c)%4294967296],B,Z,Z,by omega,by simp[b],dO p (Ni _ (by decide)),?_,?_,o.trans (jw _ _ _ _)⟩
 ·have:=q.put (i:=j+k) (by rw[mJ (by omega) b]) _ ((u+x+c)%4294967296) Z;rwa[qW e b]at this
 rw[dm a _ k b,cQ vs k f,l,oF e,m,MM];exact CS D Z
def Jc(w:World)(g cap base j n:Nat)(L vs:List Nat)(e:Ending)(w':World):Prop:=
 ∃(out:List Nat) (q:Nat),e=.returned (.tuple #[])/\out.length=n+1/\Digs out/\OwnN w' base (.slice (some ⟨g,0,none⟩) L.length cap) (L.take j++(out++L.drop (j+(n+1))))/\aB out+q*4294967296^(n+1)=aB ((L.drop j).take (n+1))+aB vs/\w.grownBy w' (some g)
theorem Jd{A V U c u P:Nat}(h:A+c*P=U+V):(A+P*((u+c)%4294967296))+(u+c)/4294967296*(P*4294967296)=(U+P*u)+V:=by
 have a:P*((u+c)%4294967296)+(u+c)/4294967296*(P*4294967296)=P*(u+c):=by
  rw[<-Mu,Mt ((u+c)/4294967296) P,Mu,<-MF];congr 1;omega
 rw[MF P u,Mt P c]at a;omega
theorem EU(g o base j n S T:Nat)(B:Option Addr)(L vs:List Nat)(w:World)(Q:OwnN w base (.slice (some ⟨g,0,none⟩) L.length o) L)(E:Digs L)(U:IsN w B T vs)(C:∀b off,B=some ⟨b,off,none⟩->b≠g)(p:vs.length=n)(hj:j+(n+1)<=L.length)(hn:0<n)(a3:n+1<=S)(Y:L.length<=1073741824):
  Calls Tryz.prog 271 #[.slice (some ⟨g,j,none⟩) (n+1) S,.slice B vs.length T] w (Jc w g o base j n L vs):=by
 have HO:=J Q;have HD:=J E;have N:=J U;clear Q E U;obtain⟨W,o2,rfl,a0,I⟩:=N.out.digit (i:=0) (by omega);have a4:W≠g:=C W o2 Z;rw[p];clear I
 go_enter Tryz.func271,Tryz.ntmps271
 go_wp2
 go_loopw [4,10] (fun cv i wr=>AbInv w g o base j n L vs cv i wr) (fun _ i _=>n-(intOf i).toNat)
 case atStart=>exact⟨0,0,[],Mx _,Z,Z,by omega,Z,fun d E=>by simp at E,by rw[M6,No,M8];exact HO.out,by simp[aB],World.grownBy.refl _ _⟩
 case round=>
  obtain⟨k,c,z,hk,rfl,rfl,hc,v,t,y,A,m⟩:=hrel;have f:=J y;have X:=J A;have HG:=J m;have a:=J v;have q:=J t;have K:=J (N.out.grown m C);clear y A m v t;have M:=mJ (L:=L) (j:=j) (k:=k) (by omega) a.out;have D:=f.out.cell (i:=j+k) (by omega);rw[zF (by omega) a.out]at D;have a1:=f.out.free (j+k);have l:L[j+k]'(by omega)<4294967296:=HD.out.get _ (by omega);obtain⟨u,F⟩:∃u,L[j+k]'(by omega)=u:=⟨_,rfl⟩;rw[F]at D l;have R:=J F;clear F;by_cases H:k<n
  ·obtain⟨b3,o3,e,a2,r⟩:=K.out.digit (i:=k) (by omega);injection e with e
   injection e with e O
   subst e O;have cx:=r k (by omega);have h:=N.out.lt (i:=k) (by omega);obtain⟨x,G⟩:∃x,vs[k]'(by omega)=x:=⟨_,rfl⟩;rw[G]at cx h;have HX:=J G;clear r G
   go_wp2
   go_roundw
   case rel=>exact zH H p hj ⟨by omega,HX.out⟩ ⟨by omega,R.out⟩ h l hc a.out q.out f.out X.out HG.out (by omega) (by omega) (by omega)
   case measure=>simp[intOf];omega
  obtain rfl:k=n:=by omega
  have HE:Hid (aB (z++[(u+c)%4294967296])+(u+c)/4294967296*4294967296^(k+1)=aB ((L.drop j).take (k+1))+aB vs):=by
   show _=_
   have P:=X.out;rw[Me (Ob p)]at P;rw[dm z _ k a.out,oF (by omega),R.out,MM];exact Jd P
  have V:=J (f.out.put (i:=j+k) M.symm (((u+c)%4294967296:Nat):Int) ((u+c)%4294967296) Z);rw[qW (by omega) a.out]at V;have s:=J (dO q.out (Ni (u+c) (show 0<4294967296 by decide)));have HZ:=J (show((u:Int)+(c:Int))%4294967296=(((u+c)%4294967296:Nat):Int) by omega)
  go_wp2
  go_end0
  rw[HZ.out];exact⟨_,_,Z,by have:=a.out;simp[this],s.out,V.out,HE.out,HG.out.trans (jw _ _ _ _)⟩
end Go.Proofs.YtfoejfohbkmmeaaGreatDoor
