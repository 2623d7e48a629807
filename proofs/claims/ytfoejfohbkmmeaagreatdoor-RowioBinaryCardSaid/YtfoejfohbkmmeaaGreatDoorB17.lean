import Derived.Test.YtfoejfohbkmmeaaGreatDoorB16
import Derived.Test.YtfoejfohbkmmeaaGreatDoorB00
set_option maxRecDepth 100000
set_option maxHeartbeats 8000000
namespace Go.Proofs.YtfoejfohbkmmeaaGreatDoor
open Go.RowKit
open Lib renaming hid→J
def ShlInv(w:World)(n sz:Nat)(ds:List Nat)(c i:Value)(wr:World):Prop:=
 ∃(k cy:Nat) (out:List Nat),k<=ds.length/\i=.int .i64 k/\c=.int .u32 cy/\cy<2^n/\out.length=k/\Digs out/\OwnN wr w.heap.size (.slice (some ⟨w.heap.size,0,none⟩) sz sz) (out++List.replicate (sz-k) 0)/\aE out+cy*4294967296^k=2^n*aE (ds.take k)/\Below w.heap.size w wr/\w.heap.size<wr.heap.size
def J5(w:World)(n sz:Nat)(ds:List Nat)(e:Ending)(w':World):Prop:=
 ∃out cy,e=.returned (.slice (some ⟨w.heap.size,0,none⟩) sz sz)/\OwnN w' w.heap.size (.slice (some ⟨w.heap.size,0,none⟩) sz sz) out/\Digs out/\out.length=sz/\(sz=ds.length+1->cy=0)/\aE out+cy*4294967296^sz=2^n*aE ds/\Below w.heap.size w w'
theorem qT{n a:Nat}(c:n<32)(d:a<2^n):a<4294967296:=by
 have b:(2:Nat)^n<=2^32:=OQ (by decide) (by omega);have e:(2:Nat)^32=4294967296:=by decide
 omega
theorem zj{w wr:World}{n sz k g x:Nat}{c a:List Nat}{i:Int}(e:n<32)(v:sz=c.length\/sz=c.length+1)(o:k<c.length)(u:c[k]=x)(f:x<4294967296)(b:a.length=k)(l:Digs a)(s:g<2^n)(h:OwnN wr w.heap.size (.slice (some ⟨w.heap.size,0,none⟩) sz sz) (a++List.replicate (sz-k) 0))(B:aE a+g*4294967296^k=2^n*aE (c.take k))(y:Below w.heap.size w wr)(D:w.heap.size<wr.heap.size)(t:i=((k+1:Nat):Int)):
  ShlInv w n sz c (.int .u32 ((x:Int)/2^(32-n)%4294967296)) (.int .i64 i) (wr.setCell ⟨w.heap.size,k,none⟩ (.int .u32 (bits .or .u32 ((x:Int)*2^n%4294967296) (g:Int)))):=by
 subst t;obtain⟨C,A⟩:=J4 (d:=x) e s;have r:=EL e f;have j:=qT e s;have E:=qT e r;have m:((x:Int)*2^n%4294967296)=((x*2^n%4294967296:Nat):Int):=by simp
 have z:((x:Int)/2^(32-n)%4294967296)=((x/2^(32-n):Nat):Int):=by
  have:((x/2^(32-n):Nat):Int)=(x:Int)/2^(32-n):=by simp
  rw[<-this];clear m this;generalize x/2^(32-n)=q at*;omega
 rw[m,z,u32_or_nat _ _ (Pe _ (by decide)) j,C];refine⟨k+1,_,a++[x*2^n%4294967296+g],o,Z,Z,r,by simp[b],eA l A,?_,?_,y.setCell (p:=⟨w.heap.size,k,none⟩) (Oh _) _,by simpa[World.setCell]using D⟩
 ·have:=h.put (i:=k) (by simp[b];omega) _ (x*2^n%4294967296+g) Z;rw[show sz-k=sz-(k+1)+1 by omega,kx _ _ _ _ b]at this;exact this
 rw[dY a _ k b,dp c k o,u,OO];exact G6 e B
theorem DH(A:Option Addr)(c:Nat)(a:List Nat)(n sz:Nat)(w:World)(h:IsN w A c a)(hl:a.length<=1048577)(V:n<32)(L:sz=a.length\/sz=a.length+1):
  Calls Tryz.prog 268 #[.slice A a.length c,.int .u64 n,.int .i64 sz] w (J5 w n sz a):=by
 have Y:=J h;clear h;obtain⟨W,q,B,F,T⟩:=fd w sz (by omega);have q:=q .i64 .i64;have M:=J B;have R:=J F;have z:w.heap.size<W.heap.size:=by omega
 clear B F T
 go_enter Tryz.func268,Tryz.ntmps268
 go_wp2
 clear q
 go_loopw [8,15] (fun cr i wr=>ShlInv w n sz a cr i wr) (fun _ i _=>a.length-(intOf i).toNat)
 case atStart=>exact⟨0,0,[],OA _,Z,Z,Pw (by decide),Z,fun d hd=>by simp at hd,by simpa using M.out,by simp[aE],R.out,z⟩
 case round=>
  obtain⟨k,o,f,hk,rfl,rfl,X,C,G,v,D,E,K⟩:=hrel;have g:=J v;have P:=J D;have j:=J E;have b:=J C;have u:=J G;have U:=J X;clear v D E C G X;by_cases l:k<a.length
  ·obtain⟨bx,ox,rfl,a1,y⟩:=(Y.out.below j.out).digit l;have cx:=y k l;have m:=Y.out.lt l;obtain⟨x,H⟩:∃x,a[k]=x:=⟨_,rfl⟩;rw[H]at cx m;have HX:=J H;have Q:=g.out.free k;have t:=g.out.cell (i:=k) (by have:=b.out;simp;omega);obtain⟨old,e⟩:∃old,(f++List.replicate (sz-k) 0)[k]'(by have:=b.out;simp;omega)=old:=⟨_,rfl⟩;rw[e]at t;clear y H e
   go_wp2
   go_roundw
   case rel=>exact zj V L l HX.out m b.out u.out U.out g.out P.out j.out K (by omega)
   case measure=>simp[intOf];omega
  obtain rfl:k=a.length:=by omega
  by_cases a0:a.length<sz
  ·have Q:=g.out.free a.length;have t:=g.out.cell (i:=a.length) (by have:=b.out;simp;omega);obtain⟨old,e⟩:∃old,(f++List.replicate (sz-a.length) 0)[a.length]'(by have:=b.out;simp;omega)=old:=⟨_,rfl⟩;rw[e]at t;clear e;have s:o<4294967296:=qT V U.out;have S:=g.out.put (i:=a.length) (by have:=b.out;simp;omega) (o:Int) o Z;rw[show sz-a.length=0+1 by omega,kx _ _ _ _ b.out,P3,O5]at S;have r:=J S;have I:=J (eA u.out s);have N:Hid (aE (f++[o])=2^n*aE a):=by
    show _=_
    have:=P.out;rw[Pl]at this;rw[dY f o a.length b.out,OF];exact this
   have O:=J (j.out.setCell (p:=⟨w.heap.size,a.length,none⟩) (Oh _) (.int .u32 (o:Int)));clear S
   go_wp2
   go_ret
   exact⟨f++[o],0,Z,r.out,I.out,by have:=b.out;simp;omega,fun _=>rfl,by rw[N.out];simp,O.out⟩
  obtain rfl:sz=a.length:=by omega
  have r:=J (show OwnN wr w.heap.size (.slice (some ⟨w.heap.size,0,none⟩) a.length a.length) f by have:=g.out;rwa[Pb,P3,O5]at this)
  go_wp2
  go_ret
  exact⟨f,o,Z,r.out,u.out,b.out,fun h=>by omega,by have:=P.out;rwa[Pl]at this,j.out⟩
def ShrInv(w:World)(n:Nat)(ds:List Nat)(i:Value)(wr:World):Prop:=
 ∃k:Nat,k<=ds.length/\i=.int .i64 k/\OwnN wr w.heap.size (.slice (some ⟨w.heap.size,0,none⟩) ds.length ds.length) ((shr n ds).take k++List.replicate (ds.length-k) 0)/\Below w.heap.size w wr/\w.heap.size<wr.heap.size
theorem DI{n k g:Nat}{a:List Nat}(d:k<a.length)(c:∀h:k<(shr n a).length,(shr n a)[k]=g):((shr n a).take k++List.replicate (a.length-k) 0).set k g=(shr n a).take (k+1)++List.replicate (a.length-(k+1)) 0:=by
 have b:=hH n a;rw[show a.length-k=a.length-(k+1)+1 by omega,kx _ _ _ _ (by rw[Ox,b];omega),OM (by omega),c (by omega)]
theorem zk{w wr:World}{n k g:Nat}{z i:Int}{a:List Nat}(c:k<a.length)(e:∀h:k<(shr n a).length,(shr n a)[k]=g)(b:OwnN wr w.heap.size (.slice (some ⟨w.heap.size,0,none⟩) a.length a.length) ((shr n a).take k++List.replicate (a.length-k) 0))(j:Below w.heap.size w wr)(l:w.heap.size<wr.heap.size)(f:z=(g:Int))(d:i=((k+1:Nat):Int)):
  ShrInv w n a (.int .i64 i) (wr.setCell ⟨w.heap.size,k,none⟩ (.int .u32 z)):=by
 subst d;refine⟨k+1,c,Z,?_,j.setCell (p:=⟨w.heap.size,k,none⟩) (Oh _) _,by simpa[World.setCell]using l⟩;have:=b.put (i:=k) (by simp[hH];omega) z g f;rwa[DI c e]at this
theorem xP{w wr:World}{n k g x:Nat}{z i:Int}{a:List Nat}(d:k<a.length)(j:∀h:k<(shr n a).length,(shr n a)[k]=g)(c:OwnN wr w.heap.size (.slice (some ⟨w.heap.size,0,none⟩) a.length a.length) ((shr n a).take k++List.replicate (a.length-k) 0))(m:Below w.heap.size w wr)(q:w.heap.size<wr.heap.size)(l:z=(g:Int))(f:i=((k+1:Nat):Int)):
  ShrInv w n a (.int .i64 i) ((wr.setCell ⟨w.heap.size,k,none⟩ (.int .u32 ((x:Int)/2^n))).setCell ⟨w.heap.size,k,none⟩ (.int .u32 z)).drew:=by
 subst f;have b:=(m.setCell (p:=⟨w.heap.size,k,none⟩) (Oh _) (.int .u32 ((x:Int)/2^n))).setCell (p:=⟨w.heap.size,k,none⟩) (Oh _) (.int .u32 z);refine⟨k+1,d,Z,?_,b.drew,by simpa[World.setCell]using q⟩;have o:=c.put (i:=k) (by simp[hH];omega) ((x:Int)/2^n) (x/2^n) (by simp);have e:=o.put (i:=k) (by simp[hH];omega) z g l;rw[List.set_set,DI d j]at e;exact e.below ((Below.refl _ _).drew)
theorem G7{n k x:Nat}{a:List Nat}(b:k<a.length)(c:a[k]=x)(d:¬k+1<a.length):∀h:k<(shr n a).length,(shr n a)[k]=x/2^n:=fun h=>by
 rw[xO n a k b h,c,Ov (by omega)];simp
theorem J6{n k x y:Nat}{a:List Nat}(m:n<32)(p:k<a.length)(i:a[k]=x)(b:x<4294967296)(w:k+1<a.length)(o:a[k+1]=y)(c:y<4294967296):
  ∃g:Nat,(∀h:k<(shr n a).length,(shr n a)[k]=g)/\bits .or .u32 ((x:Int)/2^n) (IntKind.u64.wrap ((y:Int)*2^(32-n))%4294967296)=(g:Int):=by
 have e:=tA m;have d:0<2^n:=Pw (by decide);have u:0<2^(32-n):=Pw (by decide);refine⟨x/2^n+y%2^n*2^(32-n),fun h=>?_,?_⟩
 ·rw[xO n a k p h,i,Ow w,o];rfl
 have t:x/2^n<2^(32-n):=by rw[Pr d,OF,e];exact b
 have f:y*2^(32-n)%4294967296=y%2^n*2^(32-n):=by rw[<-e,Su]
 have r:y%2^n*2^(32-n)<4294967296:=by rw[<-f];exact Pe _ (by decide)
 have z:x/2^n<=x:=Ql _ _;have j:2^(32-n)<=4294967296:=by rw[<-e];exact Nat.le_mul_of_pos_left _ d
 have A:y*2^(32-n)<=4294967295*4294967296:=Qr (by omega) j;have l:((x:Int)/2^n)=((x/2^n:Nat):Int):=by simp
 have s:((y:Int)*2^(32-n))=((y*2^(32-n):Nat):Int):=by simp
 have v:IntKind.u64.wrap ((y*2^(32-n):Nat):Int)%4294967296=((y%2^n*2^(32-n):Nat):Int):=by
  rw[IntKind.wrap_u64,<-f];generalize y*2^(32-n)=q at*;omega
 rw[l,s,v,u32_or_nat _ _ (by omega) r,Sk,<-Qp,<-PU t,Qp,P0]
theorem J7(A:Option Addr)(c:Nat)(a:List Nat)(n:Nat)(w:World)(h:IsN w A c a)(hl:a.length<=1048577)(L:n<32):
  Calls Tryz.prog 272 #[.slice A a.length c,.int .u64 n] w (gU (fun W v=>IsD W v (aE a/2^n)) w):=by
 have H:=J h;clear h;obtain⟨W,q,B,E,T⟩:=fd w a.length (by omega);have q:=q .i64 .i64;have M:=J B;have R:=J E;have t:w.heap.size<W.heap.size:=by omega
 clear B E T
 go_enter Tryz.func272,Tryz.ntmps272
 go_wp2
 clear q
 go_loopw [13] (fun i wr=>ShrInv w n a i wr) (fun i _=>a.length-(intOf i).toNat)
 case atStart=>exact⟨0,OA _,Z,by simpa using M.out,R.out,t⟩
 case round=>
  obtain⟨k,hk,rfl,r,D,u⟩:=hrel;have f:=J r;have b:=J D;clear r D;have N:=hH n a;by_cases d:k<a.length
  ·obtain⟨bx,ox,rfl,a1,j⟩:=(H.out.below b.out).digit d;have cx:=j k d;have m:=H.out.lt d;obtain⟨x,K⟩:∃x,a[k]=x:=⟨_,rfl⟩;rw[K]at cx m;have X:=J K;have a0:=f.out.free k;have Y:((shr n a).take k++List.replicate (a.length-k) 0).length=a.length:=by simp[N];omega
   have S:=f.out.cell (i:=k) (by omega);obtain⟨old,p⟩:∃old,((shr n a).take k++List.replicate (a.length-k) 0)[k]'(by omega)=old:=⟨_,rfl⟩;rw[p]at S;clear K p;by_cases l:k+1<a.length
   ·have cy:=j (k+1) l;have o:=H.out.lt l;obtain⟨y,G⟩:∃y,a[k+1]=y:=⟨_,rfl⟩;rw[G]at cy o;have HY:=J G;obtain⟨g,C,z⟩:=J6 L d X.out m l G o;have P:=J C;have Q:=J z;clear j G C z
    go_wp2
    go_region
    go_wp2
    go_roundw
    case rel=>exact xP d P.out f.out b.out u Q.out (by omega)
    case measure=>simp[intOf];omega
   clear j
   go_wp2
   go_roundw
   case rel=>exact zk d (G7 d X.out l) f.out b.out u (by simp) (by omega)
   case measure=>simp[intOf];omega
  obtain rfl:k=a.length:=by omega
  have h1:OwnN wr w.heap.size (.slice (some ⟨w.heap.size,0,none⟩) a.length a.length) (shr n a):=by
   have:=f.out;rwa[Pb,P3,O5,Oy (by omega)]at this
  obtain⟨U,V⟩:=h1.isN (zi L a H.out.ok);have HT:=J (pr U V (by omega) (DG L a));clear h1 U V
  go_wp2_with fail
  refine HT.out.mono ?_;rintro e w5 ⟨v5,rfl,F,s⟩;have O:=J F;have I:=J (aF b.out s b.out.size);clear F s
  go_wp2
  go_ret
  exact⟨_,Z,O.out,I.out⟩
theorem zl{X V P v1 v2 vl u2 xl a:Nat}(i:X=(a*4294967296+u2)*P+xl)(g:xl<P)(d:u2<4294967296)(h:V=(v1*4294967296+v2)*P+vl)(b:0<v1):X/V<=a/v1:=by
 have n:=Qv a v1;have k:=Pe a b;have f:a+1<=(a/v1+1)*v1:=by rw[Pf,OF];omega
 have o:(a+1)*(4294967296*P)<=((a/v1+1)*v1)*(4294967296*P):=OT _ f;have l:((a/v1+1)*v1)*(4294967296*P)<=(a/v1+1)*V:=by
  rw[OL];refine PL _ ?_;rw[h,<-OL];have:v1*4294967296*P<=(v1*4294967296+v2)*P:=OT _ (by omega);omega
 have m:X<(a+1)*(4294967296*P):=by
  have e:(a+1)*(4294967296*P)=(a*4294967296+4294967296)*P:=by rw[<-OL,Pf _ _ 4294967296]
  have j:(a*4294967296+u2+1)*P<=(a*4294967296+4294967296)*P:=OT _ (by omega);rw[e,i];rw[Pf _ 1]at j;omega
 have c:0<V:=by
  have:0<P:=by omega
  have:1*P<=(v1*4294967296+v2)*P:=OT _ (by omega);omega
 have:X/V<a/v1+1:=(Pr c).2 (by omega);omega
theorem J8{t v:Nat}(b:0<v)(h:t<18446744073709551616):(t:Int)/(v:Int)%18446744073709551616=((t/v:Nat):Int):=by
 have a:t/v<=t:=Ql _ _;rw[show((t:Int)/(v:Int))=((t/v:Nat):Int) by simp];generalize t/v=q at*;omega
structure GuessD (X V P v1 v2 vl u0 u1 u2 xl:Nat):Prop where
 hx:X=((u0*4294967296+u1)*4294967296+u2)*P+xl
 hxl:xl<P
 hv:V=(v1*4294967296+v2)*P+vl
 hvl:vl<P
 hv1:2147483648<=v1/\v1<4294967296
 hv2:v2<4294967296
 hu1:u1<4294967296
 hu2:u2<4294967296
 hu0:u0<=v1
 lt:X/V<4294967296
def LW(w:World)(X V:Nat)(e:Ending)(w':World):Prop:=∃g:Nat,e=.returned (.int .u64 g)/\X/V<=g/\g<=X/V+1/\g<4294967296/\Below w.heap.size w w'
def GuInv(w:World)(X V v1 top:Nat)(gv rv:Value)(wr:World):Prop:=∃g r:Nat,gv=.int .u64 g/\rv=.int .u64 r/\G5 X V v1 top g r/\g<8589934592/\Below w.heap.size w wr
section
variable {X V P v1 v2 vl u0 u1 u2 xl g r:Nat}
theorem GuessD.stop(h:GuessD X V P v1 v2 vl u0 u1 u2 xl)(c:u0*4294967296+u1=g*v1+r)(a:X/V<=g)(b:g<4294967296)(d:g*v2<=r*4294967296+u2):X/V<=g/\g<=X/V+1/\g<4294967296:=
 ⟨a,BT h.hx h.hv h.hvl (by have:=h.hv1;omega) c d b,b⟩
theorem GuessD.big(h:GuessD X V P v1 v2 vl u0 u1 u2 xl)(f:u0*4294967296+u1=g*v1+r)(b:4294967296<=g):(g=4294967296\/r+v1<4294967296)/\g*v1=(g-1)*v1+v1:=by
 have i:=h.hv1;have a:=h.hu1;have d:u0*4294967296<=v1*4294967296:=OT _ h.hu0;refine⟨?_,?_⟩
 ·by_cases e:g=4294967296
  ·exact .inl e
  right;have c:4294967297*v1<=g*v1:=OT _ (by omega);omega
 obtain⟨k,rfl⟩:∃k,g=k+1:=⟨g-1,by omega⟩;rw[QP,Pf,QF]
theorem zm{g v:Nat}(h:0<g):g*v=(g-1)*v+v:=by
 obtain⟨k,rfl⟩:∃k,g=k+1:=⟨g-1,by omega⟩;rw[QP,Pf,QF]
theorem GuessD.brk(h:GuessD X V P v1 v2 vl u0 u1 u2 xl)(c:u0*4294967296+u1=g*v1+r)(a:X/V+1<=g)(d:g<=4294967296)(f:4294967296<=r+v1):X/V<=g-1/\g-1<=X/V+1/\g-1<4294967296:=by
 have b:0<g:=Oz (RM _) a;refine h.stop (r:=r+v1) (by rw[c,zm b];omega) (Sz a) (by omega) ?_;have e:(g-1)*v2<=4294967295*4294967295:=Qr (by omega) (by have:=h.hv2;omega);omega
theorem GuessD.over(h:GuessD X V P v1 v2 vl u0 u1 u2 xl)(b:u0*4294967296+u1=g*v1+r)(c:r*4294967296+u2<g*v2):X/V+1<=g:=by
 have a:=BS h.hx h.hxl h.hv b c;have d:X/V<g:=by
  rw[Pr]
  ·exact a
  refine Pc fun e=>?_
  rw[e,QN]at a;omega
 omega
theorem zn{w wr:World}{t:Nat}{zg zr:Int}(h:GuessD X V P v1 v2 vl u0 u1 u2 xl)(c:u0*4294967296+u1=t)(b:zg=((t/v1:Nat):Int))(d:zr=((t%v1:Nat):Int))(a:Below w.heap.size w wr):GuInv w X V v1 t (.int .u64 zg) (.int .u64 zr) wr:=by
 subst b d;have e:=h.hv1;have f:=Pe t (show 0<v1 by omega);refine⟨_,_,Z,Z,⟨by rw[OF];exact(Qv t v1).symm,by omega,?_⟩,?_,a⟩
 ·rw[<-c];exact zl h.hx h.hxl h.hu2 h.hv (by omega)
 rw[Pr (by omega)];have:=h.hu0;have:=h.hu1;omega
theorem tB{w wr:World}{t:Nat}{zg zr:Int}(c:G5 X V v1 t g r)(a:X/V+1<=g)(i:g<8589934592)(f:r+v1<4294967296)(e:zg=(g:Int)-1)(h:zr=(r:Int)+(v1:Int))(d:Below w.heap.size w wr):GuInv w X V v1 t (.int .u64 zg) (.int .u64 zr) wr:=by
 have b:0<g:=Oz (RM _) a;subst e h;refine⟨g-1,r+v1,by congr 1;omega,by congr 1,⟨by rw[c.1,zm b];omega,f,Sz a⟩,by omega,d⟩
end
theorem EM(A B:Option Addr)(ca cb:Nat)(us vs:List Nat)(n:Nat)(w:World)(hA:IsN w A ca us)(hB:IsN w B cb vs)(k:Guess us vs n)(hn:n<=1048577):
  Calls Tryz.prog 269 #[.slice A us.length ca,.slice B vs.length cb] w (LW w (aE us) (aE vs)):=by
 have a4:=J hA;have a5:=J hB;have c3:=k.n2;have a9:=k.lu;have b0:=k.lv;clear hA hB;obtain⟨b1,o1,rfl,b3,u⟩:=a4.out.digit (i:=n) (by omega);obtain⟨b2,o2,rfl,R,H⟩:=a5.out.digit (i:=n-1) (by omega);have c0:=u n (by omega);have c1:=u (n-1) (by omega);have c2:=u (n-2) (by omega);have d1:=H (n-1) (by omega);have d2:=H (n-2) (by omega);clear u H;obtain⟨N,P,pv,O⟩:=k.parts (by omega) (by omega) (by omega) (by omega) (by omega);have pf:=k.first (by omega) (by omega);have C:us[n-1]'(by omega)<4294967296:=k.du.get _ (by omega);have D:us[n-2]'(by omega)<4294967296:=k.du.get _ (by omega);have S:vs[n-1]'(by omega)<4294967296:=k.dv.get _ (by omega);have a2:vs[n-2]'(by omega)<4294967296:=k.dv.get _ (by omega);have a1:=k.top (by omega);have W:aE us/aE vs<4294967296:=by
  have:=k.lt;rw[Pr (by
   refine Pc fun e=>?_
   rw[e]at this;omega)]
  exact this
 obtain⟨L,e0⟩:∃x,us[n]'(by omega)=x:=⟨_,rfl⟩;obtain⟨x1,e1⟩:∃x,us[n-1]'(by omega)=x:=⟨_,rfl⟩;obtain⟨x2,e2⟩:∃x,us[n-2]'(by omega)=x:=⟨_,rfl⟩;obtain⟨c,f1⟩:∃x,vs[n-1]'(by omega)=x:=⟨_,rfl⟩;obtain⟨Q,f2⟩:∃x,vs[n-2]'(by omega)=x:=⟨_,rfl⟩;rw[e0]at c0 N pf;rw[e1]at c1 N C;rw[e2]at c2 N D;rw[f1]at d1 pv pf S a1;rw[f2]at d2 pv a2;have v:Hid (GuessD (aE us) (aE vs) (4294967296^(n-2)) c Q (aE (vs.take (n-2))) L x1 x2 (aE (us.take (n-2)))):=⟨N,P,pv,O,⟨a1,S⟩,a2,C,D,pf,W⟩;clear N P pv O W e0 e1 e2 f1 f2 k;obtain⟨X,hX⟩:∃X,aE us=X:=⟨_,rfl⟩;obtain⟨V,hV⟩:∃V,aE vs=V:=⟨_,rfl⟩;rw[hX,hV]at v⊢;clear hX hV;have Y:=DD L x1 (by omega) C;rw[show(((L*4294967296:Nat)):Int)=(L:Int)*4294967296 by omega]at Y;have y:L*4294967296+x1<18446744073709551616:=by omega
 obtain⟨t,ht⟩:∃t,L*4294967296+x1=t:=⟨_,rfl⟩;rw[ht]at Y y;have K:=J ht;have b5:((c:Int)==0)=false:=by rw[beq_eq_false_iff_ne];omega
 rw[a9,b0];have g1:(0:Int)<=(n:Int)-1:=by omega
 have g2:((n:Int)-1).toNat=n-1:=by omega
 have g3:(0:Int)<=(n:Int)-2:=by omega
 have g4:((n:Int)-2).toNat=n-2:=by omega
 clear ht
 go_enter Tryz.func269,Tryz.ntmps269
 go_wp2
 go_quiet (fail)
 go_wp2
 go_loopw [7,8] (fun gv rv wr=>GuInv w X V c t gv rv wr) (fun gv _ _=>(intOf gv).toNat)
 case atStart=>exact zn v.out K.out (by rw[IntKind.wrap_u64];exact J8 (by omega) y) (by simp) (bq (Below.refl _ _))
 case round=>
  obtain⟨g,r,rfl,rfl,hI,b,a0⟩:=hrel;have z:=J hI;have a:=J a0;have U:=hI.2.1;have C2:=(a.out.cell (p:=⟨b1,o1+(n-2),none⟩) b3).trans c2;have D1:=(a.out.cell (p:=⟨b2,o2+(n-1),none⟩) R).trans d1;have D2:=(a.out.cell (p:=⟨b2,o2+(n-2),none⟩) R).trans d2;clear hI a0;by_cases f:4294967296<=g
  ·have M:decide ((g:Int)≥4294967296)=true:=decide_eq_true (by omega);have h:=J (show X/V+1<=g by have:=v.out.lt;exact Oq (Ry this) f);have l:0<g:=Oz (RM _) h.out;have b4:=(v.out.big (by rw[K.out];exact z.out.1) f).1
   go_wp2
   go_quiet (fail)
   by_cases G:4294967296<=r+c
   ·have s:=J (v.out.brk (g:=g) (r:=r) (by rw[K.out];exact z.out.1) h.out (by omega) G);have q1:IntKind.u64.wrap ((g:Int)-1)=(g:Int)-1:=by rw[IntKind.wrap_u64];omega
    have q2:IntKind.u64.wrap ((r:Int)+(c:Int))=(r:Int)+(c:Int):=by rw[IntKind.wrap_u64];omega
    have q3:decide ((r:Int)+(c:Int)≥4294967296)=true:=decide_eq_true (by omega);have d:=J (show((g-1:Nat):Int)=(g:Int)-1 by omega);clear b f G M l
    go_wp2
    go_ret
    exact⟨g-1,by rw[d.out];rfl,s.out.1,s.out.2.1,s.out.2.2,by first|exact bq a.out|exact bq (bq a.out)⟩
   have q1:IntKind.u64.wrap ((g:Int)-1)=(g:Int)-1:=by rw[IntKind.wrap_u64];omega
   have q2:IntKind.u64.wrap ((r:Int)+(c:Int))=(r:Int)+(c:Int):=by rw[IntKind.wrap_u64];omega
   have q3:decide ((r:Int)+(c:Int)≥4294967296)=false:=decide_eq_false (by omega);have d:=J (show(intOf (.int .u64 ((g:Int)-1))).toNat<(intOf (.int .u64 (g:Int))).toNat by simp[intOf];omega);have HN:=J (fun zg zr F=>tB (w:=w) (wr:=F) (zg:=zg) (zr:=zr) z.out h.out b (by omega:r+c<4294967296));clear b f G M l
   go_wp2
   go_roundw
   case rel=>exact HN.out _ _ _ Z Z (by first|exact bq a.out|exact bq (bq a.out))
   case measure=>exact d.out
  have M:decide ((g:Int)≥4294967296)=false:=decide_eq_false (by omega);have E:g*Q<=4294967295*4294967295:=Qr (by omega) (by omega);obtain⟨m,hm⟩:∃m,g*Q=m:=⟨_,rfl⟩;rw[hm]at E;have T:IntKind.u64.wrap ((g:Int)*(Q:Int))=(m:Int):=by
   rw[show(g:Int)*(Q:Int)=(m:Int) by rw[<-hm];simp,IntKind.wrap_u64];omega
  have j:=DD r x2 U D;rw[show(((r*4294967296:Nat)):Int)=(r:Int)*4294967296 by omega]at j;have a3:IntKind.u64.wrap ((r:Int)*4294967296)=(r:Int)*4294967296:=by rw[IntKind.wrap_u64];omega
  have o:r*4294967296+x2<18446744073709551616:=by omega
  obtain⟨q,hq⟩:∃q,r*4294967296+x2=q:=⟨_,rfl⟩;rw[hq]at j o;have HM:=J hm;have HQ:=J hq;clear hm hq;by_cases hn:q<m
  ·have I:decide ((m:Int)>(q:Int))=true:=decide_eq_true (by omega);have h:=J (v.out.over (g:=g) (r:=r) (by rw[K.out];exact z.out.1) (by rw[HQ.out,HM.out];exact hn));have l:0<g:=Oz (RM _) h.out
   go_wp2
   go_quiet (fail)
   clear I hn T j a3 o E;by_cases G:4294967296<=r+c
   ·have s:=J (v.out.brk (g:=g) (r:=r) (by rw[K.out];exact z.out.1) h.out (by omega) G);have q1:IntKind.u64.wrap ((g:Int)-1)=(g:Int)-1:=by rw[IntKind.wrap_u64];omega
    have q2:IntKind.u64.wrap ((r:Int)+(c:Int))=(r:Int)+(c:Int):=by rw[IntKind.wrap_u64];omega
    have q3:decide ((r:Int)+(c:Int)≥4294967296)=true:=decide_eq_true (by omega);have d:=J (show((g-1:Nat):Int)=(g:Int)-1 by omega);clear b f G M l
    go_wp2
    go_ret
    exact⟨g-1,by rw[d.out];rfl,s.out.1,s.out.2.1,s.out.2.2,by first|exact bq a.out|exact bq (bq a.out)⟩
   have q1:IntKind.u64.wrap ((g:Int)-1)=(g:Int)-1:=by rw[IntKind.wrap_u64];omega
   have q2:IntKind.u64.wrap ((r:Int)+(c:Int))=(r:Int)+(c:Int):=by rw[IntKind.wrap_u64];omega
   have q3:decide ((r:Int)+(c:Int)≥4294967296)=false:=decide_eq_false (by omega);have d:=J (show(intOf (.int .u64 ((g:Int)-1))).toNat<(intOf (.int .u64 (g:Int))).toNat by simp[intOf];omega);have HN:=J (fun zg zr F=>tB (w:=w) (wr:=F) (zg:=zg) (zr:=zr) z.out h.out b (by omega:r+c<4294967296));clear b f G M l
   go_wp2
   go_roundw
   case rel=>exact HN.out _ _ _ Z Z (by first|exact bq a.out|exact bq (bq a.out))
   case measure=>exact d.out
  have I:decide ((m:Int)>(q:Int))=false:=decide_eq_false (by omega);have s:=J (v.out.stop (g:=g) (r:=r) (by rw[K.out];exact z.out.1) z.out.2.2 (by omega) (by rw[HQ.out,HM.out];omega))
  go_wp2
  go_quiet (fail)
  clear I hn T j a3 o E b f M
  go_wp2
  go_ret
  exact⟨g,Z,s.out.1,s.out.2.1,s.out.2.2,by first|exact bq a.out|exact bq (bq a.out)⟩
theorem jZ(w:World)(g i:Nat)(u:Value):w.grownBy (w.setCell ⟨g,i,none⟩ u) (some g):=⟨Z,Z,Z,by simp[World.setCell],fun k _ a=>by
 simp only[World.setCell];rw[P4,if_neg (fun e=>a (by rw[e]))]⟩
theorem IsN.grown{W W':World}{A:Option Addr}{c g:Nat}{l:List Nat}(h:IsN W A c l)(d:W.grownBy W' (some g))(i:∀b off,A=some ⟨b,off,none⟩->b≠g):IsN W' A c l:=by
 refine⟨fun k=>?_,h.nil,h.cap,h.max,h.ok⟩;obtain⟨b,off,e,a,n⟩:=h.at_ k;refine⟨b,off,e,Oz a d.size,fun j u m=>?_⟩;rw[<-n j u m];exact World.cell?_of_block (d.block b a fun f=>i b off e (by injection f with f))
def SmInv(w:World)(g cap base j n f:Nat)(L vs:List Nat)(cv bv i:Value)(wr:World):Prop:=
 ∃(k c b:Nat) (out:List Nat),k<=n/\i=.int .i64 k/\cv=.int .u64 c/\bv=.int .u64 b/\c<4294967296/\b<=1/\out.length=k/\Digs out/\OwnN wr base (.slice (some ⟨g,0,none⟩) L.length cap) (L.take j++(out++L.drop (j+k)))/\aE out+f*aE (vs.take k)=aE ((L.drop j).take k)+(c+b)*4294967296^k/\w.grownBy wr (some g)
theorem nF{L a:List Nat}{j k:Nat}(c:j+k<=L.length)(b:a.length=k):(L.take j++(a++L.drop (j+k))).length=L.length:=by
 simp only[Oj,Ox,OP,b];omega
theorem BU{L a:List Nat}{j k:Nat}(d:j+k<L.length)(c:a.length=k)(h:j+k<(L.take j++(a++L.drop (j+k))).length):(L.take j++(a++L.drop (j+k)))[j+k]=L[j+k]:=by
 have e:(L.take j++a).length=j+k:=by simp[c];omega
 have b:(L.take j++(a++L.drop (j+k)))[j+k]? =L[j+k]? :=by
  rw[<-O0,ON (by omega),e,Pb,PB,PI]
 rw[Og h,Og d]at b;exact PF b
theorem sj{L a:List Nat}{j k d:Nat}(c:j+k<L.length)(b:a.length=k):(L.take j++(a++L.drop (j+k))).set (j+k) d=L.take j++((a++[d])++L.drop (j+(k+1))):=by
 have e:(L.take j++a).length=j+k:=by simp[b];omega
 rw[<-O0,P5 _ _ (by omega),e,Pb,Ow c,Qe,O0,O0,show j+(k+1)=j+k+1 by omega];rfl
theorem py{L:List Nat}{j k:Nat}(a:j+k<L.length):aE ((L.drop j).take (k+1))=aE ((L.drop j).take k)+4294967296^k*L[j+k]:=by
 rw[BR _ _ (by simp;omega),Rg]
theorem DJ{t:Nat}(a:t<18446744073709551616):bits .and .u64 (t:Int) 4294967295=((t%4294967296:Nat):Int):=by
 have h:=u64_and_nat t 4294967295 a (by decide);rw[show(4294967295:Nat)=2^32-1 by decide,Qm,show(2:Nat)^32=4294967296 by decide]at h;exact h
theorem G8{f x c u b:Nat}(v:f<4294967296)(s:x<4294967296)(w:c<4294967296)(o:u<4294967296)(j:b<=1):
  ∃t g d:Nat,t=f*x+c/\IntKind.u64.wrap (IntKind.u64.wrap ((f:Int)*(x:Int))+(c:Int))=(t:Int)/\t/4294967296<4294967296/\
   IntKind.u64.wrap (IntKind.u64.wrap ((u:Int)-bits .and .u64 (t:Int) 4294967295)-(b:Int))%4294967296=(g:Int)/\
   IntKind.u64.wrap (IntKind.u64.wrap ((u:Int)-bits .and .u64 (t:Int) 4294967295)-(b:Int))/9223372036854775808=(d:Int)/\g<4294967296/\d<=1/\g+t%4294967296+b=u+d*4294967296:=by
 have k:f*x<=4294967295*4294967295:=Qr (by omega) (by omega);obtain⟨p,i⟩:∃p,f*x=p:=⟨_,rfl⟩;rw[i]at k;have h:(f:Int)*(x:Int)=(p:Int):=by rw[<-i];simp
 obtain⟨g,d,q,n,r,l,m⟩:=vL (u:=u) (lo:=(p+c)%4294967296) (bo:=b) o (Pe _ (by decide)) j;have e:∀a:Int,IntKind.u64.wrap (IntKind.u64.wrap ((u:Int)-a)-(b:Int))=((u:Int)-a-(b:Int))%18446744073709551616:=fun a=>by rw[IntKind.wrap_u64,IntKind.wrap_u64];omega
 refine⟨p+c,g,d,by rw[i],by rw[h,IntKind.wrap_u64,IntKind.wrap_u64];omega,by omega,?_,?_,r,l,m⟩
 ·rw[DJ (by omega),e];exact q
 rw[DJ (by omega),e];exact n
theorem BV{w wr:World}{g o base j n f k c b x u:Nat}{L vs a:List Nat}{i:Int}(E:k<n)(B:vs.length=n)(R:j+(n+1)<=L.length)(p:∃h:k<vs.length,vs[k]=x)(s:∃h:j+k<L.length,L[j+k]=u)(G:f<4294967296)(e:x<4294967296)(Q:c<4294967296)(m:u<4294967296)(D:b<=1)(d:a.length=k)(v:Digs a)(q:OwnN wr base (.slice (some ⟨g,0,none⟩) L.length o) (L.take j++(a++L.drop (j+k))))(N:aE a+f*aE (vs.take k)=aE ((L.drop j).take k)+(c+b)*4294967296^k)(y:w.grownBy wr (some g))(A:i=((k+1:Nat):Int)):
  SmInv w g o base j n f L vs (.int .u64 (IntKind.u64.wrap (IntKind.u64.wrap ((f:Int)*(x:Int))+(c:Int))/4294967296))
   (.int .u64 (IntKind.u64.wrap (IntKind.u64.wrap ((u:Int)-bits .and .u64 (IntKind.u64.wrap (IntKind.u64.wrap ((f:Int)*(x:Int))+(c:Int))) 4294967295)-(b:Int))/9223372036854775808)) (.int .i64 i)
   (wr.setCell ⟨g,j+k,none⟩ (.int .u32 (IntKind.u64.wrap (IntKind.u64.wrap ((u:Int)-bits .and .u64 (IntKind.u64.wrap (IntKind.u64.wrap ((f:Int)*(x:Int))+(c:Int))) 4294967295)-(b:Int))%4294967296))):=by
 subst A;obtain⟨r,p⟩:=p;obtain⟨l,s⟩:=s;obtain⟨t,z,H,O,J,P,F,I,C,M,K⟩:=G8 G e Q m D;rw[J,F,I];refine⟨k+1,t/4294967296,H,a++[z],E,Z,by congr 1,Z,P,M,by simp[d],eA v C,?_,?_,y.trans (jZ _ _ _ _)⟩
 ·have:=q.put (i:=j+k) (by rw[nF (by omega) d]) _ z Z;rwa[sj l d]at this
 rw[dY a _ k d,dp vs k r,p,py l,s,OO];exact EG N O (by omega) K
theorem J9{u c b:Nat}(j:u<4294967296)(k:c<4294967296)(f:b<=1):∃d a:Nat,IntKind.u64.wrap (IntKind.u64.wrap ((u:Int)-(c:Int))-(b:Int))%4294967296=(d:Int)/\IntKind.u64.wrap (IntKind.u64.wrap ((u:Int)-(c:Int))-(b:Int))/9223372036854775808=(a:Int)/\d<4294967296/\a<=1/\d+c+b=u+a*4294967296:=by
 obtain⟨d,a,l,i,m,g,h⟩:=vL (u:=u) (lo:=c) (bo:=b) j k f;have e:IntKind.u64.wrap (IntKind.u64.wrap ((u:Int)-(c:Int))-(b:Int))=((u:Int)-(c:Int)-(b:Int))%18446744073709551616:=by rw[IntKind.wrap_u64,IntKind.wrap_u64];omega
 rw[e];exact⟨d,a,l,i,m,g,h⟩
theorem LX{A F U c b u d a P:Nat}(f:A+F=U+(c+b)*P)(h:d+c+b=u+a*4294967296):(A+P*d)+F=(U+P*u)+a*(P*4294967296):=by
 have e:P*(d+(c+b))=P*(u+a*4294967296):=by rw[<-h];congr 1;omega
 rw[OU P d,OU P u,OF P (c+b)]at e;have g:P*(a*4294967296)=a*(P*4294967296):=P1 ..;omega
def LY(w:World)(g cap base j n f:Nat)(L vs:List Nat)(e:Ending)(w':World):Prop:=
 ∃(b:Bool) (out:List Nat),e=.returned (.bool b)/\out.length=n+1/\Digs out/\OwnN w' base (.slice (some ⟨g,0,none⟩) L.length cap) (L.take j++(out++L.drop (j+(n+1))))/\aE out+f*aE vs=aE ((L.drop j).take (n+1))+(if b then 4294967296^(n+1)else 0)/\w.grownBy w' (some g)
theorem G9(g t base j n f cw cb:Nat)(B:Option Addr)(L vs:List Nat)(w:World)(W:OwnN w base (.slice (some ⟨g,0,none⟩) L.length t) L)(I:Digs L)(hB:IsN w B cb vs)(A:∀b off,B=some ⟨b,off,none⟩->b≠g)(r:vs.length=n)(hj:j+(n+1)<=L.length)(hn:0<n)(hf:f<4294967296)(a0:n+1<=cw)(V:L.length<=1073741824):
  Calls Tryz.prog 270 #[.slice (some ⟨g,j,none⟩) (n+1) cw,.slice B vs.length cb,.int .u64 f] w (LY w g t base j n f L vs):=by
 have HO:=J W;have HD:=J I;have U:=J hB;clear W I hB;obtain⟨b2,o2,rfl,a1,P⟩:=U.out.digit (i:=0) (by omega);have a2:b2≠g:=A b2 o2 Z;rw[r];clear P
 go_enter Tryz.func270,Tryz.ntmps270
 go_wp2
 go_loopw [8,9,19] (fun cv bv i wr=>SmInv w g t base j n f L vs cv bv i wr) (fun _ _ i _=>n-(intOf i).toNat)
 case atStart=>exact⟨0,0,0,[],OA _,Z,Z,Z,by omega,by omega,Z,fun d I=>by simp at I,by rw[Py,PI,Pz];exact HO.out,by simp[aE],World.grownBy.refl _ _⟩
 case round=>
  obtain⟨k,c,b,q,hk,rfl,rfl,rfl,hc,Y,D,F,y,C,v⟩:=hrel;have h:=J y;have HQ:=J C;have HG:=J v;have e:=J D;have G:=J F;have O:=J (U.out.grown v A);clear y C v D F;have M:=nF (L:=L) (j:=j) (k:=k) (by omega) e.out;by_cases R:k<n
  ·obtain⟨b3,o3,l,a3,z⟩:=O.out.digit (i:=k) (by omega);injection l with l
   injection l with l S
   subst l S;have cx:=z k (by omega);have o:=U.out.lt (i:=k) (by omega);obtain⟨x,K⟩:∃x,vs[k]'(by omega)=x:=⟨_,rfl⟩;rw[K]at cx o;have HX:=J K;have m:=h.out.cell (i:=j+k) (by omega);rw[BU (by omega) e.out]at m;have Q:=h.out.free (j+k);have a:L[j+k]'(by omega)<4294967296:=HD.out.get _ (by omega);obtain⟨u,s⟩:∃u,L[j+k]'(by omega)=u:=⟨_,rfl⟩;rw[s]at m a;have HU:=J s;clear z K s
   go_wp2
   go_roundw
   case rel=>exact BV R r hj ⟨by omega,HX.out⟩ ⟨by omega,HU.out⟩ hf o hc a Y e.out G.out h.out HQ.out HG.out (by omega)
   case measure=>simp[intOf];omega
  obtain rfl:k=n:=by omega
  have m:=h.out.cell (i:=j+k) (by omega);rw[BU (by omega) e.out]at m;have Q:=h.out.free (j+k);have a:L[j+k]'(by omega)<4294967296:=HD.out.get _ (by omega);obtain⟨u,s⟩:∃u,L[j+k]'(by omega)=u:=⟨_,rfl⟩;rw[s]at m a;obtain⟨H,p,h1,h2,h3,h4,h5⟩:=J9 a hc Y;have HE:Hid (aE (q++[H])+f*aE vs=aE ((L.drop j).take (k+1))+(if decide (p=1)then 4294967296^(k+1)else 0)):=by
   show _=_
   have X:=HQ.out;rw[Oy (Qb r)]at X;rw[dY q _ k e.out,py (by omega),s,LX X h5,OO];have N:p=0\/p=1:=by omega
   rcases N with rfl|rfl<;>simp
  have HP:=J (h.out.put (i:=j+k) M.symm (H:Int) H Z);rw[sj (by omega) e.out]at HP;have E:=J (eA G.out h3);have T:((p:Int)==1)=decide (p=1):=by
   have N:p=0\/p=1:=by omega
   rcases N with rfl|rfl<;>rfl
  clear s h5
  go_wp2
  go_ret
  exact⟨decide (p=1),q++[H],by rw[<-T];rfl,by have:=e.out;simp[this],E.out,HP.out,HE.out,HG.out.trans (jZ _ _ _ _)⟩
def AbInv(w:World)(g cap base j n:Nat)(L vs:List Nat)(cv i:Value)(wr:World):Prop:=
 ∃(k c:Nat) (out:List Nat),k<=n/\i=.int .i64 k/\cv=.int .u64 c/\c<=1/\out.length=k/\Digs out/\OwnN wr base (.slice (some ⟨g,0,none⟩) L.length cap) (L.take j++(out++L.drop (j+k)))/\aE out+c*4294967296^k=aE ((L.drop j).take k)+aE (vs.take k)/\w.grownBy wr (some g)
theorem BW{w wr:World}{g e base j n k c x u:Nat}{L vs a:List Nat}{i t r:Int}(A:k<n)(z:vs.length=n)(E:j+(n+1)<=L.length)(f:∃h:k<vs.length,vs[k]=x)(o:∃h:j+k<L.length,L[j+k]=u)(s:x<4294967296)(v:u<4294967296)(F:c<=1)(b:a.length=k)(p:Digs a)(l:OwnN wr base (.slice (some ⟨g,0,none⟩) L.length e) (L.take j++(a++L.drop (j+k))))(C:aE a+c*4294967296^k=aE ((L.drop j).take k)+aE (vs.take k))(q:w.grownBy wr (some g))(y:i=((k+1:Nat):Int))(D:t=(((u+x+c)/4294967296:Nat):Int))(B:r=(((u+x+c)%4294967296:Nat):Int)):
  AbInv w g e base j n L vs (.int .u64 t) (.int .i64 i) (wr.setCell ⟨g,j+k,none⟩ (.int .u32 r)):=by
 subst y D B;obtain⟨m,f⟩:=f;obtain⟨d,o⟩:=o;refine⟨k+1,(u+x+c)/4294967296,a++[(u+x+c)%4294967296],A,Z,Z,by omega,by simp[b],eA p (Pe _ (by decide)),?_,?_,q.trans (jZ _ _ _ _)⟩
 ·have:=l.put (i:=j+k) (by rw[nF (by omega) b]) _ ((u+x+c)%4294967296) Z;rwa[sj d b]at this
 rw[dY a _ k b,dp vs k m,f,py d,o,OO];exact EH C Z
def LZ(w:World)(g cap base j n:Nat)(L vs:List Nat)(e:Ending)(w':World):Prop:=
 ∃(out:List Nat) (q:Nat),e=.returned (.tuple #[])/\out.length=n+1/\Digs out/\OwnN w' base (.slice (some ⟨g,0,none⟩) L.length cap) (L.take j++(out++L.drop (j+(n+1))))/\aE out+q*4294967296^(n+1)=aE ((L.drop j).take (n+1))+aE vs/\w.grownBy w' (some g)
theorem L0{A V U c u P:Nat}(h:A+c*P=U+V):(A+P*((u+c)%4294967296))+(u+c)/4294967296*(P*4294967296)=(U+P*u)+V:=by
 have a:P*((u+c)%4294967296)+(u+c)/4294967296*(P*4294967296)=P*(u+c):=by
  rw[<-OL,OF ((u+c)/4294967296) P,OL,<-OU];congr 1;omega
 rw[OU P u,OF P c]at a;omega
theorem Ha(g o base j n U V:Nat)(B:Option Addr)(L vs:List Nat)(w:World)(Q:OwnN w base (.slice (some ⟨g,0,none⟩) L.length o) L)(E:Digs L)(W:IsN w B V vs)(t:∀b off,B=some ⟨b,off,none⟩->b≠g)(m:vs.length=n)(hj:j+(n+1)<=L.length)(hn:0<n)(a0:n+1<=U)(P:L.length<=1073741824):
  Calls Tryz.prog 271 #[.slice (some ⟨g,j,none⟩) (n+1) U,.slice B vs.length V] w (LZ w g o base j n L vs):=by
 have HO:=J Q;have HD:=J E;have O:=J W;clear Q E W;obtain⟨Y,o2,rfl,a1,K⟩:=O.out.digit (i:=0) (by omega);have a2:Y≠g:=t Y o2 Z;rw[m];clear K
 go_enter Tryz.func271,Tryz.ntmps271
 go_wp2
 go_loopw [4,10] (fun cv i wr=>AbInv w g o base j n L vs cv i wr) (fun _ i _=>n-(intOf i).toNat)
 case atStart=>exact⟨0,0,[],OA _,Z,Z,by omega,Z,fun d E=>by simp at E,by rw[Py,PI,Pz];exact HO.out,by simp[aE],World.grownBy.refl _ _⟩
 case round=>
  obtain⟨k,c,q,hk,rfl,rfl,hc,v,A,r,y,p⟩:=hrel;have f:=J r;have X:=J y;have T:=J p;have a:=J v;have D:=J A;have I:=J (O.out.grown p t);clear r y p v A;have G:=nF (L:=L) (j:=j) (k:=k) (by omega) a.out;have C:=f.out.cell (i:=j+k) (by omega);rw[BU (by omega) a.out]at C;have a4:=f.out.free (j+k);have l:L[j+k]'(by omega)<4294967296:=HD.out.get _ (by omega);obtain⟨u,H⟩:∃u,L[j+k]'(by omega)=u:=⟨_,rfl⟩;rw[H]at C l;have R:=J H;clear H;by_cases M:k<n
  ·obtain⟨b3,o3,e,a3,s⟩:=I.out.digit (i:=k) (by omega);injection e with e
   injection e with e N
   subst e N;have cx:=s k (by omega);have h:=O.out.lt (i:=k) (by omega);obtain⟨x,F⟩:∃x,vs[k]'(by omega)=x:=⟨_,rfl⟩;rw[F]at cx h;have HX:=J F;clear s F
   go_wp2
   go_roundw
   case rel=>exact BW M m hj ⟨by omega,HX.out⟩ ⟨by omega,R.out⟩ h l hc a.out D.out f.out X.out T.out (by omega) (by omega) (by omega)
   case measure=>simp[intOf];omega
  obtain rfl:k=n:=by omega
  have HE:Hid (aE (q++[(u+c)%4294967296])+(u+c)/4294967296*4294967296^(k+1)=aE ((L.drop j).take (k+1))+aE vs):=by
   show _=_
   have S:=X.out;rw[Oy (Qb m)]at S;rw[dY q _ k a.out,py (by omega),R.out,OO];exact L0 S
  have HP:=J (f.out.put (i:=j+k) G.symm (((u+c)%4294967296:Nat):Int) ((u+c)%4294967296) Z);rw[sj (by omega) a.out]at HP;have z:=J (eA D.out (Pe (u+c) (show 0<4294967296 by decide)));have HZ:=J (show((u:Int)+(c:Int))%4294967296=(((u+c)%4294967296:Nat):Int) by omega)
  go_wp2
  go_end0
  rw[HZ.out];exact⟨_,_,Z,by have:=a.out;simp[this],z.out,HP.out,HE.out,T.out.trans (jZ _ _ _ _)⟩
end Go.Proofs.YtfoejfohbkmmeaaGreatDoor
