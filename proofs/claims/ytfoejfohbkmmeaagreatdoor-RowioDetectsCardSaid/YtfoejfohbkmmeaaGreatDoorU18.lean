import Derived.Test.YtfoejfohbkmmeaaGreatDoorU17
import Derived.Test.YtfoejfohbkmmeaaGreatDoorU03
import Derived.Laws.BitsAllLaws
import Derived.Laws.Bits64
import Derived.Test.YtfoejfohbkmmeaaGreatDoorU00
import Derived.Test.YtfoejfohbkmmeaaGreatDoorU15
import Derived.Test.YtfoejfohbkmmeaaGreatDoorU02
import Derived.Test.YtfoejfohbkmmeaaGreatDoorU13
set_option maxRecDepth 100000
set_option maxHeartbeats 1000000
namespace Go.Proofs.YtfoejfohbkmmeaaGreatDoor
open Go.RowKit
open Lib renaming hid→J
def lN(n:Int):List UInt8:=(List.range 8).map fun k=>UInt8.ofNat (((n+9223372036854775808).toNat/2^(56-8*k))%256)
def V.enc(v:V):List UInt8:=if v.t=2 then 2::(v.s.data.toList++[0])else 1::lN v.n
def V.ok(v:V):Bool:=be v.t v.n v.s
def fE(l:List V):List UInt8:=l.flatMap V.enc
theorem G4(a:Nat)(h:a<18446744073709551616):a^^^9223372036854775808=(a+9223372036854775808)%18446744073709551616:=by
 have b:(a^^^9223372036854775808)/2^63=(a/2^63)^^^(9223372036854775808/2^63):=Nat.xor_div_two_pow;have d:(a^^^9223372036854775808)%2^63=(a%2^63)^^^(9223372036854775808%2^63):=Nat.xor_mod_two_pow;have p:(2^63:Nat)=9223372036854775808:=by decide
 rw[p]at b d;have e:(9223372036854775808/9223372036854775808:Nat)=1:=by decide
 have f:(9223372036854775808%9223372036854775808:Nat)=0:=by decide
 rw[e]at b;rw[f,Nat.xor_zero]at d;have c:a/9223372036854775808=0\/a/9223372036854775808=1:=by omega
 rcases c with c|c<;>rw[c]at b
 ·have:(0^^^1:Nat)=1:=by decide
  rw[this]at b;omega
 have:(1^^^1:Nat)=0:=by decide
 rw[this]at b;omega
theorem ug(n:Int)(a: -9223372036854775808<=n)(b:n<=9223372036854775807):bits .xor .u64 (IntKind.u64.wrap n) 9223372036854775808=(((n+9223372036854775808).toNat:Nat):Int):=by
 rw[IntKind.wrap_u64];have e:n%18446744073709551616=((n%18446744073709551616).toNat:Int):=by omega
 have h:(n%18446744073709551616).toNat<18446744073709551616:=by omega
 rw[e];have:=u64_xor_nat (n%18446744073709551616).toNat 9223372036854775808 h (by decide);rw[show((9223372036854775808:Nat):Int)=9223372036854775808 from rfl]at this;rw[this,G4 _ h];omega
theorem xk(N e:Nat):((N:Int)/2^e%256)=(((UInt8.ofNat (N/2^e%256)).toNat:Nat):Int):=by
 have p:((2:Int)^e)=((2^e:Nat):Int):=by simp
 rw[p,<-PX];generalize N/2^e=M;have:(UInt8.ofNat (M%256)).toNat=M%256:=by simp[]
 rw[this];omega
theorem uh(n:Int)(j:Nat)(b:j<8):(lN n).take (j+1)=(lN n).take j++[UInt8.ofNat ((n+9223372036854775808).toNat/2^(56-8*j)%256)]:=by
 have a:j<(lN n).length:=by simp[lN];omega
 rw[Mq a];simp[lN]
theorem ma(n:Int):(lN n).length=8:=by simp[lN]
theorem xn(l:List V)(k:Nat)(h:k<l.length):fE (l.take (k+1))=fE (l.take k)++l[k].enc:=by
 rw[Mq h,fE,O1];simp[fE]
theorem BL(l:List V)(k:Nat)(h:k<l.length):(l.take (k+1)).all V.ok=((l.take k).all V.ok&&l[k].ok):=by
 rw[Mq h,NX];simp
def vN(l:List V)(w:World)(e:Ending)(w':World):Prop:=
 ∃v,e=.returned v/\(l.all V.ok=true->OwnB w' w.heap.size v (fE l))/\(l.all V.ok=false->v=.slice none 0 0)/\Below w.heap.size w w'
theorem EN(A:Option Addr)(cap:Nat)(l:List V)(w:World)(h:At w w.heap.size A (co l))(hl:l.length<=65536)(hr:∀v∈l,-9223372036854775808<=v.n/\v.n<=9223372036854775807):
  Calls Tryz.prog 52 #[.slice A l.length cap] w (vN l w):=by
 have HRR:=J hr;clear hr
 go_enter Tryz.func52,Tryz.ntmps52
 go_wp2
 go_loopw [3,10] (fun b i wr=>∃k:Nat,k<=l.length/\i=.int .i64 k/\(l.take k).all V.ok=true/\OwnB wr w.heap.size b (fE (l.take k))/\(fE (l.take k)).length<=67*k/\Below w.heap.size w wr) (fun _ i _=>l.length-(intOf i).toNat)
 case atStart=>exact⟨0,Mx _,Z,by simp,OwnB.nil _ _,by simp[fE],Below.refl _ _⟩
 case round=>
  obtain⟨k,hk,rfl,hall,hown,hlen,hbw⟩:=hrel;have HA:=J hall;have HO:=J hown;have HB:=J hbw;have HAt:=J (h.below hbw);clear hall hown hbw h;by_cases hlt:k<l.length
  ·obtain⟨b',off,rfl,hb',c0,c1,c2⟩:=HAt.out.val hlt;have HS:=J (xn l k hlt);have HK:=J (BL l k hlt);obtain⟨v,hv⟩:∃v,l[k]=v:=⟨_,rfl⟩;rw[hv]at c0 c1 c2;have HS:Hid (fE (l.take (k+1))=fE (l.take k)++v.enc):=by rw[<-hv];exact HS
   have HK:Hid ((l.take (k+1)).all V.ok=((l.take k).all V.ok&&v.ok)):=by rw[<-hv];exact HK
   have hrv: -9223372036854775808<=v.n/\v.n<=9223372036854775807:=HRR.out v (by rw[<-hv];exact MY hlt);clear hv;obtain⟨t,n,s⟩:=v;obtain⟨hn0,hn1⟩:=hrv;simp only at hn0 hn1;obtain⟨W,hW,hb1,hg1,hz1⟩:=lQ wr 77 #[.int .i64 t,.int .i64 n,.string s];have HW:=J hW;have HB1:=J hb1;have HG1:=J hg1;have HZ:=J hz1;clear hW hb1 hg1 hz1;cases hok:be t n s
   ·have hv:∀w:World,Calls Tryz.prog 104 #[.agg #[.int .i64 t,.int .i64 n,.string s]] w fun e w'=>e=.returned (.bool false)/\Below w.heap.size w w':=fun w=>by
     have:=eG t n s w;rwa[hok]at this
    have HV:=J hv;have HOK:=J hok;clear hv hok
    go_wp2_with fail
    rw[HW.out];refine(HV.out _).mono ?_;rintro e w1 ⟨rfl,hb2⟩;have HB2:=J hb2;clear hb2
    go_wp2
    go_ret
    refine⟨_,Z,fun hc=>?_,fun _=>rfl,ak (ak HB.out HB1.out HB.out.size) HB2.out (by rw[HZ.out];have:=HB.out.size;omega)⟩;have h1:(l.take (k+1)).all V.ok=true:=by
     rw[Mh]at hc⊢;exact fun x hx=>hc x (MC hx)
    rw[HK.out,Ma]at h1;have h2:be t n s=true:=h1.2;rw[HOK.out]at h2;cases h2
   have hv:∀w:World,Calls Tryz.prog 104 #[.agg #[.int .i64 t,.int .i64 n,.string s]] w fun e w'=>e=.returned (.bool true)/\Below w.heap.size w w':=fun w=>by
    have:=eG t n s w;rwa[hok]at this
   have HV:=J hv;have HOK:=J hok;clear hv hok;by_cases ht:t=2
   ·subst ht
    go_wp2_with fail
    rw[HW.out];refine(HV.out _).mono ?_;rintro e w1 ⟨rfl,hb2⟩;have HB2:=J hb2;have HG2:=J (HG1.out.below hb2 HG1.out.lt);have HO2:=J ((HO.out.below HB1.out).below hb2);clear hb2;obtain⟨d0,d1,d2,_,_,_⟩:=HG2.out.three;have hwr:=HB.out.size;have hsz:w.heap.size<=w1.heap.size:=by have h1:=HB1.out.size;have h2:=HB2.out.size;omega
    have HF:=J (kT HO.out (L5 _));have hs64:s.size<=64:=by have:=HOK.out;simp[be]at this;omega
    have henc:V.enc ⟨2,n,s⟩=2::(s.data.toList++[0]):=by simp[V.enc]
    have HEN:=J henc;clear henc
    go_wp2_with (first
     |(at_builtin;refine kf w.heap.size u3 _ 2 2 (.tmp 17) (.tmp 21) rfl rfl rfl rfl HO2.out rfl (by omega) hsz ?_;intro v3 w3 hown3 hgr3;have HO3:=J hown3;have HR3:=J hgr3;have HG3:=J (hgr3.blk HG2.out HF.out);have HF3:=J (hgr3.far _ HG2.out.lt HF.out);have hsz3:=L6 hsz hgr3.size;clear d0 d1 d2 hown3 hgr3;obtain⟨d0,d1,d2,_,_,_⟩:=HG3.out.three)
     |(at_builtin;refine Bf w.heap.size v3 _ s (.tmp 26) (.tmp 28) rfl rfl rfl rfl HO3.out ?hlen hsz3 ?_;rotate_left;intro v4 w4 hown4 hgr4;have HO4:=J hown4;have HR4:=J hgr4;have hsz4:=L6 hsz3 hgr4.size;clear d0 d1 d2 hown4 hgr4)
     |(at_builtin;refine kf w.heap.size v4 _ 0 0 (.tmp 30) (.tmp 31) rfl rfl rfl rfl HO4.out rfl ?hlen2 hsz4 ?_;rotate_left;intro v5 w5 hown5 hgr5;have HO5:=J hown5;have HR5:=J hgr5;clear hown5 hgr5))
    case hlen=>simp;omega
    case hlen2=>simp;omega
    go_roundw
    case rel=>
     refine⟨k+1,by omega,by go_num,by rw[HK.out,HA.out];exact HOK.out,?_,?_,?_⟩
     ·have e:fE (l.take (k+1))=fE (l.take k)++[2]++s.data.toList++[0]:=by rw[HS.out,HEN.out];simp
      rw[e];exact HO5.out
     ·rw[HS.out,HEN.out];simp;omega
     exact(((ak (ak HB.out HB1.out hwr) HB2.out (by rw[HZ.out];omega)).trans HR3.out.below).trans HR4.out.below).trans HR5.out.below
    case measure=>simp[intOf];omega
   have ht1:t=1:=by
    have:=HOK.out;by_cases h1:t=1
    ·exact h1
    simp[be,h1]at this;exact absurd this.1.1.1 ht
   subst ht1;clear ht
   go_wp2_with fail
   rw[HW.out];refine(HV.out _).mono ?_;rintro e w1 ⟨rfl,hb2⟩;have HB2:=J hb2;have HG2:=J (HG1.out.below hb2 HG1.out.lt);have HO2:=J ((HO.out.below HB1.out).below hb2);clear hb2;obtain⟨d0,d1,d2,_,_,_⟩:=HG2.out.three;have hwr:=HB.out.size;have hsz:w.heap.size<=w1.heap.size:=by have h1:=HB1.out.size;have h2:=HB2.out.size;omega
   have HF:=J (kT HO.out (L5 _))
   go_wp2_with (at_builtin;refine kf w.heap.size u3 _ 1 1 (.tmp 17) (.tmp 21) rfl rfl rfl rfl HO2.out rfl (by omega) hsz ?_;intro v3 w3 hown3 hgr3;have HO3:=J hown3;have HR3:=J hgr3;have HG3:=J (hgr3.blk HG2.out HF.out);have HF3:=J (hgr3.far _ HG2.out.lt HF.out);have hsz3:=L6 hsz hgr3.size;clear d0 d1 d2 hown3 hgr3;obtain⟨d0,d1,d2,_,_,_⟩:=HG3.out.three)
   rw[ug n hn0 hn1];have HEN:=J (show V.enc ⟨1,n,s⟩=1::lN n by simp[V.enc]);have HES:=J (uh n);have HBB:=J ((ak (ak HB.out HB1.out hwr) HB2.out (by rw[HZ.out];omega)).trans HR3.out.below);have hEL:=ma n;have hEL8:(lN n).length<=8:=by omega
   clear hEL d0 d1 d2;generalize (n+9223372036854775808).toNat=N at HES⊢;obtain⟨wo,hwo⟩:∃wo:World,wo=wr:=⟨_,rfl⟩;subst hwo
   go_loopw [3,7] (fun b i w'=>∃j:Nat,j<=8/\i=.int .i64 (56-8*(j:Int))/\OwnB w' w.heap.size b (fE (l.take k)++[1]++(lN n).take j)/\w.heap.size<=w'.heap.size/\Below w.heap.size w w') (fun _ i _=>(intOf i+8).toNat)
   case atStart=>exact⟨0,by omega,by simp,by simpa using HO3.out,hsz3,HBB.out⟩
   case round=>
    obtain⟨j,hj,rfl,hown4,hsz4,hb4⟩:=hrel;have HO4:=J hown4;have HB4:=J hb4;clear hown4 hb4;by_cases hj8:j<8
    ·have htl:((lN n).take j).length<=8:=by rw[Mf];omega
     have HEB:=J (xk N (56-8*j))
     go_wp2_with (at_builtin;refine kf w.heap.size _ _ _ (UInt8.ofNat (N/2^(56-8*j)%256)) (.tmp 41) (.tmp 46) rfl rfl rfl rfl HO4.out HEB.out ?hlen3 hsz4 ?_;rotate_left;intro v5 w5 hown5 hgr5;have HO5:=J hown5;have HB5:=J hgr5.below;have hsz5:=L6 hsz4 hgr5.size;clear hown5 hgr5)
     case hlen3=>simp at htl⊢;omega
     go_roundw
     case rel=>
      refine⟨j+1,by omega,by go_num,?_,hsz5,HB4.out.trans HB5.out⟩;rw[HES.out j hj8,<-MG];exact HO5.out
     case measure=>simp[intOf];omega
    obtain rfl:j=8:=by omega
    go_wp2
    go_roundw
    case rel=>
     refine⟨k+1,by omega,by go_num,by rw[HK.out,HA.out];exact HOK.out,?_,?_,HB4.out⟩
     ·have e:fE (l.take (k+1))=fE (l.take k)++[1]++(lN n).take 8:=by
       rw[HS.out,HEN.out,Me hEL8];simp
      rw[e];exact HO4.out
     rw[HS.out,HEN.out];simp;omega
    case measure=>simp[intOf];omega
  have HL:=J (show l.all V.ok=true by have:=HA.out;rwa[Me (by omega)]at this)
  go_wp2
  go_ret
  refine⟨_,Z,fun _=>?_,fun hc=>?_,HB.out⟩
  ·have:=HO.out;rwa[Me (by omega)]at this
  rw[HL.out]at hc;cases hc
theorem xo(a b:Int):eu b a= -eu a b:=by
 by_cases h:a<b
 ·rw[gj h,mG h];rfl
 by_cases c:b<a
 ·rw[gj c,mG c]
 rw[jR h c,jR c h];rfl
theorem dn(a b:Int):eu a b= -1/\a<b\/eu a b=0/\a=b\/eu a b=1/\b<a:=by
 by_cases h:a<b
 ·exact .inl ⟨gj h,h⟩
 by_cases c:b<a
 ·exact .inr (.inr ⟨mG c,c⟩)
 exact .inr (.inl ⟨jR h c,by omega⟩)
theorem fA{a b c:Int}(h:a≠0):yM a b c=a:=by simp[yM,h]
theorem eQ{b c:Int}(h:b≠0):yM 0 b c=b:=by simp[yM,h]
theorem kx(c:Int):yM 0 0 c=c:=by simp[yM]
theorem EO(a b:Int)(f:ByteArray)(c nb:Int)(d:ByteArray):gS c nb d a b f= -gS a b f c nb d:=by
 have h:=xo a c;have i:=xo b nb;have g:=ks f.data.toList d.data.toList;unfold gS;rw[h,i,g];rcases dn a c with⟨e,_⟩|⟨e,_⟩|⟨e,_⟩<;>rw[e]
 ·simp[yM]
 ·rcases dn b nb with⟨e,_⟩|⟨e,_⟩|⟨e,_⟩<;>rw[e]<;>simp[yM]
 simp[yM]
theorem zz(a c:Int)(d:ByteArray)(f nb:Int)(b:ByteArray): -1<=gS a c d f nb b/\gS a c d f nb b<=1:=by
 have g:=gl d.data.toList b.data.toList;unfold gS;rcases dn a f with⟨e,_⟩|⟨e,_⟩|⟨e,_⟩<;>rw[e]
 ·simp[yM]
 ·rcases dn c nb with⟨e,_⟩|⟨e,_⟩|⟨e,_⟩<;>rw[e]<;>simp[yM]
  omega
 simp[yM]
theorem G5(d f:Int)(c:ByteArray)(g nb:Int)(b:ByteArray):gS d f c g nb b=0↔d=g/\f=nb/\c=b:=by
 have i:=iP c.data.toList b.data.toList;have j:c.data.toList=b.data.toList↔c=b:=⟨fun h=>by rw[<-iY c,<-iY b,h],fun h=>by rw[h]⟩;unfold gS;rcases dn d g with⟨e,h⟩|⟨e,h⟩|⟨e,h⟩<;>rw[e]
 ·rw[fA (by decide)];constructor
  ·intro a;omega
  rintro⟨a,_⟩;omega
 ·rcases dn f nb with⟨e,a⟩|⟨e,a⟩|⟨e,a⟩<;>rw[e]
  ·rw[eQ (by decide)];constructor
   ·intro a;omega
   rintro⟨_,a,_⟩;omega
  ·rw[kx,i,j];exact⟨fun x=>⟨h,a,x⟩,fun x=>x.2.2⟩
  rw[eQ (by decide)];constructor
  ·intro a;omega
  rintro⟨_,a,_⟩;omega
 rw[fA (by decide)];constructor
 ·intro a;omega
 rintro⟨a,_⟩;omega
theorem zA(d f:Int)(p:ByteArray)(j nb:Int)(o:ByteArray)(b nc:Int)(sc:ByteArray)(l:gS d f p j nb o<=0)(e:gS j nb o b nc sc<=0):gS d f p b nc sc<=0:=by
 have q:=ju p.data.toList o.data.toList sc.data.toList;unfold gS at*;rcases dn d j with⟨n,h⟩|⟨n,h⟩|⟨n,h⟩
 ·rcases dn j b with⟨a,i⟩|⟨a,i⟩|⟨a,i⟩
  ·rw[gj (show d<b by omega),fA (by decide)];omega
  ·rw[gj (show d<b by omega),fA (by decide)];omega
  rw[a,fA (by decide)]at e;omega
 ·rcases dn j b with⟨a,i⟩|⟨a,i⟩|⟨a,i⟩
  ·rw[gj (show d<b by omega),fA (by decide)];omega
  ·rw[show eu d b=0 from jR (by omega) (by omega)];rw[n]at l;rw[a]at e;rcases dn f nb with⟨m,g⟩|⟨m,g⟩|⟨m,g⟩
   ·rcases dn nb nc with⟨c,k⟩|⟨c,k⟩|⟨c,k⟩
    ·rw[gj (show f<nc by omega),eQ (by decide)];omega
    ·rw[gj (show f<nc by omega),eQ (by decide)];omega
    rw[c,eQ (by decide)]at e;omega
   ·rcases dn nb nc with⟨c,k⟩|⟨c,k⟩|⟨c,k⟩
    ·rw[gj (show f<nc by omega),eQ (by decide)];omega
    ·rw[show eu f nc=0 from jR (by omega) (by omega),kx];rw[m,kx]at l;rw[c,kx]at e;exact q l e
    rw[c,eQ (by decide)]at e;omega
   rw[m,eQ (by decide)]at l;omega
  rw[a,fA (by decide)]at e;omega
 rw[n,fA (by decide)]at l;omega
def gd(a b:V):Int:=gS a.t a.n a.s b.t b.n b.s
def aO:List V->List V->Int
 |[],[]=>0
 |[],_::_=> -1
 |_::_,[]=>1
 |a::l,b::m=>if gd a b=0 then aO l m else gd a b
theorem ui(l m:List V)(k:Nat)(a:k<l.length)(b:k<m.length):aO (l.drop k) (m.drop k)=if gd l[k] m[k]=0 then aO (l.drop (k+1)) (m.drop (k+1))else gd l[k] m[k]:=by
 rw[Md a,Md b,aO]
theorem qI(A B:Option Addr)(c d:Nat)(l m:List V)(w:World)(h:At w w.heap.size A (co l))(O:At w w.heap.size B (co m))(hl:l.length<=65536)(_hm:m.length<=65536):
  Calls Tryz.prog 123 #[.slice A l.length c,.slice B m.length d,.func (.func 124) #[] #[]] w fun e w'=>e=.returned (.int .i64 (aO l m))/\Below w.heap.size w w':=by
 have HA:=J h;have T:=J O;clear h O
 go_enter Tryz.func123,Tryz.ntmps123
 go_wp2
 go_loopw [13] (fun i wr=>∃k:Nat,k<=l.length/\k<=m.length/\i=.int .i64 k/\aO l m=aO (l.drop k) (m.drop k)/\Below w.heap.size w wr) (fun i _=>l.length-(intOf i).toNat)
 case atStart=>exact⟨0,Mx _,Mx _,Z,Z,Below.refl _ _⟩
 case round=>
  obtain⟨k,hk,Y,rfl,z,p⟩:=hrel;have C:=J z;have a:=J p;have H:=J (HA.out.below p);have I:=J (T.out.below p);clear z p;by_cases r:k<l.length
  ·obtain⟨b1,o1,rfl,a1,P,Q,N⟩:=H.out.val r;by_cases g:k<m.length
   ·obtain⟨K,G,rfl,a0,F,L,M⟩:=I.out.val g;have q:=a.out.size;have y:∀o:Obj,(wr.alloc o).cell? ⟨K,G+k*3,none⟩=some (.int .i64 m[k].t):=fun o=>(World.cell?_alloc_lt wr o _ (by simp;omega)).trans F
    have D:∀o:Obj,(wr.alloc o).cell? ⟨K,G+k*3+1,none⟩=some (.int .i64 m[k].n):=fun o=>(World.cell?_alloc_lt wr o _ (by simp;omega)).trans L
    have v:∀o:Obj,(wr.alloc o).cell? ⟨K,G+k*3+2,none⟩=some (.string m[k].s):=fun o=>(World.cell?_alloc_lt wr o _ (by simp;omega)).trans M
    have f:=J (ui l m k r g);obtain⟨x,E⟩:∃x,gd l[k] m[k]=x:=⟨_,rfl⟩;have f:Hid (aO (l.drop k) (m.drop k)=if x=0 then aO (l.drop (k+1)) (m.drop (k+1))else x):=by rw[<-E];exact f
    have R:Hid (∀W:World,Calls Tryz.prog 124 #[.agg #[.int .i64 l[k].t,.int .i64 l[k].n,.string l[k].s],.agg #[.int .i64 m[k].t,.int .i64 m[k].n,.string m[k].s]] W fun e w'=>e=.returned (.int .i64 x)/\Below W.heap.size W w'):=fun W=>by
     have:=qf l[k].t l[k].n l[k].s m[k].t m[k].n m[k].s W;rwa[show gS l[k].t l[k].n l[k].s m[k].t m[k].n m[k].s=x from E]at this
    clear E;by_cases j:x=0
    ·subst j
     go_wp2_with fail
     clear F L M y D v P Q N;refine(R.out _).mono ?_;rintro e U ⟨rfl,b⟩;have u:=J b;clear b
     go_wp2
     go_roundw
     case rel=>
      refine⟨k+1,by omega,by omega,by go_num,by rw[C.out,f.out];simp,?_⟩;exact(((a.out.alloc q _).alloc (by simp;omega) _).trans (u.out.mono (by simp;omega)))
     case measure=>simp[intOf];omega
    have X:(x !=0)=true:=by simpa using j
    have S:(x==0)=false:=by simpa using j
    go_wp2_with fail
    clear F L M y D v P Q N;refine(R.out _).mono ?_;rintro e U ⟨rfl,b⟩;have u:=J b;clear b
    go_wp2
    go_ret
    exact⟨by rw[C.out,f.out,if_neg j];rfl,(((a.out.alloc q _).alloc (by simp;omega) _).trans (u.out.mono (by simp;omega)))⟩
   have f:=J (show aO (l.drop k) (m.drop k)=1 by
    rw[Md r,Mg (l:=m) (by omega)];rfl)
   have q:=a.out.size
   go_wp2
   go_ret
   exact⟨by rw[C.out,f.out];rfl,a.out.alloc q _⟩
  by_cases g:k<m.length
  ·have f:=J (show aO (l.drop k) (m.drop k)= -1 by
    rw[Md g,Mg (l:=l) (by omega)];rfl)
   go_wp2
   go_ret
   exact⟨by rw[C.out,f.out];rfl,a.out⟩
  have f:=J (show aO (l.drop k) (m.drop k)=0 by
   rw[Mg (l:=l) (by omega),Mg (l:=m) (by omega)];rfl)
  go_wp2
  go_ret
  exact⟨by rw[C.out,f.out];rfl,a.out⟩
theorem zB(A B:Option Addr)(c d:Nat)(l m:List V)(w:World)(h:At w w.heap.size A (co l))(a:At w w.heap.size B (co m))(b:l.length<=65536)(g:m.length<=65536):
  Calls Tryz.prog 64 #[.slice A l.length c,.slice B m.length d] w fun e w'=>e=.returned (.int .i64 (aO l m))/\Below w.heap.size w w':=by
 have f:=J (qI A B c d l m w h a b g);clear h a
 go_enter Tryz.func64,Tryz.ntmps64
 go_wp2_with fail
 refine f.out.mono ?_;rintro e w' ⟨rfl,i⟩
 go_wp2
 go_ret
 exact⟨Z,i⟩
end Go.Proofs.YtfoejfohbkmmeaaGreatDoor
namespace Go.Proofs.YtfoejfohbkmmeaaGreatDoor
theorem mb(l:List Nat)(k:Nat)(a:k<=l.length):aB l=aB (l.take k)+4294967296^k*aB (l.drop k):=by
 have h:=eg (l.take k) (l.drop k);rw[M8,Mf,Nl a]at h;exact h
theorem jv(l:List Nat)(k:Nat)(a:k<l.length):aB (l.drop k)=l[k]+4294967296*aB (l.drop (k+1)):=by
 rw[Md a,aB]
theorem zC(l:List Nat)(k:Nat)(a:k<l.length):aB (l.take (k+1))=aB (l.take k)+4294967296^k*l[k]:=by
 rw[Mq a,eg,Mf,Nl (by omega)];simp[aB]
theorem Digs.take{l:List Nat}(h:Digs l)(k:Nat):Digs (l.take k):=fun d a=>h d (MC a)
theorem Digs.drop{l:List Nat}(h:Digs l)(k:Nat):Digs (l.drop k):=fun d a=>h d (M2 a)
theorem Digs.get{l:List Nat}(h:Digs l)(k:Nat)(a:k<l.length):l[k]<4294967296:=h _ (MY a)
theorem zD{X V P b c f d e a g r:Nat}(j:X=(a*4294967296+d)*P+e)(l:e<P)(n:V=(b*4294967296+c)*P+f)(k:a=g*b+r)(h:r*4294967296+d<g*c):X<g*V:=by
 have m:a*4294967296+d+1<=g*(b*4294967296+c):=by
  rw[k,MF,M3,<-Mu];omega
 have o:(a*4294967296+d+1)*P<=g*(b*4294967296+c)*P:=MJ _ m;have i:g*V=g*(b*4294967296+c)*P+g*f:=by rw[n,MF,Mu]
 rw[i,j];rw[M3 _ 1]at o;omega
theorem zE{X V P b c e d o a g r:Nat}(s:X=(a*4294967296+d)*P+o)(n:V=(b*4294967296+c)*P+e)(k:e<P)(m:0<b)(l:a=g*b+r)(h:g*c<=r*4294967296+d)(t:g<4294967296):g<=X/V+1:=by
 have j:g*(b*4294967296+c)<=a*4294967296+d:=by
  rw[l,MF,M3,<-Mu];omega
 have u:g*(b*4294967296+c)*P<=(a*4294967296+d)*P:=MJ _ j;have q:g*V=g*(b*4294967296+c)*P+g*e:=by rw[n,MF,Mu]
 have v:g*e<=4294967295*P:=NU (by omega) (by omega);have p:4294967296*P<=(b*4294967296+c)*P:=MJ _ (by omega);have f:0<V:=by omega
 have i:g*V<X+V:=by omega
 cases g with
 |zero=>exact Mx _
 |succ g=>
  rw[M3,Og]at i;have:g<=X/V:=(Qd f).2 (by omega);omega
structure Guess (us vs:List Nat) (n:Nat):Prop where
 n2:2<=n
 lu:us.length=n+1
 lv:vs.length=n
 du:Digs us
 dv:Digs vs
 top:∀h:n-1<vs.length,2147483648<=vs[n-1]
 lt:aB us<4294967296*aB vs
def EP(X V v1 top g r:Nat):Prop:=top=g*v1+r/\r<4294967296/\X/V<=g
theorem Guess.parts{us vs:List Nat}{n:Nat}(h:Guess us vs n)(r:n<us.length)(s:n-1<us.length)(w:n-2<us.length)(t:n-1<vs.length)(u:n-2<vs.length):
  aB us=((us[n]*4294967296+us[n-1])*4294967296+us[n-2])*4294967296^(n-2)+aB (us.take (n-2))/\aB (us.take (n-2))<4294967296^(n-2)/\
  aB vs=(vs[n-1]*4294967296+vs[n-2])*4294967296^(n-2)+aB (vs.take (n-2))/\aB (vs.take (n-2))<4294967296^(n-2):=by
 have q:=h.n2;have l:=h.lu;have f:=h.lv;have i:=mb us (n-2) (by omega);have x:=jv us (n-2) (by omega);have g:=jv us (n-2+1) (by omega);have a:=jv us (n-2+1+1) (by omega);have j:us.drop (n-2+1+1+1)=[]:=Mg (by omega);have p:=mb vs (n-2) (by omega);have v:=jv vs (n-2) (by omega);have c:=jv vs (n-2+1) (by omega);have m:vs.drop (n-2+1+1)=[]:=Mg (by omega);rw[j,aB]at a;rw[m,aB]at c;have k:us[n-2+1]'(by omega)=us[n-1]:=getElem_congr_idx (by omega);have o:us[n-2+1+1]'(by omega)=us[n]:=getElem_congr_idx (by omega);have e:vs[n-2+1]'(by omega)=vs[n-1]:=getElem_congr_idx (by omega);rw[o]at a;rw[k]at g;rw[e]at c;have d:=b4 (us.take (n-2)) (h.du.take _);have b:=b4 (vs.take (n-2)) (h.dv.take _);rw[Mf,Nl (by omega)]at d b;refine⟨?_,d,?_,b⟩
 ·rw[i,Mt (4294967296^(n-2)),NW];congr 2;omega
 rw[p,Mt (4294967296^(n-2)),NW];congr 2;omega
theorem Guess.first{us vs:List Nat}{n:Nat}(h:Guess us vs n)(e:n<us.length)(i:n-1<vs.length):us[n]<=vs[n-1]:=by
 have o:=h.n2;have k:=h.lu;have g:=h.lv;obtain⟨c,_,l,q⟩:=h.parts e (by omega) (by omega) i (by omega);have j:=h.lt;have f:=h.dv.get (n-2) (by omega);have d:0<4294967296^(n-2):=NN (by decide);generalize m:4294967296^(n-2)=P at*;generalize us[n]=u0 at*;generalize us[n-1]'(by omega)=u1 at*;generalize us[n-2]'(by omega)=u2 at*;generalize vs[n-1]'(by omega)=v1 at*;generalize vs[n-2]'(by omega)=v2 at*;rcases MI v1 u0 with a|a
 ·exfalso;have b:(v1*4294967296+v2+1)*P<=(u0*4294967296)*P:=MJ _ (by omega);have p:4294967296*((u0*4294967296)*P)<=aB us:=by
   rw[c,<-Mu];have:4294967296*(u0*4294967296)*P<=((u0*4294967296+u1)*4294967296+u2)*P:=MJ _ (by omega);omega
  rw[M3 _ 1,Og]at b;have:aB vs<(u0*4294967296)*P:=by omega
  omega
 exact a
theorem uj{u lo bo:Nat}(e:u<4294967296)(c:lo<4294967296)(d:bo<=1):∃b a:Nat,((u:Int)-lo-bo)%18446744073709551616%4294967296=(b:Int)/\((u:Int)-lo-bo)%18446744073709551616/9223372036854775808=(a:Int)/\b<4294967296/\a<=1/\b+lo+bo=u+a*4294967296:=by
 by_cases h:lo+bo<=u
 ·exact⟨u-lo-bo,0,by omega,by omega,by omega,by omega,by omega⟩
 exact⟨u+4294967296-lo-bo,1,by omega,by omega,by omega,by omega,by omega⟩
theorem CR{A V U c bo f d u b e a t lo P:Nat}(h:A+f*V=U+(c+bo)*P)(n:t=f*d+c)(j:t=lo+4294967296*e)(o:b+lo+bo=u+a*4294967296):
  (A+P*b)+f*(V+P*d)=(U+P*u)+(e+a)*(P*4294967296):=by
 have i:b+f*d+c+bo=u+(e+a)*4294967296:=by omega
 have k:P*(b+f*d+c+bo)=P*(u+(e+a)*4294967296):=by rw[i]
 have l:P*(b+f*d+c+bo)=P*b+P*(f*d)+(c+bo)*P:=by rw[show b+f*d+c+bo=b+f*d+(c+bo) by omega,MF,MF,Mt P (c+bo)]
 have m:P*(u+(e+a)*4294967296)=P*u+(e+a)*(P*4294967296):=by rw[MF,<-Mu,Mt P (e+a),Mu]
 have g:f*(V+P*d)=f*V+P*(f*d):=by rw[MF,NO]
 rw[g];omega
theorem CS{A V U c d u t P:Nat}(h:A+c*P=U+V)(a:t=u+d+c):(A+P*(t%4294967296))+t/4294967296*(P*4294967296)=(U+P*u)+(V+P*d):=by
 have e:P*(t%4294967296)+t/4294967296*(P*4294967296)=P*t:=by
  rw[<-Mu,Mt (t/4294967296) P,Mu,<-MF];congr 1;omega
 have b:P*t=P*u+P*d+c*P:=by rw[a,MF,MF,Mt c P]
 omega
theorem CT{X V g s:Nat}(a:0<V)(e:X/V<=g)(f:g<=X/V+1)(h:s+g*V=X):g=X/V/\s=X%V:=by
 have b:=Oe X V;have c:=Ni X a;have d:g<=X/V:=(Qd a).2 (by omega);obtain rfl:g=X/V:=by omega
 rw[Mt V]at b;exact⟨Z,by omega⟩
theorem CU{X V M g s t k:Nat}(c:0<V)(a:V<=M)(m:X/V<=g)(o:g<=X/V+1)(n:s<M)(h:s+g*V=X+M)(i:t<M)(f:t+k*M=s+V):g=X/V+1/\t=X%V:=by
 have l:=Oe X V;have j:=Ni X c;have b:X<g*V:=by omega
 have d:g≠X/V:=fun e=>by
  rw[e,Mt]at b;omega
 obtain rfl:g=X/V+1:=by omega
 rw[M3,Og,Mt _ V]at h;have e:t+k*M=X%V+M:=by omega
 refine⟨Z,?_⟩
 match k with
 |0=>omega
 |1=>omega
 |k+2=>
  exfalso;rw[M3]at e;omega
def shr(n:Nat):List Nat->List Nat
 |[]=>[]
 |d::l=>(d/2^n+l.headD 0%2^n*2^(32-n))::shr n l
theorem gn(n:Nat):∀l,(shr n l).length=l.length
 |[]=>rfl
 |d::l=>by simp[shr,gn n l]
theorem se{n:Nat}(h:n<32):2^n*2^(32-n)=4294967296:=by
 rw[<-N2,show n+(32-n)=32 by omega]
theorem CV{n:Nat}(h:n<32)(l:List Nat):aB l%2^n=l.headD 0%2^n:=by
 cases l with
 |nil=>simp[aB]
 |cons d l=>
  have e:=se h;simp only[aB,List.headD_cons];rw[<-e,Mu,O4]
theorem BM{n:Nat}(h:n<32):∀l,aB (shr n l)=aB l/2^n
 |[]=>by simp[shr,aB]
 |d::l=>by
  have a:0<2^n:=NN (by decide);have e:=se h;simp only[shr,aB];rw[BM h l,<-CV h l];generalize aB l=M;rw[<-e,show d+2^n*2^(32-n)*M=d+2^n*(2^(32-n)*M) by rw[Mu],Pz _ _ a];have b:=Oe M (2^n);have:2^(32-n)*M=M%2^n*2^(32-n)+2^n*2^(32-n)*(M/2^n):=by
   conv=>lhs;rw[<-b,MF]
   rw[NW,Mt (2^(32-n)) (M%2^n),Mt (2^n) (2^(32-n)),Mu]
  omega
theorem xp{n:Nat}(h:n<32):∀l,Digs l->Digs (shr n l)
 |[],_=>fun d g=>by simp[shr]at g
 |d::l,hl=>fun x a=>by
  have b:0<2^n:=NN (by decide);have e:=se h;rcases Mi.1 a with rfl|a
  ·have i:d<4294967296:=hl d (Mr ..);have j:d/2^n<2^(32-n):=by
    rw[Nz b,Mt,e];exact i
   have c:(l.headD 0%2^n+1)*2^(32-n)<=2^n*2^(32-n):=MJ _ (Ni _ b);rw[M3,Og,e]at c;omega
  exact xp h l (fun y f=>hl y (MB _ f)) x a
theorem vQ(n:Nat):∀(l:List Nat) (i:Nat) (h:i<l.length) (a:i<(shr n l).length),(shr n l)[i]=l[i]/2^n+(l.drop (i+1)).headD 0%2^n*2^(32-n)
 |d::l,0,_,_=>by simp[shr]
 |d::l,i+1,h,a=>by
  have:=vQ n l i (by simpa using h) (by rw[gn];simpa using h);simpa[shr]using this
theorem EQ{A N c d n P:Nat}(a:n<32)(h:A+c*P=2^n*N):(A+P*(d*2^n%4294967296+c))+d/2^(32-n)*(P*4294967296)=2^n*(N+P*d):=by
 have e:=se a;have f:0<2^n:=NN (by decide);have i:d*2^n/4294967296=d/2^(32-n):=by
  rw[<-e,Mt d,Nat.mul_div_mul_left _ _ f]
 have g:=Oe (d*2^n) 4294967296;rw[i]at g;have j:P*(d*2^n%4294967296+c)+d/2^(32-n)*(P*4294967296)=P*(d*2^n)+c*P:=by
  rw[MF,NO (d/2^(32-n)),Mt (d/2^(32-n)),Mt P c,Qs,<-MF];congr 2;omega
 have b:2^n*(N+P*d)=2^n*N+P*(d*2^n):=by
  rw[MF,NO,Mt (2^n) d]
 rw[b,<-h];omega
theorem CW{d n:Nat}(a:n<32)(b:d<4294967296):d/2^(32-n)<2^n:=by
 have e:=se a;rw[Nz (NN (by decide)),e];exact b
theorem G6{d n c:Nat}(a:n<32)(f:c<2^n):(d*2^n%4294967296)|||c=d*2^n%4294967296+c/\d*2^n%4294967296+c<4294967296:=by
 have e:=se a;have i:0<2^n:=NN (by decide);have g:d*2^n%4294967296=d%2^(32-n)*2^n:=by
  rw[<-e,Mt (2^n),Qe]
 rw[g];have b:d%2^(32-n)+1<=2^(32-n):=Ni _ (NN (by decide));have h:(d%2^(32-n)+1)*2^n<=2^(32-n)*2^n:=MJ _ b;rw[M3,Og,Mt (2^(32-n)),e]at h;refine⟨?_,by omega⟩;rw[<-Oj,NF f]
end Go.Proofs.YtfoejfohbkmmeaaGreatDoor
