import Derived.Test.YtfoejfohbkmmeaaGreatDoorB10
import Derived.Test.YtfoejfohbkmmeaaGreatDoorB00
import Derived.StillTailTactics
import Derived.Test.YtfoejfohbkmmeaaGreatDoorB02
import Derived.Laws.BitsAllLaws
import Derived.Laws.Bits64
import Derived.Test.YtfoejfohbkmmeaaGreatDoorB01
import Derived.Test.YtfoejfohbkmmeaaGreatDoorB03
import Derived.Test.YtfoejfohbkmmeaaGreatDoorB09
import Derived.Deep.RegionWith
import Derived.Deep.DrawnRows
import Derived.Test.YtfoejfohbkmmeaaGreatDoorB08
import Derived.Lib.SliceRun
import Derived.Test.YtfoejfohbkmmeaaGreatDoorB06
set_option maxRecDepth 100000
set_option maxHeartbeats 1000000
namespace Go.Proofs.YtfoejfohbkmmeaaGreatDoor
open Go.RowKit
open Lib renaming hid→J
theorem BC(n:Int)(w:World):
  Calls Tryz.prog 38 #[.int .i64 n] w fun e w'=>e=.returned (.agg #[.int .i64 1,.int .i64 n,.string ⟨#[]⟩])/\Below w.heap.size w w':=by
 go_enter Tryz.func38,Tryz.ntmps38
 go_wp2
 exact bodyPost_ret (v:=.agg #[.int .i64 1,.int .i64 n,.string ⟨#[]⟩]) (by simp[results,Tryz.results38,go_sem]) Z ⟨Z,(Below.refl _ _).alloc (Oh _) _⟩
theorem BD(s:ByteArray)(w:World):
  Calls Tryz.prog 37 #[.string s] w fun e w'=>e=.returned (.agg #[.int .i64 2,.int .i64 0,.string s])/\Below w.heap.size w w':=by
 go_enter Tryz.func37,Tryz.ntmps37
 go_wp2
 exact bodyPost_ret (v:=.agg #[.int .i64 2,.int .i64 0,.string s]) (by simp[results,Tryz.results37,go_sem]) Z ⟨Z,(Below.refl _ _).alloc (Oh _) _⟩
theorem xC(n:Int)(s:ByteArray)(w:World):
  Calls Tryz.prog 98 #[.agg #[.int .i64 1,.int .i64 n,.string s]] w fun e w'=>e=.returned (.bool (bJ 1 n s))/\Below w.heap.size w w':=by
 go_enter Tryz.func98,Tryz.ntmps98
 go_wp2
 go_ret
 exact⟨by simp[bJ,Lib.toList_data],(Below.refl _ _).alloc (Oh _) _⟩
theorem s7(t n:Int)(s:ByteArray)(w:World)(a:t≠1)(b:t≠2):
  Calls Tryz.prog 98 #[.agg #[.int .i64 t,.int .i64 n,.string s]] w fun e w'=>e=.returned (.bool (bJ t n s))/\Below w.heap.size w w':=by
 have c:=J (show bJ t n s=false by simp[bJ,a,b]);have d:(t==1)=false:=by simpa using a
 have f:(t==2)=false:=by simpa using b
 clear a b
 go_enter Tryz.func98,Tryz.ntmps98
 go_wp2
 go_ret
 exact⟨by rw[c.out];rfl,(Below.refl _ _).alloc (Oh _) _⟩
theorem xD(n:Int)(s:ByteArray)(w:World)(q:s.size<=9223372036854775807):
  Calls Tryz.prog 98 #[.agg #[.int .i64 2,.int .i64 n,.string s]] w fun e w'=>e=.returned (.bool (bJ 2 n s))/\Below w.heap.size w w':=by
 have d:=J (show bJ 2 n s=(decide (n=0)&&decide (s.size<=64)&&s.data.toList.all pj) by simp[bJ])
 go_enter Tryz.func98,Tryz.ntmps98
 go_wp2
 go_loop [3] (fun i=>∃k:Nat,k<=s.size/\(s.data.toList.take k).all pj=true/\i=.int .i64 k) (fun i=>s.size-(intOf i).toNat)
 case atStart=>exact⟨0,OA _,by simp,Z⟩
 case round=>
  obtain⟨k,o,a,rfl⟩:=hrel;have j:=J a;clear a;by_cases h:k<s.size
  ·have g:=J (oc s k h);by_cases l:32<=s[k].toNat
   ·by_cases m:s[k].toNat<=126
    ·have b:=J (show pj s[k]=true by simp[pj,l,m])
     go_wp2
     go_round
     case rel=>exact⟨k+1,by omega,by rw[g.out,j.out,b.out];rfl,by go_num⟩
     case measure=>simp[intOf];omega
    have b:=J (show s.data.toList.all pj=false from kr (k+1) (by rw[g.out];simp[pj,m]))
    go_wp2
    go_ret
    exact⟨by rw[d.out,b.out,RS];rfl,(Below.refl _ _).alloc (Oh _) _⟩
   have b:=J (show s.data.toList.all pj=false from kr (k+1) (by rw[g.out];simp[pj,l]))
   go_wp2
   go_ret
   exact⟨by rw[d.out,b.out,RS];rfl,(Below.refl _ _).alloc (Oh _) _⟩
  have b:=J (show s.data.toList.all pj=true by have:=j.out;rwa[Oy (by simp;omega)]at this);by_cases f:n=0
  ·subst f;have c:=J (show decide ((s.size:Int)<=64)=bJ 2 0 s by rw[d.out,b.out];simp;omega)
   go_wp2
   go_ret
   exact⟨by rw[<-c.out];rfl,(Below.refl _ _).alloc (Oh _) _⟩
  have c:=J (show bJ 2 n s=false by rw[d.out,b.out];simp[f]);have p:(n==0)=false:=by simpa using f
  clear f
  go_wp2
  go_ret
  exact⟨by rw[c.out];rfl,(Below.refl _ _).alloc (Oh _) _⟩
theorem xE(t n:Int)(s:ByteArray)(w:World)(c:s.size<=9223372036854775807):
  Calls Tryz.prog 98 #[.agg #[.int .i64 t,.int .i64 n,.string s]] w fun e w'=>e=.returned (.bool (bJ t n s))/\Below w.heap.size w w':=by
 by_cases b:t=1
 ·subst b;exact xC n s w
 by_cases a:t=2
 ·subst a;exact xD n s w c
 exact s7 t n s w b a
theorem yP:∀a b:List UInt8,Op.bytesLess a b=decide (Lib.compareBytes a b<0)
 |[],[]=>by simp[Op.bytesLess,Lib.compareBytes]
 |[],_::_=>by simp[Op.bytesLess,Lib.compareBytes]
 |_::_,[]=>by simp[Op.bytesLess,Lib.compareBytes]
 |x::a,y::b=>by
  have f:=yP a b;simp only[Op.bytesLess,Lib.compareBytes,Rj];by_cases c:x.toNat<y.toNat
  ·simp[c]
  by_cases d:y.toNat<x.toNat
  ·have:¬x=y:=fun e=>by subst e;omega
   simp[c,d,this]
  have:x=y:=Qu.1 (by omega);simp[this,f]
theorem JQ{a b:ByteArray}{o:Int}(h:Lib.compareBytes a.data.toList b.data.toList=o):Op.bytesLess a.toList b.toList=decide (o<0):=by
 rw[Lib.toList_data,Lib.toList_data,yP,h]
theorem JR{a b:ByteArray}{o:Int}(h:Lib.compareBytes a.data.toList b.data.toList=o):(a.toList==b.toList)=decide (o=0):=by
 rw[Lib.toList_data,Lib.toList_data,QQ];simp only[beq_iff_eq,decide_eq_true_eq];rw[<-jn,h]
theorem s8(c d:Int)(a:ByteArray)(g nb:Int)(b:ByteArray)(w:World):
  Calls Tryz.prog 161 #[.agg #[.int .i64 c,.int .i64 d,.string a],.agg #[.int .i64 g,.int .i64 nb,.string b]] w fun e w'=>e=.returned (.int .i64 (iN c d a g nb b))/\Below w.heap.size w w':=by
 rcases dX c g with⟨e,h⟩|⟨e,h⟩|⟨e,h⟩
 ·have f:=J (show iN c d a g nb b= -1 by rw[iN,e,fZ (by decide)]);have n:(c==g)=false:=by simp;omega
  have m:(c !=g)=true:=by simp;omega
  clear e
  go_enter Tryz.func161,Tryz.ntmps161
  go_wp2
  go_ret
  exact⟨by rw[f.out];rfl,((Below.refl _ _).alloc (Oh _) _).alloc (by simp) _⟩
 ·subst h;rcases dX d nb with⟨i,h⟩|⟨i,h⟩|⟨i,h⟩
  ·have f:=J (show iN c d a c nb b= -1 by rw[iN,e,i,fA (by decide)]);have n:(d==nb)=false:=by simp;omega
   have m:(d !=nb)=true:=by simp;omega
   clear e i
   go_enter Tryz.func161,Tryz.ntmps161
   go_wp2
   go_ret
   exact⟨by rw[f.out];rfl,((Below.refl _ _).alloc (Oh _) _).alloc (by simp) _⟩
  ·subst h;obtain⟨o,l⟩:∃o,Lib.compareBytes a.data.toList b.data.toList=o:=⟨_,rfl⟩;have f:=J (show iN c d a c d b=o by rw[iN,e,i,k8,l]);have p:=g9 a.data.toList b.data.toList;rw[l]at p;have k:=JQ l;have j:=JR l;clear e i l;rcases p with rfl|rfl|rfl
   ·replace k:Op.bytesLess a.toList b.toList=true:=k.trans (by decide);replace j:(a.toList==b.toList)=false:=j.trans (by decide)
    go_enter Tryz.func161,Tryz.ntmps161
    go_wp2
    go_ret
    exact⟨by rw[f.out];rfl,((Below.refl _ _).alloc (Oh _) _).alloc (by simp) _⟩
   ·replace k:Op.bytesLess a.toList b.toList=false:=k.trans (by decide);replace j:(a.toList==b.toList)=true:=j.trans (by decide)
    go_enter Tryz.func161,Tryz.ntmps161
    go_wp2
    go_ret
    exact⟨by rw[f.out];rfl,((Below.refl _ _).alloc (Oh _) _).alloc (by simp) _⟩
   replace k:Op.bytesLess a.toList b.toList=false:=k.trans (by decide);replace j:(a.toList==b.toList)=false:=j.trans (by decide)
   go_enter Tryz.func161,Tryz.ntmps161
   go_wp2
   go_ret
   exact⟨by rw[f.out];rfl,((Below.refl _ _).alloc (Oh _) _).alloc (by simp) _⟩
  have f:=J (show iN c d a c nb b=1 by rw[iN,e,i,fA (by decide)]);have n:(d==nb)=false:=by simp;omega
  have m:(d !=nb)=true:=by simp;omega
  clear e i
  go_enter Tryz.func161,Tryz.ntmps161
  go_wp2
  go_ret
  exact⟨by rw[f.out];rfl,((Below.refl _ _).alloc (Oh _) _).alloc (by simp) _⟩
 have f:=J (show iN c d a g nb b=1 by rw[iN,e,fZ (by decide)]);have n:(c==g)=false:=by simp;omega
 have m:(c !=g)=true:=by simp;omega
 clear e
 go_enter Tryz.func161,Tryz.ntmps161
 go_wp2
 go_ret
 exact⟨by rw[f.out];rfl,((Below.refl _ _).alloc (Oh _) _).alloc (by simp) _⟩
theorem u5(A B:Option Addr)(c d:Nat)(l m:List V)(w:World)(h:At w w.heap.size A (dV l))(K:At w w.heap.size B (dV m))(hl:l.length<=65536)(_hm:m.length<=65536):
  Calls Tryz.prog 93 #[.slice A l.length c,.slice B m.length d] w fun e w'=>e=.returned (.int .i64 (bg l m))/\Below w.heap.size w w':=by
 have U:=J h;have P:=J K;clear h K
 go_enter Tryz.func93,Tryz.ntmps93
 go_wp2
 go_loopw [5] (fun i wr=>∃k:Nat,k<=l.length/\k<=m.length/\i=.int .i64 k/\bg l m=bg (l.drop k) (m.drop k)/\Below w.heap.size w wr) (fun i _=>l.length-(intOf i).toNat)
 case atStart=>exact⟨0,OA _,OA _,Z,Z,Below.refl _ _⟩
 case round=>
  obtain⟨k,hk,R,rfl,u,g⟩:=hrel;have v:=J u;have a:=J g;have z:=J (U.out.below g);have D:=J (P.out.below g);have r:=a.out.size;clear u g;by_cases q:k<l.length
  ·by_cases j:k<m.length
   ·obtain⟨b1,o1,rfl,X,N,L,M⟩:=z.out.val q;obtain⟨b2,o2,rfl,S,H,I,E⟩:=D.out.val j;have f:=J (vA l m k q j);obtain⟨x,y⟩:∃x,gT l[k] m[k]=x:=⟨_,rfl⟩;have f:Hid (bg (l.drop k) (m.drop k)=if x=0 then bg (l.drop (k+1)) (m.drop (k+1))else x):=by rw[<-y];exact f
    have F:Hid (∀W:World,Calls Tryz.prog 161 #[.agg #[.int .i64 l[k].t,.int .i64 l[k].n,.string l[k].s],.agg #[.int .i64 m[k].t,.int .i64 m[k].n,.string m[k].s]] W fun e w'=>e=.returned (.int .i64 x)/\Below W.heap.size W w'):=fun W=>by
     have:=s8 l[k].t l[k].n l[k].s m[k].t m[k].n m[k].s W;rwa[show iN l[k].t l[k].n l[k].s m[k].t m[k].n m[k].s=x from y]at this
    clear y;have O:(0:Int)<=(k:Int):=by omega
    have Q:(k:Int)<(l.length:Int):=by omega
    have G:(k:Int)<(m.length:Int):=by omega
    by_cases o:x=0
    ·subst o
     go_wp2
     refine wp_region_still_tail 8 (by kernel_rfl) (by kernel_rfl) ?_;simp only[Qw,Ri,Qx,PQ];change wpStill _ _ wr.drew _ _ _;iterate 8 still_step
     refine wpStill_nil ?_;clear N L M H I E
     go_wp2_with fail
     refine(F.out _).mono ?_;rintro e C ⟨rfl,b⟩;have p:=J (show Below w.heap.size w C from a.out.drew.trans (b.mono (by simpa using r)));clear b
     go_wp2
     go_roundw
     case rel=>exact⟨k+1,by omega,by omega,by go_num,by rw[v.out,f.out];simp,p.out⟩
     case measure=>simp[intOf];omega
    have T:(x !=0)=true:=by simpa using o
    have Y:(x==0)=false:=by simpa using o
    go_wp2
    refine wp_region_still_tail 8 (by kernel_rfl) (by kernel_rfl) ?_;simp only[Qw,Ri,Qx,PQ];change wpStill _ _ wr.drew _ _ _;iterate 8 still_step
    refine wpStill_nil ?_;clear N L M H I E
    go_wp2_with fail
    refine(F.out _).mono ?_;rintro e C ⟨rfl,b⟩;have p:=J (show Below w.heap.size w C from a.out.drew.trans (b.mono (by simpa using r)));clear b
    go_wp2
    go_ret
    exact⟨by rw[v.out,f.out,if_neg o];rfl,p.out⟩
   have f:=J (show bg (l.drop k) (m.drop k)=1 by
    rw[Ow q,Ov (l:=m) (by omega)];rfl)
   go_wp2
   go_ret
   exact⟨by rw[v.out,f.out];rfl,a.out⟩
  by_cases j:k<m.length
  ·have f:=J (show bg (l.drop k) (m.drop k)= -1 by
    rw[Ow j,Ov (l:=l) (by omega)];rfl)
   go_wp2
   go_ret
   exact⟨by rw[v.out,f.out];rfl,a.out⟩
  have f:=J (show bg (l.drop k) (m.drop k)=0 by
   rw[Ov (l:=l) (by omega),Ov (l:=m) (by omega)];rfl)
  go_wp2
  go_ret
  exact⟨by rw[v.out,f.out];rfl,a.out⟩
def k9(n:Int):List UInt8:=(List.range 8).map fun k=>UInt8.ofNat (((n+9223372036854775808).toNat/2^(56-8*k))%256)
def V.enc(v:V):List UInt8:=if v.t=2 then 2::(v.s.data.toList++[0])else 1::k9 v.n
def V.ok(v:V):Bool:=bJ v.t v.n v.s
def d7(l:List V):List UInt8:=l.flatMap V.enc
theorem Du(a:Nat)(h:a<18446744073709551616):a^^^9223372036854775808=(a+9223372036854775808)%18446744073709551616:=by
 have b:(a^^^9223372036854775808)/2^63=(a/2^63)^^^(9223372036854775808/2^63):=Nat.xor_div_two_pow;have d:(a^^^9223372036854775808)%2^63=(a%2^63)^^^(9223372036854775808%2^63):=Nat.xor_mod_two_pow;have p:(2^63:Nat)=9223372036854775808:=by decide
 rw[p]at b d;have e:(9223372036854775808/9223372036854775808:Nat)=1:=by decide
 have f:(9223372036854775808%9223372036854775808:Nat)=0:=by decide
 rw[e]at b;rw[f,Nat.xor_zero]at d;have c:a/9223372036854775808=0\/a/9223372036854775808=1:=by omega
 rcases c with c|c<;>rw[c]at b
 ·have:(0^^^1:Nat)=1:=by decide
  rw[this]at b;omega
 have:(1^^^1:Nat)=0:=by decide
 rw[this]at b;omega
theorem vB(n:Int)(b: -9223372036854775808<=n)(a:n<=9223372036854775807):bits .xor .u64 (IntKind.u64.wrap n) 9223372036854775808=(((n+9223372036854775808).toNat:Nat):Int):=by
 rw[IntKind.wrap_u64];have e:n%18446744073709551616=((n%18446744073709551616).toNat:Int):=by omega
 have h:(n%18446744073709551616).toNat<18446744073709551616:=by omega
 rw[e];have:=u64_xor_nat (n%18446744073709551616).toNat 9223372036854775808 h (by decide);rw[show((9223372036854775808:Nat):Int)=9223372036854775808 from rfl]at this;rw[this,Du _ h];omega
theorem GK(N e:Nat):((N:Int)/2^e%256)=(((UInt8.ofNat (N/2^e%256)).toNat:Nat):Int):=by
 have p:((2:Int)^e)=((2^e:Nat):Int):=by simp
 rw[p,<-Sb];generalize N/2^e=M;have:(UInt8.ofNat (M%256)).toNat=M%256:=by simp[Qo]
 rw[this];omega
theorem vC(n:Int)(j:Nat)(b:j<8):(k9 n).take (j+1)=(k9 n).take j++[UInt8.ofNat ((n+9223372036854775808).toNat/2^(56-8*j)%256)]:=by
 have a:j<(k9 n).length:=by simp[k9];omega
 rw[OM a];simp[k9]
theorem ks(n:Int):(k9 n).length=8:=by simp[k9]
theorem GL(l:List V)(k:Nat)(h:k<l.length):d7 (l.take (k+1))=d7 (l.take k)++l[k].enc:=by
 rw[OM h,d7,RP];simp[d7]
theorem JS(l:List V)(k:Nat)(h:k<l.length):(l.take (k+1)).all V.ok=((l.take k).all V.ok&&l[k].ok):=by
 rw[OM h,Qd];simp
def JT(l:List V)(w:World)(e:Ending)(w':World):Prop:=
 ∃v,e=.returned v/\(l.all V.ok=true->OwnB w' w.heap.size v (d7 l))/\(l.all V.ok=false->v=.slice none 0 0)/\Below w.heap.size w w'
theorem GM(A:Option Addr)(cap:Nat)(l:List V)(w:World)(h:At w w.heap.size A (dV l))(hl:l.length<=65536)(hr:∀v∈l,-9223372036854775808<=v.n/\v.n<=9223372036854775807):
  Calls Tryz.prog 52 #[.slice A l.length cap] w (JT l w):=by
 have HRR:=J hr;clear hr
 go_enter Tryz.func52,Tryz.ntmps52
 go_wp2
 go_loopw [3,10] (fun b i wr=>∃k:Nat,k<=l.length/\i=.int .i64 k/\(l.take k).all V.ok=true/\OwnB wr w.heap.size b (d7 (l.take k))/\(d7 (l.take k)).length<=67*k/\Below w.heap.size w wr) (fun _ i _=>l.length-(intOf i).toNat)
 case atStart=>exact⟨0,OA _,Z,by simp,OwnB.nil _ _,by simp[d7],Below.refl _ _⟩
 case round=>
  obtain⟨k,hk,rfl,hall,hown,hlen,hbw⟩:=hrel;have HA:=J hall;have HO:=J hown;have HB:=J hbw;have HAt:=J (h.below hbw);clear hall hown hbw h;by_cases hlt:k<l.length
  ·obtain⟨b',off,rfl,hb',c0,c1,c2⟩:=HAt.out.val hlt;have HS:=J (GL l k hlt);have HK:=J (JS l k hlt);obtain⟨v,hv⟩:∃v,l[k]=v:=⟨_,rfl⟩;rw[hv]at c0 c1 c2;have HS:Hid (d7 (l.take (k+1))=d7 (l.take k)++v.enc):=by rw[<-hv];exact HS
   have HK:Hid ((l.take (k+1)).all V.ok=((l.take k).all V.ok&&v.ok)):=by rw[<-hv];exact HK
   have hrv: -9223372036854775808<=v.n/\v.n<=9223372036854775807:=HRR.out v (by rw[<-hv];exact Pm hlt);clear hv;obtain⟨t,n,s⟩:=v;obtain⟨hn0,hn1⟩:=hrv;simp only at hn0 hn1;obtain⟨W,hW,hb1,hg1,hz1⟩:=xe wr 77 #[.int .i64 t,.int .i64 n,.string s];have HW:=J hW;have HB1:=J hb1;have HG1:=J hg1;have HZ:=J hz1;clear hW hb1 hg1 hz1;cases hok:bJ t n s
   ·have hv:∀w:World,Calls Tryz.prog 104 #[.agg #[.int .i64 t,.int .i64 n,.string s]] w fun e w'=>e=.returned (.bool false)/\Below w.heap.size w w':=fun w=>by
     have:=fc t n s w;rwa[hok]at this
    have HV:=J hv;have HOK:=J hok;clear hv hok
    go_wp2_with fail
    rw[HW.out];refine(HV.out _).mono ?_;rintro e w1 ⟨rfl,hb2⟩;have HB2:=J hb2;clear hb2
    go_wp2
    go_ret
    refine⟨_,Z,fun hc=>?_,fun _=>rfl,aF (aF HB.out HB1.out HB.out.size) HB2.out (by rw[HZ.out];have:=HB.out.size;omega)⟩;have h1:(l.take (k+1)).all V.ok=true:=by
     rw[OD]at hc⊢;exact fun x hx=>hc x (OV hx)
    rw[HK.out,Oo]at h1;have h2:bJ t n s=true:=h1.2;rw[HOK.out]at h2;cases h2
   have hv:∀w:World,Calls Tryz.prog 104 #[.agg #[.int .i64 t,.int .i64 n,.string s]] w fun e w'=>e=.returned (.bool true)/\Below w.heap.size w w':=fun w=>by
    have:=fc t n s w;rwa[hok]at this
   have HV:=J hv;have HOK:=J hok;clear hv hok;by_cases ht:t=2
   ·subst ht
    go_wp2_with fail
    rw[HW.out];refine(HV.out _).mono ?_;rintro e w1 ⟨rfl,hb2⟩;have HB2:=J hb2;have HG2:=J (HG1.out.below hb2 HG1.out.lt);have HO2:=J ((HO.out.below HB1.out).below hb2);clear hb2;obtain⟨d0,d1,d2,_,_,_⟩:=HG2.out.three;have hwr:=HB.out.size;have hsz:w.heap.size<=w1.heap.size:=by have h1:=HB1.out.size;have h2:=HB2.out.size;omega
    have HF:=J (sJ HO.out (Oh _));have hs64:s.size<=64:=by have:=HOK.out;simp[bJ]at this;omega
    have henc:V.enc ⟨2,n,s⟩=2::(s.data.toList++[0]):=by simp[V.enc]
    have HEN:=J henc;clear henc
    go_wp2_with (first
     |(at_builtin;refine oU w.heap.size u3 _ 2 2 (.tmp 17) (.tmp 21) rfl rfl rfl rfl HO2.out rfl (by omega) hsz ?_;intro v3 w3 hown3 hgr3;have HO3:=J hown3;have HR3:=J hgr3;have HG3:=J (hgr3.blk HG2.out HF.out);have HF3:=J (hgr3.far _ HG2.out.lt HF.out);have hsz3:=Oq hsz hgr3.size;clear d0 d1 d2 hown3 hgr3;obtain⟨d0,d1,d2,_,_,_⟩:=HG3.out.three)
     |(at_builtin;refine JA w.heap.size v3 _ s (.tmp 26) (.tmp 28) rfl rfl rfl rfl HO3.out ?hlen hsz3 ?_;rotate_left;intro v4 w4 hown4 hgr4;have HO4:=J hown4;have HR4:=J hgr4;have hsz4:=Oq hsz3 hgr4.size;clear d0 d1 d2 hown4 hgr4)
     |(at_builtin;refine oU w.heap.size v4 _ 0 0 (.tmp 30) (.tmp 31) rfl rfl rfl rfl HO4.out rfl ?hlen2 hsz4 ?_;rotate_left;intro v5 w5 hown5 hgr5;have HO5:=J hown5;have HR5:=J hgr5;clear hown5 hgr5))
    case hlen=>simp;omega
    case hlen2=>simp;omega
    go_roundw
    case rel=>
     refine⟨k+1,by omega,by go_num,by rw[HK.out,HA.out];exact HOK.out,?_,?_,?_⟩
     ·have e:d7 (l.take (k+1))=d7 (l.take k)++[2]++s.data.toList++[0]:=by rw[HS.out,HEN.out];simp
      rw[e];exact HO5.out
     ·rw[HS.out,HEN.out];simp;omega
     exact(((aF (aF HB.out HB1.out hwr) HB2.out (by rw[HZ.out];omega)).trans HR3.out.below).trans HR4.out.below).trans HR5.out.below
    case measure=>simp[intOf];omega
   have ht1:t=1:=by
    have:=HOK.out;by_cases h1:t=1
    ·exact h1
    simp[bJ,h1]at this;exact absurd this.1.1.1 ht
   subst ht1;clear ht
   go_wp2_with fail
   rw[HW.out];refine(HV.out _).mono ?_;rintro e w1 ⟨rfl,hb2⟩;have HB2:=J hb2;have HG2:=J (HG1.out.below hb2 HG1.out.lt);have HO2:=J ((HO.out.below HB1.out).below hb2);clear hb2;obtain⟨d0,d1,d2,_,_,_⟩:=HG2.out.three;have hwr:=HB.out.size;have hsz:w.heap.size<=w1.heap.size:=by have h1:=HB1.out.size;have h2:=HB2.out.size;omega
   have HF:=J (sJ HO.out (Oh _))
   go_wp2_with (at_builtin;refine oU w.heap.size u3 _ 1 1 (.tmp 17) (.tmp 21) rfl rfl rfl rfl HO2.out rfl (by omega) hsz ?_;intro v3 w3 hown3 hgr3;have HO3:=J hown3;have HR3:=J hgr3;have HG3:=J (hgr3.blk HG2.out HF.out);have HF3:=J (hgr3.far _ HG2.out.lt HF.out);have hsz3:=Oq hsz hgr3.size;clear d0 d1 d2 hown3 hgr3;obtain⟨d0,d1,d2,_,_,_⟩:=HG3.out.three)
   rw[vB n hn0 hn1];have HEN:=J (show V.enc ⟨1,n,s⟩=1::k9 n by simp[V.enc]);have HES:=J (vC n);have HBB:=J ((aF (aF HB.out HB1.out hwr) HB2.out (by rw[HZ.out];omega)).trans HR3.out.below);have hEL:=ks n;have hEL8:(k9 n).length<=8:=by omega
   clear hEL d0 d1 d2;generalize (n+9223372036854775808).toNat=N at HES⊢;obtain⟨wo,hwo⟩:∃wo:World,wo=wr:=⟨_,rfl⟩;subst hwo
   go_loopw [3,7] (fun b i w'=>∃j:Nat,j<=8/\i=.int .i64 (56-8*(j:Int))/\OwnB w' w.heap.size b (d7 (l.take k)++[1]++(k9 n).take j)/\w.heap.size<=w'.heap.size/\Below w.heap.size w w') (fun _ i _=>(intOf i+8).toNat)
   case atStart=>exact⟨0,by omega,by simp,by simpa using HO3.out,hsz3,HBB.out⟩
   case round=>
    obtain⟨j,hj,rfl,hown4,hsz4,hb4⟩:=hrel;have HO4:=J hown4;have HB4:=J hb4;clear hown4 hb4;by_cases hj8:j<8
    ·have htl:((k9 n).take j).length<=8:=by rw[Ox];omega
     have HEB:=J (GK N (56-8*j))
     go_wp2_with (at_builtin;refine oU w.heap.size _ _ _ (UInt8.ofNat (N/2^(56-8*j)%256)) (.tmp 41) (.tmp 46) rfl rfl rfl rfl HO4.out HEB.out ?hlen3 hsz4 ?_;rotate_left;intro v5 w5 hown5 hgr5;have HO5:=J hown5;have HB5:=J hgr5.below;have hsz5:=Oq hsz4 hgr5.size;clear hown5 hgr5)
     case hlen3=>simp at htl⊢;omega
     go_roundw
     case rel=>
      refine⟨j+1,by omega,by go_num,?_,hsz5,HB4.out.trans HB5.out⟩;rw[HES.out j hj8,<-O0];exact HO5.out
     case measure=>simp[intOf];omega
    obtain rfl:j=8:=by omega
    go_wp2
    go_roundw
    case rel=>
     refine⟨k+1,by omega,by go_num,by rw[HK.out,HA.out];exact HOK.out,?_,?_,HB4.out⟩
     ·have e:d7 (l.take (k+1))=d7 (l.take k)++[1]++(k9 n).take 8:=by
       rw[HS.out,HEN.out,Oy hEL8];simp
      rw[e];exact HO4.out
     rw[HS.out,HEN.out];simp;omega
    case measure=>simp[intOf];omega
  have HL:=J (show l.all V.ok=true by have:=HA.out;rwa[Oy (by omega)]at this)
  go_wp2
  go_ret
  refine⟨_,Z,fun _=>?_,fun hc=>?_,HB.out⟩
  ·have:=HO.out;rwa[Oy (by omega)]at this
  rw[HL.out]at hc;cases hc
attribute [local go_sem ↓] Go.wp_at_zero Go.wp_at_succ
structure KS (w:World) (g:Nat) (W:World):Prop where
 blk:IsBlk W g 77 #[.int .i64 2,.int .i64 0,.string ⟨#[105,116,39,115]⟩]
 env:Env W
 below:Below w.heap.size w W
theorem s9{t n:Int}{s:ByteArray}{b:Bool}(h:bJ t n s=b)(w:World):
  Calls Tryz.prog 104 #[.agg #[.int .i64 t,.int .i64 n,.string s]] w fun e w'=>e=.returned (.bool b)/\Below w.heap.size w w':=by subst h;exact fc t n s w
theorem yQ{l:List V}(h:l.all V.ok=true):(d7 l).length<=66*l.length:=by
 induction l with
 |nil=>simp[d7]
 |cons v l ih=>
  simp only[PS,Oo]at h;have:=ih h.2;have a:v.enc.length<=66:=by
   unfold V.enc;split
   ·rename_i ht;have b:v.s.size<=64:=by
     have:=h.1;simp only[V.ok,bJ,ht]at this;simp at this;exact this.1.2
    simp;omega
   simp[ks]
  simp only[d7,PZ,Oj,Oi]at this⊢;omega
def JU(w:World)(e:Ending)(w':World):Prop:=e=.returned (.bool true)/\Below w.heap.size w w'
def d8:List UInt8->Nat
 |[]=>0
 |c::l=>c.toNat*256^l.length+d8 l
theorem lc:∀(l:List UInt8) (c:UInt8),d8 (l++[c])=d8 l*256+c.toNat
 |[],c=>by simp[d8]
 |d::l,c=>by
  have:=lc l c;simp only[PD,d8,this,Oj,Oi,Ou,Pk,OO,Pf,OL];omega
theorem lV:∀l:List UInt8,d8 l<256^l.length
 |[]=>by simp[d8]
 |c::l=>by
  have h:=lV l;have a:c.toNat+1<=256:=c.toNat_lt;have:=OT (256^l.length) a;simp only[d8,Oi,OO];rw[Pf]at this;omega
theorem BE(n:Int):k9 n=[UInt8.ofNat ((n+9223372036854775808).toNat/72057594037927936%256),UInt8.ofNat ((n+9223372036854775808).toNat/281474976710656%256),UInt8.ofNat ((n+9223372036854775808).toNat/1099511627776%256),UInt8.ofNat ((n+9223372036854775808).toNat/4294967296%256),
  UInt8.ofNat ((n+9223372036854775808).toNat/16777216%256),UInt8.ofNat ((n+9223372036854775808).toNat/65536%256),UInt8.ofNat ((n+9223372036854775808).toNat/256%256),UInt8.ofNat ((n+9223372036854775808).toNat/1%256)]:=by
 unfold k9;simp[List.range_succ]
theorem GN(m:Nat):(UInt8.ofNat (m%256)).toNat=m%256:=by simp[Qo]
theorem Ey(n:Int)(d: -9223372036854775808<=n)(a:n<=9223372036854775807):d8 (k9 n)=(n+9223372036854775808).toNat:=by
 rw[BE];generalize c:(n+9223372036854775808).toNat=N;have b:N<18446744073709551616:=by omega
 simp only[d8,GN,Oi,Ou];clear c d a;simp only[Pk,Nat.reduceAdd,Nat.reducePow];omega
def jd:List UInt8->Nat
 |[]=>0
 |c::l=>if c=0 then 0 else jd l+1
theorem xF:∀l,jd l<=l.length
 |[]=>by simp[jd]
 |c::l=>by
  have:=xF l;simp only[jd,Oi];split<;>omega
def jV:List UInt8->Option (V×Nat)
 |[]=>none
 |c::l=>
  if c=1 then(if 8<=l.length then some (⟨1,(d8 (l.take 8):Int)-9223372036854775808,⟨#[]⟩⟩,9)else none)
  else if c=2 then(if jd l<l.length then some (⟨2,0,⟨(l.take (jd l)).toArray⟩⟩,jd l+2)else none)
  else none
def u6:Nat->List UInt8->Option (List V)
 |0,_=>some []
 |_+1,[]=>some []
 |n+1,c::l=>
  match jV (c::l)with
  |none=>none
  |some (v,k)=>if v.ok=true then(u6 n ((c::l).drop k)).map (v:: ·)else none
def jW(b:List UInt8):Option (List V):=u6 b.length b
theorem m7{b:List UInt8}{v:V}{k:Nat}(h:jV b=some (v,k)):1<=k/\k<=b.length:=by
 cases b with
 |nil=>simp[jV]at h
 |cons c l=>
  simp only[jV]at h;split at h
  ·split at h
   ·simp only[OI,Qy]at h;simp only[Oi];omega
   cases h
  split at h
  ·split at h
   ·simp only[OI,Qy]at h;simp only[Oi];omega
   cases h
  cases h
theorem rp:∀(n m:Nat) (b:List UInt8),b.length<=n->b.length<=m->u6 n b=u6 m b
 |0,m,b,hn,_=>by
  have:b=[]:=OB (by omega);subst this;cases m<;>rfl
 |n+1,0,b,_,hm=>by
  have:b=[]:=OB (by omega);subst this;rfl
 |n+1,m+1,b,hn,hm=>by
  cases b with
  |nil=>rfl
  |cons c l=>
   simp only[u6];cases d:jV (c::l)with
   |none=>rfl
   |some p=>
    obtain⟨v,k⟩:=p;have a:=m7 d;simp only[Oi]at hn hm a;dsimp only;rw[rp n m ((c::l).drop k) (by simp only[OP,Oi];omega) (by simp only[OP,Oi];omega)]
theorem te:jW []=some []:=rfl
theorem qN{b:List UInt8}(e:b≠ []):jW b=match jV b with
  |none=>none
  |some (v,k)=>if v.ok=true then(jW (b.drop k)).map (v:: ·)else none:=by
 cases b with
 |nil=>exact absurd Z e
 |cons c l=>
  unfold jW;simp only[Oi,u6];cases d:jV (c::l)with
  |none=>rfl
  |some p=>
   obtain⟨v,k⟩:=p;have a:=m7 d;dsimp only;simp only[Oi]at a;rw[rp l.length ((c::l).drop k).length ((c::l).drop k) (by simp only[OP,Oi];omega) (Oh _)]
theorem yR:∀(s x:List UInt8),s.all pj=true->jd (s++0::x)=s.length
 |[],x,_=>by simp[jd]
 |c::s,x,h=>by
  simp only[PS,Oo]at h;have a:c≠0:=by
   have:=h.1;simp only[pj,decide_eq_true_eq]at this;intro e;subst e;simp at this
  have:=yR s x h.2;simp only[PD,jd,if_neg a,this,Oi]
theorem LO{v:V}(h:v.ok=true)(a:v.t=2):v.n=0/\v.s.size<=64/\v.s.data.toList.all pj=true:=by
 simp only[V.ok,bJ,a]at h;simp at h;exact⟨h.1.1,h.1.2,by simpa using h.2⟩
theorem LP{v:V}(h:v.ok=true)(a:v.t≠2):v.t=1/\v.s=⟨#[]⟩:=by
 simp only[V.ok,bJ]at h;split at h
 ·rename_i h1;refine⟨h1,?_⟩;have:v.s.data.toList=[]:=by simpa using h
  rw[<-lT v.s,this]
 simp[a]at h
theorem GO{v:V}(h:v.ok=true)(b: -9223372036854775808<=v.n/\v.n<=9223372036854775807)(x:List UInt8):jV (v.enc++x)=some (v,v.enc.length):=by
 obtain⟨t,n,s⟩:=v;by_cases c:t=2
 ·subst c;obtain⟨g,k,d⟩:=LO h rfl;simp only at g k d;subst g;have i:=yR s.data.toList x d;have l:s.data.toList++[0]++x=s.data.toList++0::x:=by simp
  simp only[V.enc,if_true,PD,jV,l,i];rw[if_neg (by decide),if_pos (by simp)];simp
 obtain⟨e,f⟩:=LP h c;simp only at e f;subst e f;have a:=ks n;have j:(k9 n++x).take 8=k9 n:=by rw[<-a,List.take_left]
 simp only[V.enc,if_neg c,PD,jV,if_true];rw[if_pos (by simp[a]),j,Ey n b.1 b.2];simp only[Oi,a,OI,Qy,V.mk.injEq,true_and,and_true];have:=b.1;simp only at this;omega
theorem BF(v:V):v.enc≠ []:=by unfold V.enc;split<;>simp
theorem yS:∀(p:List V),p.all V.ok=true->(∀v∈p,-9223372036854775808<=v.n/\v.n<=9223372036854775807)->jW (d7 p)=some p
 |[],_,_=>rfl
 |v::p,h,hr=>by
  simp only[PS,Oo]at h;have e:d7 (v::p)=v.enc++d7 p:=by simp[d7]
  have b:=yS p h.2 (fun u a=>hr u (OX _ a));rw[e,qN (by simp[BF]),GO h.1 (hr v (OR ..))];simp only[h.1,if_true,List.drop_left,b,PG]
section
variable {w0:World} {G0:Bse} {S:St} {o:Oper}
theorem vD{t e:TypeId}{m f g:Nat}{x:Operand}{n:TypeId}{es:List Tree}(d:o.op=.binOp .eql t x (.const (.slice none f g)) n)(p:gS Tryz.prog t=some (e,m))(i:S.ev x=.sl es):NT o S (fun r=>∃b:Bool,(b=true->es=[])/\r=bT b):=by
 intro w0 G0 bx rv w T z s;obtain⟨q,_⟩:=kf p;obtain⟨A,c,j,_,_,y,u⟩:=(bH s i (by rw[d];simp[Op.operands])).isSl.slice;refine aB (v:=.bool A.isNone) (W':=w) ?_ ⟨_,⟨A.isNone,fun h=>?_,Z⟩,.pure (.sc _ .nil) .nil,Below.refl _ _⟩
 ·simp only[execOp,d,j];rw[Sem.run_bind];have:=Lib.run_eql_slice_nil (P:=Tryz.prog) w t e A es.length c f g q;simp only[dm,eqGuard];simp[this]
 cases A with
 |none=>
  cases es with
  |nil=>rfl
  |cons a l=>
   obtain⟨b,off,xs,k,_⟩:=u (by simp);cases k
 |some a=>cases h
theorem Ez{t e:TypeId}{sz by_:Nat}(ho:o.op=.buildSlice t 0 #[])(hd:cC S.n o.dst=true)(ht:jP Tryz.prog t=some (e,sz,by_)):lL w0 G0 o S ({S with rs:=S.rs++[some (⟨e,sz,[],true⟩:Row)]}.put o.dst (.own S.rs.length)):=by
 rintro a w ⟨bx,rv,hmm,hsz,hdf,hsl⟩;obtain⟨hu,⟨i,z,hi,hz',hsi,hbi,hzs,hzd⟩,hpos⟩:=o7 ht;have hown:=World.ownsRow_lit (base:=w.heap.size) (e:=e) (size:=sz) w #[] 0 (Oh _) (by simp only[maxLen];omega) (by simp);have hb:Below w.heap.size w (w.alloc (.cells #[] e)):=(Below.refl _ _).alloc (Oh _) _;have hnd:∀g,(Value.slice (some ⟨w.heap.size,0,none⟩) 0 0).ownBlock=some g->NoDigB (w.alloc (.cells #[] e)) g:=fun g hg=>by
  injection hg with hg
  subst hg;exact cD (heap_alloc_new w _) Z
 obtain⟨m1,m2⟩:=hmm.addRow (R:=⟨e,sz,[],true⟩) (v:=.slice (some ⟨w.heap.size,0,none⟩) 0 0) hb (by simpa using hown) .nil ⟨fun x hx=>(by cases hx),fun _ A n c e=>(by cases e;rfl)⟩ hnd;refine aB (v:=.slice (some ⟨w.heap.size,0,none⟩) 0 0) (W':=w.alloc (.cells #[] e)) ?_ (lR hsz hdf hd hmm.nr m1 ⟨_,_,_,Z⟩ (fun i=>m2 [_] [_] (hsl i)) Z);have hs':(sizeOf e).run Tryz.prog w=.ok i.size w:=by simp[sizeOf,typeInfo,hi]
 have hrun:(Instr.buildSlice t 0 #[]).run Tryz.prog w=.ok (.slice (some ⟨w.heap.size,0,none⟩) 0 0) (w.alloc (.cells #[] e)):=by
  simp[Instr.buildSlice,run_underlying hu,hs',Instr.fill,newRow,newObj];rw[show(Array.map (fun _=>(default:Value)) (Array.range 0))=#[]from by simp];rfl
 simp[execOp,ho,hrun]
end
theorem lW{w0:World}{G0:Bse}{o:Oper}{ops:Array Oper}{a:List Oper}{Q:Exit->St->Prop}{n d k:Nat}{sl:List (Nat×Tree)}{bs:List (TypeId×List Tree)}{rs rs':List (Option Row)}{t e:TypeId}{sz b:Nat}(g:o.op=.buildSlice t 0 #[])(h:o.guard=none)(f:o.dst=some d)(l:Nat.blt d n=true)(j:jP Tryz.prog t=some (e,sz,b))(i:rs.length=k)(c:rs++[some ⟨e,sz,[],true⟩]=rs')(K:AOps w0 G0 ops a Q ⟨n,(d,.own k)::sl,bs,rs'⟩):AOps w0 G0 ops (o::a) Q ⟨n,sl,bs,rs⟩:=by
 subst i c;refine dF h (Ez (S:=⟨n,sl,bs,rs⟩) g (by rw[f];simpa[cC,Pn]using l) j) ?_;rw[f];exact K
def Jr(f:FuncId):Value:=dm (fun _=>undef) (.func f)
section
variable {S:St} {o:Oper}
theorem yT{f:FuncId}{s:Nat}{xs:Array Operand}{h:Array TypeId}{ts:List Tree}{r:Tree}(b:o.op=.call {callee:=.value (.tmp s),args:=xs,argTypes:=h})(C:S.ev (.tmp s)=.sc (Jr f))(g:Ct f ts r)(p:xs.toList.map S.ev=ts)(A:ts.all Tree.plain=true):OpOK o S r:=by
 intro w0 G0 bx rv w T k j;have i:=kg (S:=S) j xs.toList (fun x n=>by rw[b];simp only[Op.operands,Call.operands];simp;exact .inr (by simpa using n));rw[p]at i;have c:=(bH j C (by rw[b];simp[Op.operands,Call.operands])).isSc;have a:T s=Jr f:=c;unfold Jr dm at a;obtain⟨⟨m,B,y,l⟩,g⟩:=g;have d:=g (GG G0 bx rv S.rs) w _ k.env k.ok (i.plains A);refine cP (f:=f) (args:=(xs.toList.map (dm T)).toArray) ?_ (d.mono ?_)
 ·have q:¬m.name= "runtime.NumGoroutine" :=by simpa using y
  have u:¬m.body=none:=fun e=>by rw[e]at l;cases l
  have z:(xs.toList.map (dm T)).toArray=xs.map (dm T):=Q6 (by simp);rw[z];simp[execOp,b,resolve,a,dm,Deferred.ofValue,invoke,callFunc,B,q,u]
 rintro e w' ⟨v,rfl,c,t⟩;exact⟨v,Z,.pure c .nil,t⟩
end
end Go.Proofs.YtfoejfohbkmmeaaGreatDoor
