import Derived.Test.YtfoejfohbkmmeaaGreatDoorU18
import Derived.Test.YtfoejfohbkmmeaaGreatDoorU24
import Derived.Test.YtfoejfohbkmmeaaGreatDoorU00
import Derived.StillTailTactics
import Derived.Test.YtfoejfohbkmmeaaGreatDoorU30
import Derived.Test.YtfoejfohbkmmeaaGreatDoorU25
import Derived.Test.YtfoejfohbkmmeaaGreatDoorU08
import Derived.Test.YtfoejfohbkmmeaaGreatDoorU11
set_option maxRecDepth 100000
set_option maxHeartbeats 4000000
namespace Go.Proofs.YtfoejfohbkmmeaaGreatDoor
open Go.RowKit
open Lib renaming hid→J
theorem Aj(n:Int)(w:World):
  Calls Tryz.prog 38 #[.int .i64 n] w fun e w'=>e=.returned (.agg #[.int .i64 1,.int .i64 n,.string ⟨#[]⟩])/\Below w.heap.size w w':=by
 go_enter Tryz.func38,Tryz.ntmps38
 go_wp2
 exact bodyPost_ret (v:=.agg #[.int .i64 1,.int .i64 n,.string ⟨#[]⟩]) (by simp[results,Tryz.results38,go_sem]) Z ⟨Z,(Below.refl _ _).alloc (L5 _) _⟩
theorem Ak(s:ByteArray)(w:World):
  Calls Tryz.prog 37 #[.string s] w fun e w'=>e=.returned (.agg #[.int .i64 2,.int .i64 0,.string s])/\Below w.heap.size w w':=by
 go_enter Tryz.func37,Tryz.ntmps37
 go_wp2
 exact bodyPost_ret (v:=.agg #[.int .i64 2,.int .i64 0,.string s]) (by simp[results,Tryz.results37,go_sem]) Z ⟨Z,(Below.refl _ _).alloc (L5 _) _⟩
theorem v8(n:Int)(s:ByteArray)(w:World):
  Calls Tryz.prog 98 #[.agg #[.int .i64 1,.int .i64 n,.string s]] w fun e w'=>e=.returned (.bool (be 1 n s))/\Below w.heap.size w w':=by
 go_enter Tryz.func98,Tryz.ntmps98
 go_wp2
 go_ret
 exact⟨by simp[be,Lib.toList_data],(Below.refl _ _).alloc (L5 _) _⟩
theorem sR(t n:Int)(s:ByteArray)(w:World)(a:t≠1)(b:t≠2):
  Calls Tryz.prog 98 #[.agg #[.int .i64 t,.int .i64 n,.string s]] w fun e w'=>e=.returned (.bool (be t n s))/\Below w.heap.size w w':=by
 have c:=J (show be t n s=false by simp[be,a,b]);have f:(t==1)=false:=by simpa using a
 have d:(t==2)=false:=by simpa using b
 clear a b
 go_enter Tryz.func98,Tryz.ntmps98
 go_wp2
 go_ret
 exact⟨by rw[c.out];rfl,(Below.refl _ _).alloc (L5 _) _⟩
theorem wd(n:Int)(s:ByteArray)(w:World)(q:s.size<=9223372036854775807):
  Calls Tryz.prog 98 #[.agg #[.int .i64 2,.int .i64 n,.string s]] w fun e w'=>e=.returned (.bool (be 2 n s))/\Below w.heap.size w w':=by
 have f:=J (show be 2 n s=(decide (n=0)&&decide (s.size<=64)&&s.data.toList.all pj) by simp[be])
 go_enter Tryz.func98,Tryz.ntmps98
 go_wp2
 go_loop [3] (fun i=>∃k:Nat,k<=s.size/\(s.data.toList.take k).all pj=true/\i=.int .i64 k) (fun i=>s.size-(intOf i).toNat)
 case atStart=>exact⟨0,Mx _,by simp,Z⟩
 case round=>
  obtain⟨k,o,b,rfl⟩:=hrel;have j:=J b;clear b;by_cases h:k<s.size
  ·have g:=J (ni s k h);by_cases l:32<=s[k].toNat
   ·by_cases m:s[k].toNat<=126
    ·have a:=J (show pj s[k]=true by simp[pj,l,m])
     go_wp2
     go_round
     case rel=>exact⟨k+1,by omega,by rw[g.out,j.out,a.out];rfl,by go_num⟩
     case measure=>simp[intOf];omega
    have a:=J (show s.data.toList.all pj=false from jW (k+1) (by rw[g.out];simp[pj,m]))
    go_wp2
    go_ret
    exact⟨by rw[f.out,a.out,PE];rfl,(Below.refl _ _).alloc (L5 _) _⟩
   have a:=J (show s.data.toList.all pj=false from jW (k+1) (by rw[g.out];simp[pj,l]))
   go_wp2
   go_ret
   exact⟨by rw[f.out,a.out,PE];rfl,(Below.refl _ _).alloc (L5 _) _⟩
  have a:=J (show s.data.toList.all pj=true by have:=j.out;rwa[Me (by simp;omega)]at this);by_cases d:n=0
  ·subst d;have c:=J (show decide ((s.size:Int)<=64)=be 2 0 s by rw[f.out,a.out];simp;omega)
   go_wp2
   go_ret
   exact⟨by rw[<-c.out];rfl,(Below.refl _ _).alloc (L5 _) _⟩
  have c:=J (show be 2 n s=false by rw[f.out,a.out];simp[d]);have p:(n==0)=false:=by simpa using d
  clear d
  go_wp2
  go_ret
  exact⟨by rw[c.out];rfl,(Below.refl _ _).alloc (L5 _) _⟩
theorem jc(t n:Int)(s:ByteArray)(w:World)(c:s.size<=9223372036854775807):
  Calls Tryz.prog 98 #[.agg #[.int .i64 t,.int .i64 n,.string s]] w fun e w'=>e=.returned (.bool (be t n s))/\Below w.heap.size w w':=by
 by_cases b:t=1
 ·subst b;exact v8 n s w
 by_cases a:t=2
 ·subst a;exact wd n s w c
 exact sR t n s w b a
theorem xZ:∀a b:List UInt8,Op.bytesLess a b=decide (Lib.compareBytes a b<0)
 |[],[]=>by simp[Op.bytesLess,Lib.compareBytes]
 |[],_::_=>by simp[Op.bytesLess,Lib.compareBytes]
 |_::_,[]=>by simp[Op.bytesLess,Lib.compareBytes]
 |x::a,y::b=>by
  have d:=xZ a b;simp only[Op.bytesLess,Lib.compareBytes,OV];by_cases c:x.toNat<y.toNat
  ·simp[c]
  by_cases f:y.toNat<x.toNat
  ·have:¬x=y:=fun e=>by subst e;omega
   simp[c,f,this]
  have:x=y:=O5.1 (by omega);simp[this,d]
theorem Hq{a b:ByteArray}{o:Int}(h:Lib.compareBytes a.data.toList b.data.toList=o):Op.bytesLess a.toList b.toList=decide (o<0):=by
 rw[Lib.toList_data,Lib.toList_data,xZ,h]
theorem Hr{a b:ByteArray}{o:Int}(h:Lib.compareBytes a.data.toList b.data.toList=o):(a.toList==b.toList)=decide (o=0):=by
 rw[Lib.toList_data,Lib.toList_data,O2];simp only[beq_iff_eq,decide_eq_true_eq];rw[<-iP,h]
theorem sS(a d:Int)(c:ByteArray)(g nb:Int)(b:ByteArray)(w:World):
  Calls Tryz.prog 161 #[.agg #[.int .i64 a,.int .i64 d,.string c],.agg #[.int .i64 g,.int .i64 nb,.string b]] w fun e w'=>e=.returned (.int .i64 (gS a d c g nb b))/\Below w.heap.size w w':=by
 rcases dn a g with⟨e,h⟩|⟨e,h⟩|⟨e,h⟩
 ·have f:=J (show gS a d c g nb b= -1 by rw[gS,e,fA (by decide)]);have n:(a==g)=false:=by simp;omega
  have m:(a !=g)=true:=by simp;omega
  clear e
  go_enter Tryz.func161,Tryz.ntmps161
  go_wp2
  go_ret
  exact⟨by rw[f.out];rfl,((Below.refl _ _).alloc (L5 _) _).alloc (by simp) _⟩
 ·subst h;rcases dn d nb with⟨i,h⟩|⟨i,h⟩|⟨i,h⟩
  ·have f:=J (show gS a d c a nb b= -1 by rw[gS,e,i,eQ (by decide)]);have n:(d==nb)=false:=by simp;omega
   have m:(d !=nb)=true:=by simp;omega
   clear e i
   go_enter Tryz.func161,Tryz.ntmps161
   go_wp2
   go_ret
   exact⟨by rw[f.out];rfl,((Below.refl _ _).alloc (L5 _) _).alloc (by simp) _⟩
  ·subst h;obtain⟨o,l⟩:∃o,Lib.compareBytes c.data.toList b.data.toList=o:=⟨_,rfl⟩;have f:=J (show gS a d c a d b=o by rw[gS,e,i,kx,l]);have p:=gl c.data.toList b.data.toList;rw[l]at p;have k:=Hq l;have j:=Hr l;clear e i l;rcases p with rfl|rfl|rfl
   ·replace k:Op.bytesLess c.toList b.toList=true:=k.trans (by decide);replace j:(c.toList==b.toList)=false:=j.trans (by decide)
    go_enter Tryz.func161,Tryz.ntmps161
    go_wp2
    go_ret
    exact⟨by rw[f.out];rfl,((Below.refl _ _).alloc (L5 _) _).alloc (by simp) _⟩
   ·replace k:Op.bytesLess c.toList b.toList=false:=k.trans (by decide);replace j:(c.toList==b.toList)=true:=j.trans (by decide)
    go_enter Tryz.func161,Tryz.ntmps161
    go_wp2
    go_ret
    exact⟨by rw[f.out];rfl,((Below.refl _ _).alloc (L5 _) _).alloc (by simp) _⟩
   replace k:Op.bytesLess c.toList b.toList=false:=k.trans (by decide);replace j:(c.toList==b.toList)=false:=j.trans (by decide)
   go_enter Tryz.func161,Tryz.ntmps161
   go_wp2
   go_ret
   exact⟨by rw[f.out];rfl,((Below.refl _ _).alloc (L5 _) _).alloc (by simp) _⟩
  have f:=J (show gS a d c a nb b=1 by rw[gS,e,i,eQ (by decide)]);have n:(d==nb)=false:=by simp;omega
  have m:(d !=nb)=true:=by simp;omega
  clear e i
  go_enter Tryz.func161,Tryz.ntmps161
  go_wp2
  go_ret
  exact⟨by rw[f.out];rfl,((Below.refl _ _).alloc (L5 _) _).alloc (by simp) _⟩
 have f:=J (show gS a d c g nb b=1 by rw[gS,e,fA (by decide)]);have n:(a==g)=false:=by simp;omega
 have m:(a !=g)=true:=by simp;omega
 clear e
 go_enter Tryz.func161,Tryz.ntmps161
 go_wp2
 go_ret
 exact⟨by rw[f.out];rfl,((Below.refl _ _).alloc (L5 _) _).alloc (by simp) _⟩
theorem tM(A B:Option Addr)(c d:Nat)(l m:List V)(w:World)(h:At w w.heap.size A (co l))(G:At w w.heap.size B (co m))(hl:l.length<=65536)(_hm:m.length<=65536):
  Calls Tryz.prog 93 #[.slice A l.length c,.slice B m.length d] w fun e w'=>e=.returned (.int .i64 (aO l m))/\Below w.heap.size w w':=by
 have S:=J h;have P:=J G;clear h G
 go_enter Tryz.func93,Tryz.ntmps93
 go_wp2
 go_loopw [5] (fun i wr=>∃k:Nat,k<=l.length/\k<=m.length/\i=.int .i64 k/\aO l m=aO (l.drop k) (m.drop k)/\Below w.heap.size w wr) (fun i _=>l.length-(intOf i).toNat)
 case atStart=>exact⟨0,Mx _,Mx _,Z,Z,Below.refl _ _⟩
 case round=>
  obtain⟨k,hk,R,rfl,u,o⟩:=hrel;have v:=J u;have a:=J o;have C:=J (S.out.below o);have D:=J (P.out.below o);have r:=a.out.size;clear u o;by_cases p:k<l.length
  ·by_cases g:k<m.length
   ·obtain⟨b1,o1,rfl,X,H,K,F⟩:=C.out.val p;obtain⟨b2,o2,rfl,T,E,I,M⟩:=D.out.val g;have f:=J (ui l m k p g);obtain⟨x,y⟩:∃x,gd l[k] m[k]=x:=⟨_,rfl⟩;have f:Hid (aO (l.drop k) (m.drop k)=if x=0 then aO (l.drop (k+1)) (m.drop (k+1))else x):=by rw[<-y];exact f
    have L:Hid (∀W:World,Calls Tryz.prog 161 #[.agg #[.int .i64 l[k].t,.int .i64 l[k].n,.string l[k].s],.agg #[.int .i64 m[k].t,.int .i64 m[k].n,.string m[k].s]] W fun e w'=>e=.returned (.int .i64 x)/\Below W.heap.size W w'):=fun W=>by
     have:=sS l[k].t l[k].n l[k].s m[k].t m[k].n m[k].s W;rwa[show gS l[k].t l[k].n l[k].s m[k].t m[k].n m[k].s=x from y]at this
    clear y;have U:(0:Int)<=(k:Int):=by omega
    have Y:(k:Int)<(l.length:Int):=by omega
    have N:(k:Int)<(m.length:Int):=by omega
    by_cases j:x=0
    ·subst j
     go_wp2
     refine wp_region_still_tail 8 (by kernel_rfl) (by kernel_rfl) ?_;simp only[N5,Ou,Of,Nx];change wpStill _ _ wr.drew _ _ _;iterate 8 still_step
     refine wpStill_nil ?_;clear H K F E I M
     go_wp2_with fail
     refine(L.out _).mono ?_;rintro e z ⟨rfl,b⟩;have q:=J (show Below w.heap.size w z from a.out.drew.trans (b.mono (by simpa using r)));clear b
     go_wp2
     go_roundw
     case rel=>exact⟨k+1,by omega,by omega,by go_num,by rw[v.out,f.out];simp,q.out⟩
     case measure=>simp[intOf];omega
    have Q:(x !=0)=true:=by simpa using j
    have O:(x==0)=false:=by simpa using j
    go_wp2
    refine wp_region_still_tail 8 (by kernel_rfl) (by kernel_rfl) ?_;simp only[N5,Ou,Of,Nx];change wpStill _ _ wr.drew _ _ _;iterate 8 still_step
    refine wpStill_nil ?_;clear H K F E I M
    go_wp2_with fail
    refine(L.out _).mono ?_;rintro e z ⟨rfl,b⟩;have q:=J (show Below w.heap.size w z from a.out.drew.trans (b.mono (by simpa using r)));clear b
    go_wp2
    go_ret
    exact⟨by rw[v.out,f.out,if_neg j];rfl,q.out⟩
   have f:=J (show aO (l.drop k) (m.drop k)=1 by
    rw[Md p,Mg (l:=m) (by omega)];rfl)
   go_wp2
   go_ret
   exact⟨by rw[v.out,f.out];rfl,a.out⟩
  by_cases g:k<m.length
  ·have f:=J (show aO (l.drop k) (m.drop k)= -1 by
    rw[Md g,Mg (l:=l) (by omega)];rfl)
   go_wp2
   go_ret
   exact⟨by rw[v.out,f.out];rfl,a.out⟩
  have f:=J (show aO (l.drop k) (m.drop k)=0 by
   rw[Mg (l:=l) (by omega),Mg (l:=m) (by omega)];rfl)
  go_wp2
  go_ret
  exact⟨by rw[v.out,f.out];rfl,a.out⟩
theorem Fs(n:Nat)(h:(ay n).length<=1073741823):Ct 168 [aM n] (aM n):=dW ⟨_,Tryz.func168,Z,Z⟩ (fun _ _ _ g h=>ia g h) fun G w vs _ _ f=>by
 obtain⟨u,rfl,i⟩:=cR f;obtain⟨A,c,rfl,b⟩:=dX i;refine(dl A c (ay n) w b h).mono ?_;rintro e w' ⟨v,rfl,a,d⟩;rw[aI]at a;exact⟨v,Z,a.isD,d⟩
theorem Hs(x y:Nat)(b:(ay x).length<=1073741823)(f:(ay y).length<=1073741823):Ct 101 [aM x,aM y] (iT (eu x y)):=Ct.sc ⟨_,Tryz.func101,Z,Z⟩ fun G w vs _ _ e=>by
 obtain⟨u,v,rfl,g,i⟩:=eL e;obtain⟨A,c,rfl,a⟩:=dX g;obtain⟨B,d,rfl,h⟩:=dX i;have:=qU A B c d (ay x) (ay y) w a h b f;rw[aI,aI]at this;exact this
theorem B4(x y:Nat)(f:(ay x).length<=1073741823)(a:y<=x):Ct 217 [aM x,aM y] (.tup [aM (x-y),bT true]):=⟨⟨_,Tryz.func217,Z,Z⟩,fun G w vs _ k i=>by
 obtain⟨u,v,rfl,l,n⟩:=eL i;obtain⟨A,c,rfl,g⟩:=dX l;obtain⟨B,d,rfl,m⟩:=dX n;have j:(ay y).length<=1073741823:=L6 (aS a) f;have:=vH A B c d (ay x) (ay y) w g m f j (by rw[aI,aI];exact a);rw[aI,aI]at this;refine this.mono ?_;rintro e w' ⟨v,rfl,h,b⟩;exact⟨_,Z,.tup [v,.bool true] _ ((ia (OkG.later k b) h.isD).cons (.sc _ .nil)) .nil,b⟩⟩
theorem Ft(n:Nat)(a:n<18446744073709551616):Ct 102 [.sc (.int .u64 (n:Nat))] (aM n):=dW ⟨_,Tryz.func102,Z,Z⟩ (fun _ _ _ d h=>ia d h) fun G w vs _ _ c=>by
 obtain⟨u,rfl,g⟩:=cR c;cases g;refine(kt n w a).mono ?_;rintro e w' ⟨v,rfl,b,f⟩;exact⟨v,Z,b.isD,f⟩
theorem x3(n:Int)(d: -9223372036854775808<=n)(g:n<=9223372036854775807):Ct 162 [iT n] (aM n.natAbs):=dW ⟨_,Tryz.func162,Z,Z⟩ (fun _ _ _ c h=>ia c h) fun G w vs _ _ b=>by
 obtain⟨u,rfl,i⟩:=cR b;cases i;refine(r8 n w d g).mono ?_;rintro e w' ⟨v,rfl,a,f⟩;exact⟨v,Z,a.isD,f⟩
theorem Lj(n:Nat)(h:(ay n).length<=1048576)(b:(Lib.decDigits n).length<=1073741824):Ct 100 [aM n] (.sc (.string ⟨(Lib.decDigits n).toArray⟩)):=Ct.sc ⟨_,Tryz.func100,Z,Z⟩ fun G w vs _ _ a=>by
 obtain⟨u,rfl,e⟩:=cR a;obtain⟨A,c,rfl,d⟩:=dX e;have:=r7 A c (ay n) w d h (by rw[aI];exact b);rw[aI]at this;exact this
theorem x4(a:Bool)(N D:Nat)(b:0<D):jX (a&&decide (N≠0)) (N/Nat.gcd N D) (D/Nat.gcd N D)=dp (cF a N D):=by
 unfold dp;rcases M1 N with h|h
 ·subst h;rw[ky,PP,Nat.div_self b];simp
 obtain⟨d,e,c⟩:=pH a h b;rw[d,e,c];simp[show N≠0 by omega]
theorem x5{a:Bool}{N D:Nat}{w:World}{G:Nat->Prop}(f:OkG G w)(c:0<D){e:Ending}{w':World}(h:ku (a&&decide (N≠0)) (N/Nat.gcd N D) (D/Nat.gcd N D) w e w'):∃v,e=.returned v/\PT w' G [v] [dp (cF a N D)]/\Below w.heap.size w w':=by
 obtain⟨d,i,rfl,g,j,b⟩:=h;refine⟨_,Z,?_,b⟩;rw[<-x4 a N D c];exact zV (OkG.later f b) ⟨d,i,Z,g.isD,j.isD⟩
theorem kK(f:Bool)(N D:Nat)(m:(ay N).length<=1048576)(i:(ay D).length<=1048576)(b:0<D):Ct 110 [bT f,aM N,aM D] (dp (cF f N D)):=⟨⟨_,Tryz.func110,Z,Z⟩,fun G w vs _ k j=>by
 obtain⟨a,u,v,rfl,l,n,p⟩:=mc j;cases l;obtain⟨A,c,rfl,g⟩:=dX n;obtain⟨B,d,rfl,o⟩:=dX p;exact(r9 f A B c d N D w g o m i b).mono fun e w' h=>x5 k b h⟩
theorem uF(f:Bool)(N D:Nat)(m:(ay N).length<=1048576)(i:(ay D).length<=1048576)(b:0<D):Ct 48 [jX f N D] (dp (cF f N D)):=⟨⟨_,Tryz.func48,Z,Z⟩,fun G w vs _ k j=>by
 obtain⟨a,rfl,l⟩:=cR j;obtain⟨q,r,rfl,n,p⟩:=pK l;obtain⟨A,c,rfl,g⟩:=n;obtain⟨B,d,rfl,o⟩:=p;exact(oA f A B c d N D w g o m i b).mono fun e w' h=>x5 k b h⟩
theorem ff(q:Rat)(h:Fit 1048576 q):Ct 48 [dp q] (dp q):=by
 have:=uF (decide (q.num<0)) q.num.natAbs q.den h.num h.den q.den_pos;rwa[fd]at this
theorem ly(l m:List V)(a:l.length<=65536)(f:m.length<=65536):Ct 93 [.sl (l.map V.tree),.sl (m.map V.tree)] (iT (aO l m)):=Ct.sc ⟨_,Tryz.func93,Z,Z⟩ fun G w vs _ _ e=>by
 obtain⟨u,x,rfl,h,i⟩:=eL e;obtain⟨A,c,rfl,b,_⟩:=qX h;obtain⟨B,d,rfl,g,_⟩:=qX i;exact tM A B c d l m w b g a f
theorem De(v:V)(b:v.s.size<=9223372036854775807):Ct 98 [v.tree] (bT v.ok):=Ct.sc ⟨_,Tryz.func98,Z,Z⟩ fun G w vs _ _ a=>by
 obtain⟨u,rfl,h⟩:=cR a;rw[zW h];exact jc v.t v.n v.s w b
end Go.Proofs.YtfoejfohbkmmeaaGreatDoor

namespace Go.Proofs.YtfoejfohbkmmeaaGreatDoor
open Go.RowKit
def JQ:Tree:=.agg [.sl [],.sc (.bool false),.sl [],.sl []]
def pR(ts:List Tp)(i:Nat):List Tree:=(ts.take i).map Tp.tree++List.replicate (ts.length-i) JQ
theorem Fu{ts:List Tp}{i:Nat}{t:Tp}(h:ts[i]? =some t):(pR ts i).set i t.tree=pR ts (i+1):=by
 obtain⟨a,rfl⟩:=L7.1 h;unfold pR;have e:((ts.take i).map Tp.tree).length=i:=by simp;omega
 rw[NK (h:=by omega),e,M4,show ts.length-i=(ts.length-(i+1))+1 by omega,N6,Ms,Mq a,Nk,MG];rfl
theorem x6(ts:List Tp){i:Nat}(h:i<=ts.length):(pR ts i).length=ts.length:=by unfold pR;simp;omega
theorem Fv(ts:List Tp){i:Nat}(h:ts.length<=i):pR ts i=ts.map Tp.tree:=by
 unfold pR;rw[Me h,show ts.length-i=0 by omega];simp
theorem bq:qF Tryz.prog 30=some 4:=by kernel_rfl
theorem ij:lM Tryz.prog 28=some (67,4,80):=by kernel_rfl
theorem Jp:(Tryz.prog.info? 24).map (·.size)=some 1:=by kernel_rfl
theorem lz:(Tryz.prog.info? 30).map (·.size)=some 4:=by kernel_rfl
theorem ik:tJ Tryz.prog 30=some ([(0,3),(3,1)],[.string (⟨#[]⟩),.bool false,.slice none 0 0,.slice none 0 0]):=by kernel_rfl
theorem gt:tJ Tryz.prog 67=some ([(0,1),(1,3)],[.slice none 0 0,.bool false,.slice none 0 0,.slice none 0 0]):=by kernel_rfl
theorem im:gc Tryz.prog 30=some [.string (⟨#[]⟩),.bool false,.slice none 0 0,.slice none 0 0]:=by kernel_rfl
theorem uG(t:Tp)(h:FitT t)(a:t.vals.length<=65536):Ct 85 [t.tree] (t.tree):=by
 refine Ct.of (n:=10) Tryz.func85 Z Z Z Z Z fun w0 G0=>?_
 refine ab<|aj 2 Z<|ab<|dH (ops:=[_,_,_,_,_,_,_]) (fu:=8) (bs':=[(67,(bS t)),(67,(bS t))]) [some 3,some 4,some 5,some 6,some 7,some 8,some 9] [.box 0 0,.sl (t.vals.map V.tree),.sl (t.vals.map V.tree),.box 0 1,.agg (aU t.prob),.agg (aU t.prob),.agg (bS t)] (by kernel_rfl) Z Z Z Z Z (by kernel_rfl) (by kernel_rfl) Z Z Z Z Z Z Z Z sy Z Z Z ?_ ?_
 ·refine Chain.op Z (az Z Z b6 Z)<|Chain.op Z (aD Z Z Z cC Z)<|Chain.op Z (ar Z (C5 _ a) Z Z)<|Chain.op Z (az Z Z dY Z)<|Chain.op Z (aJ Z Z Z aN Z Z)<|Chain.op Z (ar Z (su _ h.p) Z Z)<|Chain.op Z (fG Z gt Z Z Z)<|Chain.nil
 refine aC<|⟨.inr Z,_,.cons ⟨_,_,_,_,Z,Z,.inl ⟨_,ez,Z,Z⟩⟩ .nil,Z,Z⟩
theorem Fw(r:Rel)(h:FitR r):Ct 83 [r.tree] (.agg [sT r.sch.name,bT r.sch.cert,.sl (r.sch.cols.map Col.tree),.tl (r.tups.map Tp.tree)]):=by
 refine Ct.of (n:=35) Tryz.func83 Z Z Z Z Z fun w0 G0=>?_
 refine ab<|aj 2 Z<|ab<|iw (sl':=[(0,.agg (aT r)),(1,.box 0 0),(2,.box 1 0)]) ⟨Z,⟨Z,⟨Z,trivial⟩⟩⟩<|fz (fu:=3) [some 6,some 7,some 8,some 9,some 10,some 11,some 12,some 3,none] [5,7,8] [.box 0 0,.agg (dq r.sch),.box 0 3,.sl (r.tups.map Tp.tree),nI r.tups.length,.own 0,.agg [sT r.sch.name,bT r.sch.cert,.sl (r.sch.cols.map Col.tree),.own 0],.any,.any] [⟨[5],[(0,.agg (aT r)),(1,.box 0 0),(2,.box 1 0)],[(30,(aT r)),(30,dS)],[some ⟨67,4,List.replicate r.tups.length JQ,true⟩],[.box 0 0,.agg (dq r.sch),.box 0 3,.sl (r.tups.map Tp.tree),nI r.tups.length,.own 0,.agg [sT r.sch.name,bT r.sch.cert,.sl (r.sch.cols.map Col.tree),.own 0],.any,.any]⟩,⟨[7],[(0,.agg (aT r)),(1,.box 0 0),(2,.box 1 0)],[(30,(aT r)),(30,dS),(30,dS)],[],[.box 0 0,.agg (dq r.sch),.box 0 3,.sl (r.tups.map Tp.tree),nI r.tups.length,.own 0,.agg [sT r.sch.name,bT r.sch.cert,.sl (r.sch.cols.map Col.tree),.own 0],.box 2 0,.any]⟩,⟨[7,5],[(0,.agg (aT r)),(1,.box 0 0),(2,.box 1 0)],[(30,(aT r)),(30,dS),(30,dS)],[some ⟨67,4,List.replicate r.tups.length JQ,true⟩],[.box 0 0,.agg (dq r.sch),.box 0 3,.sl (r.tups.map Tp.tree),nI r.tups.length,.own 0,.agg [sT r.sch.name,bT r.sch.cert,.sl (r.sch.cols.map Col.tree),.own 0],.box 2 0,.any]⟩] ⟨[8,7,5],[(0,.agg (aT r)),(1,.box 0 0),(2,.box 1 0)],[(30,(aT r)),(30,dS),(30,[sT r.sch.name,bT r.sch.cert,.sl (r.sch.cols.map Col.tree),.own 0])],[some ⟨67,4,List.replicate r.tups.length JQ,true⟩],[.box 0 0,.agg (dq r.sch),.box 0 3,.sl (r.tups.map Tp.tree),nI r.tups.length,.own 0,.agg [sT r.sch.name,bT r.sch.cert,.sl (r.sch.cols.map Col.tree),.own 0],.box 2 0,.any]⟩ (by kernel_rfl) Z (by kernel_rfl) (by kernel_rfl) (by kernel_rfl) Z Z ?_ ?_
 ·refine .op [] (by kernel_rfl) ?_ ?_
  ·refine .ok (t:=.box 0 0) (by kernel_rfl) Z Z (az Z Z dZ Z)<|.ok (t:=.box 0 0) (by kernel_rfl) Z Z (az Z Z dZ Z)<|.ok (t:=.box 0 0) (by kernel_rfl) Z Z (az Z Z dZ Z)<|.ok (t:=.box 0 0) (by kernel_rfl) Z Z (az Z Z dZ Z)<|.no (by kernel_rfl)<|.nil
  refine .op [0] (by kernel_rfl) ?_ ?_
  ·refine .ok (t:=.agg (dq r.sch)) (by kernel_rfl) Z Z (aJ Z Z Z eR Z Z)<|.ok (t:=.agg (dq r.sch)) (by kernel_rfl) Z Z (aJ Z Z Z eR Z Z)<|.ok (t:=.agg (dq r.sch)) (by kernel_rfl) Z Z (aJ Z Z Z eR Z Z)<|.ok (t:=.agg (dq r.sch)) (by kernel_rfl) Z Z (aJ Z Z Z eR Z Z)<|.no (by kernel_rfl)<|.nil
  refine .op [] (by kernel_rfl) ?_ ?_
  ·refine .ok (t:=.box 0 3) (by kernel_rfl) Z Z (az Z Z aV Z)<|.no (by kernel_rfl)<|.ok (t:=.box 0 3) (by kernel_rfl) Z Z (az Z Z aV Z)<|.no (by kernel_rfl)<|.no (by kernel_rfl)<|.nil
  refine .op [2] (by kernel_rfl) ?_ ?_
  ·refine .ok (t:=.sl (r.tups.map Tp.tree)) (by kernel_rfl) Z Z (aD Z Z Z bp Z)<|.no (by kernel_rfl)<|.ok (t:=.sl (r.tups.map Tp.tree)) (by kernel_rfl) Z Z (aD Z Z Z bp Z)<|.no (by kernel_rfl)<|.no (by kernel_rfl)<|.nil
  refine .op [3] (by kernel_rfl) ?_ ?_
  ·refine .ok (t:=nI r.tups.length) (by kernel_rfl) Z Z (ah (bd Z aK Z) (by simp only[L8]))<|.no (by kernel_rfl)<|.ok (t:=nI r.tups.length) (by kernel_rfl) Z Z (ah (bd Z aK Z) (by simp only[L8]))<|.no (by kernel_rfl)<|.no (by kernel_rfl)<|.nil
  refine .op [4] (by kernel_rfl) ?_ ?_
  ·refine .wr 1 id (.own 0) (by kernel_rfl) Z Z (Bt (m:=r.tups.length) (zt:=JQ) Z Z Z ij go Z Z (rfl) (rfl) Z (by have:=h.tups;omega) Z Z Z) Z Z Z Z (.k Z (.k Z (.k Z (.k Z (.k Z (.i Z (.k Z (.k Z (.k Z .nil)))))))))<|.no (by kernel_rfl)<|.wr 3 id (.own 0) (by kernel_rfl) Z Z (Bt (m:=r.tups.length) (zt:=JQ) Z Z Z ij go Z Z (rfl) (rfl) Z (by have:=h.tups;omega) Z Z Z) Z Z Z Z (.k Z (.k Z (.k Z (.k Z (.k Z (.i Z (.k Z (.k Z (.k Z .nil)))))))))<|.no (by kernel_rfl)<|.no (by kernel_rfl)<|.nil
  refine .op [1,5] (by kernel_rfl) ?_ ?_
  ·refine .no (by kernel_rfl)<|.ok (t:=.agg [sT r.sch.name,bT r.sch.cert,.sl (r.sch.cols.map Col.tree),.own 0]) (by kernel_rfl) Z Z (fG Z ik Z Z Z)<|.no (by kernel_rfl)<|.ok (t:=.agg [sT r.sch.name,bT r.sch.cert,.sl (r.sch.cols.map Col.tree),.own 0]) (by kernel_rfl) Z Z (fG Z ik Z Z Z)<|.no (by kernel_rfl)<|.nil
  refine .op [] (by kernel_rfl) ?_ ?_
  ·refine .wr 2 id (.box 2 0) (by kernel_rfl) Z Z (iI Z Z Z im Z Z Z Z) Z Z Z Z (.k Z (.k Z (.k Z (.k Z (.k Z (.k Z (.k Z (.i Z (.k Z .nil)))))))))<|.wr 3 id (.box 2 0) (by kernel_rfl) Z Z (iI Z Z Z im Z Z Z Z) Z Z Z Z (.k Z (.k Z (.k Z (.k Z (.k Z (.k Z (.k Z (.i Z (.k Z .nil)))))))))<|.no (by kernel_rfl)<|.no (by kernel_rfl)<|.no (by kernel_rfl)<|.nil
  refine .op [6,7] (by kernel_rfl) ?_ ?_
  ·refine .no (by kernel_rfl)<|.no (by kernel_rfl)<|.no (by kernel_rfl)<|.wr 4 id .any (by kernel_rfl) Z Z (gJ Z Z Z Z Z Z Z Z lz Z Z Z) Z Z Z Z (.k Z (.k Z (.k Z (.k Z (.k Z (.k Z (.k Z (.k Z (.i Z .nil)))))))))<|.no (by kernel_rfl)<|.nil
  exact .nil
 refine ab<|ae<|aa 3 Z<|af Z Z Z (ar Z (uy _ h.cols) Z Z)<|aa 3 Z<|ag<|ab<|ab<|ae<|aa 2 Z<|af (t:=nI r.tups.length) Z Z Z (ah (bd Z aK Z) (by simp only[L8]))<|aa 1 Z<|ag<|aE<|aW (fun e g=>∃(i:Nat),(i<=r.tups.length)/\e=r.tups.length-i/\g=⟨35,[(2,.box 1 0),(3,.box 2 0),(20,.sl (r.tups.map Tp.tree)),(21,nI r.tups.length),(22,nI i)],[(30,(aT r)),(30,dS),(30,[sT r.sch.name,bT r.sch.cert,.sl (r.sch.cols.map Col.tree),.own 0])],[some ⟨67,4,pR r.tups i,true⟩]⟩) 3 1 ⟨0,Mx _,Z,Z⟩ ⟨Z,Z,Z,.cons Z Z (.cons Z Z (.cons Z Z (.cons Z Z (.cons Z Z .nil)))),Z⟩ ?_;rintro e g ⟨i,l,rfl,rfl⟩;have p:=h.tups;have o:(pR r.tups i).length=r.tups.length:=x6 _ l;refine ab<|ae<|af (t:=bT (decide (i<r.tups.length))) Z Z Z (ah (ai Z Z Z Zy) (av (iu i r.tups.length)))<|ag<|ab<|aF Z (fun d=>?_) (fun d=>?_)
 ·refine ax<|ab<|aE<|ab ?_;obtain⟨t,b⟩:∃t,r.tups[i]? =some t:=⟨_,L4 (by omega)⟩;have c:=h.tup t (L9 b);refine ae<|aa 1 Z<|af (t:=.ref (bS t)) Z Z Z (aQ (Tp.tree t) Z aK Z Z Z (bf (f:=Tp.tree) b) (bQ _) Z)<|aa 4 Z<|ag<|iw (sl':=[(2,.box 1 0),(3,.box 2 0),(20,.sl (r.tups.map Tp.tree)),(21,nI r.tups.length),(22,nI i),(23,bT (decide (i<r.tups.length))),(5,.box 3 0),(4,nI i)]) ⟨Z,⟨Z,⟨Z,⟨Z,⟨Z,⟨Z,⟨Z,⟨Z,trivial⟩⟩⟩⟩⟩⟩⟩⟩<|fz (fu:=1) [some 27,some 28,some 29,some 30,some 31,some 32,none] [6] [.box 2 3,.own 0,nI i,.agg (bS t),.agg (bS t),.elp 0 (i*4),.any] [] ⟨[6],[(2,.box 1 0),(3,.box 2 0),(20,.sl (r.tups.map Tp.tree)),(21,nI r.tups.length),(22,nI i),(23,bT (decide (i<r.tups.length))),(5,.box 3 0),(4,nI i)],[(30,(aT r)),(30,dS),(30,[sT r.sch.name,bT r.sch.cert,.sl (r.sch.cols.map Col.tree),.own 0]),(67,(bS t))],[some ⟨67,4,pR r.tups (i+1),true⟩],[.box 2 3,.own 0,nI i,.agg (bS t),.agg (bS t),.elp 0 (i*4),.any]⟩ (by kernel_rfl) Z (by kernel_rfl) (by kernel_rfl) (by kernel_rfl) Z Z ?_ ?_
  ·refine .op [] (by kernel_rfl) ?_ ?_
   ·refine .ok (t:=.box 2 3) (by kernel_rfl) Z Z (az Z Z aV Z)<|.no (by kernel_rfl)<|.nil
   refine .op [0] (by kernel_rfl) ?_ ?_
   ·refine .ok (t:=.own 0) (by kernel_rfl) Z Z (aD Z Z Z bp Z)<|.no (by kernel_rfl)<|.nil
   refine .op [] (by kernel_rfl) ?_ ?_
   ·refine .ok (t:=nI i) (by kernel_rfl) Z Z (aw Z Z)<|.no (by kernel_rfl)<|.nil
   refine .op [] (by kernel_rfl) ?_ ?_
   ·refine .ok (t:=.agg (bS t)) (by kernel_rfl) Z Z (aJ Z Z Z ez Z Z)<|.no (by kernel_rfl)<|.nil
   refine .op [3] (by kernel_rfl) ?_ ?_
   ·refine .ok (t:=.agg (bS t)) (by kernel_rfl) Z Z (ar Z (uG t c.1 c.2) Z Z)<|.no (by kernel_rfl)<|.nil
   refine .op [1,2] (by kernel_rfl) ?_ ?_
   ·refine .ok (t:=.elp 0 (i*4)) (by kernel_rfl) Z Z (gK (j:=i) Z aK Z Z Z Z Z (by show i<(pR r.tups i).length;omega) Z)<|.no (by kernel_rfl)<|.nil
   refine .op [4,5] (by kernel_rfl) ?_ ?_
   ·refine .wr 1 id .any (by kernel_rfl) Z Z (l6 (j:=i) Z Z Z Z Z (by show i<(pR r.tups i).length;rw[x6 _ (by omega)];omega) Z Z Z Z Z sy Z (congrArg (fun a=>[some (⟨67,4,a,true⟩:Row)]) (Fu b))) Z Z Z Z (.k Z (.k Z (.k Z (.k Z (.k Z (.k Z (.i Z .nil)))))))<|.no (by kernel_rfl)<|.nil
   exact .nil
  refine ae<|af (t:=nI (i+1)) Z Z Z (ah (ai Z Z Z Zy) (bu (by omega)))<|aa 1 Z<|ag<|⟨_,_,?_,⟨i+1,?_,Z,Z⟩,⟨Z,Z,Z,.cons Z Z (.cons Z Z (.cons Z Z (.cons Z Z (.cons Z Z .nil)))),Z⟩⟩
  ·omega
  omega
 refine aZ<|ab<|Ev 0 (bs':=[(30,(aT r)),(30,dS),(30,[sT r.sch.name,bT r.sch.cert,.sl (r.sch.cols.map Col.tree),.tl (pR r.tups i)])]) (rs':=[none]) Z Z Z Z Z<|aj 2 Z<|aC<|⟨.inr Z,_,.cons ⟨_,_,_,_,Z,Z,.inl ⟨_,bq,Z,Z⟩⟩ .nil,(congrArg (fun a=>Tree.agg [sT r.sch.name,bT r.sch.cert,.sl (r.sch.cols.map Col.tree),.tl a]) (Fv _ (by omega))),Z⟩
end Go.Proofs.YtfoejfohbkmmeaaGreatDoor
