import Derived.Test.YtfoejfohbkmmeaaGreatDoorQ15
import Derived.Test.YtfoejfohbkmmeaaGreatDoorQ03
import Derived.Test.YtfoejfohbkmmeaaGreatDoorQ00
import Derived.Test.YtfoejfohbkmmeaaGreatDoorQ17
import Derived.Test.YtfoejfohbkmmeaaGreatDoorQ22
import Derived.StillTailTactics
import Derived.Test.YtfoejfohbkmmeaaGreatDoorQ23
import Derived.Test.YtfoejfohbkmmeaaGreatDoorQ07
import Derived.Test.YtfoejfohbkmmeaaGreatDoorQ27
import Derived.Test.YtfoejfohbkmmeaaGreatDoorQ10
set_option maxRecDepth 100000
set_option maxHeartbeats 4000000
namespace Go.Proofs.YtfoejfohbkmmeaaGreatDoor
open Go.RowKit
open Lib renaming hid→J
theorem Aj(n:Int)(w:World):
  Calls Tryz.prog 38 #[.int .i64 n] w fun e w'=>e=.returned (.agg #[.int .i64 1,.int .i64 n,.string ⟨#[]⟩])/\Below w.heap.size w w':=by
 go_enter Tryz.func38,Tryz.ntmps38
 go_wp2
 exact bodyPost_ret (v:=.agg #[.int .i64 1,.int .i64 n,.string ⟨#[]⟩]) (by simp[results,Tryz.results38,go_sem]) Z ⟨Z,(Below.refl _ _).alloc (L5 _) _⟩
theorem Ak(s:ByteArray)(w:World):
  Calls Tryz.prog 37 #[.string s] w fun e w'=>e=.returned (.agg #[.int .i64 2,.int .i64 0,.string s])/\Below w.heap.size w w':=by
 go_enter Tryz.func37,Tryz.ntmps37
 go_wp2
 exact bodyPost_ret (v:=.agg #[.int .i64 2,.int .i64 0,.string s]) (by simp[results,Tryz.results37,go_sem]) Z ⟨Z,(Below.refl _ _).alloc (L5 _) _⟩
theorem v8(n:Int)(s:ByteArray)(w:World):
  Calls Tryz.prog 98 #[.agg #[.int .i64 1,.int .i64 n,.string s]] w fun e w'=>e=.returned (.bool (be 1 n s))/\Below w.heap.size w w':=by
 go_enter Tryz.func98,Tryz.ntmps98
 go_wp2
 go_ret
 exact⟨by simp[be,Lib.toList_data],(Below.refl _ _).alloc (L5 _) _⟩
theorem sR(t n:Int)(s:ByteArray)(w:World)(a:t≠1)(b:t≠2):
  Calls Tryz.prog 98 #[.agg #[.int .i64 t,.int .i64 n,.string s]] w fun e w'=>e=.returned (.bool (be t n s))/\Below w.heap.size w w':=by
 have c:=J (show be t n s=false by simp[be,a,b]);have d:(t==1)=false:=by simpa using a
 have f:(t==2)=false:=by simpa using b
 clear a b
 go_enter Tryz.func98,Tryz.ntmps98
 go_wp2
 go_ret
 exact⟨by rw[c.out];rfl,(Below.refl _ _).alloc (L5 _) _⟩
theorem wd(n:Int)(s:ByteArray)(w:World)(p:s.size<=9223372036854775807):
  Calls Tryz.prog 98 #[.agg #[.int .i64 2,.int .i64 n,.string s]] w fun e w'=>e=.returned (.bool (be 2 n s))/\Below w.heap.size w w':=by
 have d:=J (show be 2 n s=(decide (n=0)&&decide (s.size<=64)&&s.data.toList.all pj) by simp[be])
 go_enter Tryz.func98,Tryz.ntmps98
 go_wp2
 go_loop [3] (fun i=>∃k:Nat,k<=s.size/\(s.data.toList.take k).all pj=true/\i=.int .i64 k) (fun i=>s.size-(intOf i).toNat)
 case atStart=>exact⟨0,Mx _,by simp,Z⟩
 case round=>
  obtain⟨k,q,b,rfl⟩:=hrel;have j:=J b;clear b;by_cases g:k<s.size
  ·have h:=J (ni s k g);by_cases l:32<=s[k].toNat
   ·by_cases m:s[k].toNat<=126
    ·have a:=J (show pj s[k]=true by simp[pj,l,m])
     go_wp2
     go_round
     case rel=>exact⟨k+1,by omega,by rw[h.out,j.out,a.out];rfl,by go_num⟩
     case measure=>simp[intOf];omega
    have a:=J (show s.data.toList.all pj=false from jW (k+1) (by rw[h.out];simp[pj,m]))
    go_wp2
    go_ret
    exact⟨by rw[d.out,a.out,PE];rfl,(Below.refl _ _).alloc (L5 _) _⟩
   have a:=J (show s.data.toList.all pj=false from jW (k+1) (by rw[h.out];simp[pj,l]))
   go_wp2
   go_ret
   exact⟨by rw[d.out,a.out,PE];rfl,(Below.refl _ _).alloc (L5 _) _⟩
  have a:=J (show s.data.toList.all pj=true by have:=j.out;rwa[Me (by simp;omega)]at this);by_cases f:n=0
  ·subst f;have c:=J (show decide ((s.size:Int)<=64)=be 2 0 s by rw[d.out,a.out];simp;omega)
   go_wp2
   go_ret
   exact⟨by rw[<-c.out];rfl,(Below.refl _ _).alloc (L5 _) _⟩
  have c:=J (show be 2 n s=false by rw[d.out,a.out];simp[f]);have o:(n==0)=false:=by simpa using f
  clear f
  go_wp2
  go_ret
  exact⟨by rw[c.out];rfl,(Below.refl _ _).alloc (L5 _) _⟩
theorem jc(t n:Int)(s:ByteArray)(w:World)(c:s.size<=9223372036854775807):
  Calls Tryz.prog 98 #[.agg #[.int .i64 t,.int .i64 n,.string s]] w fun e w'=>e=.returned (.bool (be t n s))/\Below w.heap.size w w':=by
 by_cases b:t=1
 ·subst b;exact v8 n s w
 by_cases a:t=2
 ·subst a;exact wd n s w c
 exact sR t n s w b a
theorem xZ:∀a b:List UInt8,Op.bytesLess a b=decide (Lib.compareBytes a b<0)
 |[],[]=>by simp[Op.bytesLess,Lib.compareBytes]
 |[],_::_=>by simp[Op.bytesLess,Lib.compareBytes]
 |_::_,[]=>by simp[Op.bytesLess,Lib.compareBytes]
 |x::a,y::b=>by
  have d:=xZ a b;simp only[Op.bytesLess,Lib.compareBytes,OV];by_cases c:x.toNat<y.toNat
  ·simp[c]
  by_cases f:y.toNat<x.toNat
  ·have:¬x=y:=fun e=>by subst e;omega
   simp[c,f,this]
  have:x=y:=O5.1 (by omega);simp[this,d]
theorem Hq{a b:ByteArray}{o:Int}(h:Lib.compareBytes a.data.toList b.data.toList=o):Op.bytesLess a.toList b.toList=decide (o<0):=by
 rw[Lib.toList_data,Lib.toList_data,xZ,h]
theorem Hr{a b:ByteArray}{o:Int}(h:Lib.compareBytes a.data.toList b.data.toList=o):(a.toList==b.toList)=decide (o=0):=by
 rw[Lib.toList_data,Lib.toList_data,O2];simp only[beq_iff_eq,decide_eq_true_eq];rw[<-iP,h]
theorem sS(b d:Int)(c:ByteArray)(g nb:Int)(a:ByteArray)(w:World):
  Calls Tryz.prog 161 #[.agg #[.int .i64 b,.int .i64 d,.string c],.agg #[.int .i64 g,.int .i64 nb,.string a]] w fun e w'=>e=.returned (.int .i64 (gS b d c g nb a))/\Below w.heap.size w w':=by
 rcases dn b g with⟨e,h⟩|⟨e,h⟩|⟨e,h⟩
 ·have f:=J (show gS b d c g nb a= -1 by rw[gS,e,fA (by decide)]);have m:(b==g)=false:=by simp;omega
  have n:(b !=g)=true:=by simp;omega
  clear e
  go_enter Tryz.func161,Tryz.ntmps161
  go_wp2
  go_ret
  exact⟨by rw[f.out];rfl,((Below.refl _ _).alloc (L5 _) _).alloc (by simp) _⟩
 ·subst h;rcases dn d nb with⟨i,h⟩|⟨i,h⟩|⟨i,h⟩
  ·have f:=J (show gS b d c b nb a= -1 by rw[gS,e,i,eQ (by decide)]);have m:(d==nb)=false:=by simp;omega
   have n:(d !=nb)=true:=by simp;omega
   clear e i
   go_enter Tryz.func161,Tryz.ntmps161
   go_wp2
   go_ret
   exact⟨by rw[f.out];rfl,((Below.refl _ _).alloc (L5 _) _).alloc (by simp) _⟩
  ·subst h;obtain⟨o,l⟩:∃o,Lib.compareBytes c.data.toList a.data.toList=o:=⟨_,rfl⟩;have f:=J (show gS b d c b d a=o by rw[gS,e,i,kx,l]);have p:=gl c.data.toList a.data.toList;rw[l]at p;have j:=Hq l;have k:=Hr l;clear e i l;rcases p with rfl|rfl|rfl
   ·replace j:Op.bytesLess c.toList a.toList=true:=j.trans (by decide);replace k:(c.toList==a.toList)=false:=k.trans (by decide)
    go_enter Tryz.func161,Tryz.ntmps161
    go_wp2
    go_ret
    exact⟨by rw[f.out];rfl,((Below.refl _ _).alloc (L5 _) _).alloc (by simp) _⟩
   ·replace j:Op.bytesLess c.toList a.toList=false:=j.trans (by decide);replace k:(c.toList==a.toList)=true:=k.trans (by decide)
    go_enter Tryz.func161,Tryz.ntmps161
    go_wp2
    go_ret
    exact⟨by rw[f.out];rfl,((Below.refl _ _).alloc (L5 _) _).alloc (by simp) _⟩
   replace j:Op.bytesLess c.toList a.toList=false:=j.trans (by decide);replace k:(c.toList==a.toList)=false:=k.trans (by decide)
   go_enter Tryz.func161,Tryz.ntmps161
   go_wp2
   go_ret
   exact⟨by rw[f.out];rfl,((Below.refl _ _).alloc (L5 _) _).alloc (by simp) _⟩
  have f:=J (show gS b d c b nb a=1 by rw[gS,e,i,eQ (by decide)]);have m:(d==nb)=false:=by simp;omega
  have n:(d !=nb)=true:=by simp;omega
  clear e i
  go_enter Tryz.func161,Tryz.ntmps161
  go_wp2
  go_ret
  exact⟨by rw[f.out];rfl,((Below.refl _ _).alloc (L5 _) _).alloc (by simp) _⟩
 have f:=J (show gS b d c g nb a=1 by rw[gS,e,fA (by decide)]);have m:(b==g)=false:=by simp;omega
 have n:(b !=g)=true:=by simp;omega
 clear e
 go_enter Tryz.func161,Tryz.ntmps161
 go_wp2
 go_ret
 exact⟨by rw[f.out];rfl,((Below.refl _ _).alloc (L5 _) _).alloc (by simp) _⟩
theorem tM(A B:Option Addr)(c d:Nat)(l m:List V)(w:World)(h:At w w.heap.size A (co l))(I:At w w.heap.size B (co m))(hl:l.length<=65536)(_hm:m.length<=65536):
  Calls Tryz.prog 93 #[.slice A l.length c,.slice B m.length d] w fun e w'=>e=.returned (.int .i64 (aO l m))/\Below w.heap.size w w':=by
 have U:=J h;have O:=J I;clear h I
 go_enter Tryz.func93,Tryz.ntmps93
 go_wp2
 go_loopw [5] (fun i wr=>∃k:Nat,k<=l.length/\k<=m.length/\i=.int .i64 k/\aO l m=aO (l.drop k) (m.drop k)/\Below w.heap.size w wr) (fun i _=>l.length-(intOf i).toNat)
 case atStart=>exact⟨0,Mx _,Mx _,Z,Z,Below.refl _ _⟩
 case round=>
  obtain⟨k,hk,T,rfl,v,g⟩:=hrel;have u:=J v;have a:=J g;have z:=J (U.out.below g);have D:=J (O.out.below g);have r:=a.out.size;clear v g;by_cases q:k<l.length
  ·by_cases j:k<m.length
   ·obtain⟨b1,o1,rfl,R,L,N,H⟩:=z.out.val q;obtain⟨b2,o2,rfl,X,F,K,E⟩:=D.out.val j;have f:=J (ui l m k q j);obtain⟨x,y⟩:∃x,gd l[k] m[k]=x:=⟨_,rfl⟩;have f:Hid (aO (l.drop k) (m.drop k)=if x=0 then aO (l.drop (k+1)) (m.drop (k+1))else x):=by rw[<-y];exact f
    have G:Hid (∀W:World,Calls Tryz.prog 161 #[.agg #[.int .i64 l[k].t,.int .i64 l[k].n,.string l[k].s],.agg #[.int .i64 m[k].t,.int .i64 m[k].n,.string m[k].s]] W fun e w'=>e=.returned (.int .i64 x)/\Below W.heap.size W w'):=fun W=>by
     have:=sS l[k].t l[k].n l[k].s m[k].t m[k].n m[k].s W;rwa[show gS l[k].t l[k].n l[k].s m[k].t m[k].n m[k].s=x from y]at this
    clear y;have S:(0:Int)<=(k:Int):=by omega
    have Q:(k:Int)<(l.length:Int):=by omega
    have M:(k:Int)<(m.length:Int):=by omega
    by_cases o:x=0
    ·subst o
     go_wp2
     refine wp_region_still_tail 8 (by kernel_rfl) (by kernel_rfl) ?_;simp only[N5,Ou,Of,Nx];change wpStill _ _ wr.drew _ _ _;iterate 8 still_step
     refine wpStill_nil ?_;clear L N H F K E
     go_wp2_with fail
     refine(G.out _).mono ?_;rintro e C ⟨rfl,b⟩;have p:=J (show Below w.heap.size w C from a.out.drew.trans (b.mono (by simpa using r)));clear b
     go_wp2
     go_roundw
     case rel=>exact⟨k+1,by omega,by omega,by go_num,by rw[u.out,f.out];simp,p.out⟩
     case measure=>simp[intOf];omega
    have Y:(x !=0)=true:=by simpa using o
    have P:(x==0)=false:=by simpa using o
    go_wp2
    refine wp_region_still_tail 8 (by kernel_rfl) (by kernel_rfl) ?_;simp only[N5,Ou,Of,Nx];change wpStill _ _ wr.drew _ _ _;iterate 8 still_step
    refine wpStill_nil ?_;clear L N H F K E
    go_wp2_with fail
    refine(G.out _).mono ?_;rintro e C ⟨rfl,b⟩;have p:=J (show Below w.heap.size w C from a.out.drew.trans (b.mono (by simpa using r)));clear b
    go_wp2
    go_ret
    exact⟨by rw[u.out,f.out,if_neg o];rfl,p.out⟩
   have f:=J (show aO (l.drop k) (m.drop k)=1 by
    rw[Md q,Mg (l:=m) (by omega)];rfl)
   go_wp2
   go_ret
   exact⟨by rw[u.out,f.out];rfl,a.out⟩
  by_cases j:k<m.length
  ·have f:=J (show aO (l.drop k) (m.drop k)= -1 by
    rw[Md j,Mg (l:=l) (by omega)];rfl)
   go_wp2
   go_ret
   exact⟨by rw[u.out,f.out];rfl,a.out⟩
  have f:=J (show aO (l.drop k) (m.drop k)=0 by
   rw[Mg (l:=l) (by omega),Mg (l:=m) (by omega)];rfl)
  go_wp2
  go_ret
  exact⟨by rw[u.out,f.out];rfl,a.out⟩
theorem Fs(n:Nat)(h:(ay n).length<=1073741823):Ct 168 [aM n] (aM n):=dW ⟨_,Tryz.func168,Z,Z⟩ (fun _ _ _ i h=>ia i h) fun G w vs _ _ f=>by
 obtain⟨u,rfl,b⟩:=cR f;obtain⟨A,c,rfl,g⟩:=dX b;refine(dl A c (ay n) w g h).mono ?_;rintro e w' ⟨v,rfl,a,d⟩;rw[aI]at a;exact⟨v,Z,a.isD,d⟩
theorem Hs(x y:Nat)(a:(ay x).length<=1073741823)(g:(ay y).length<=1073741823):Ct 101 [aM x,aM y] (iT (eu x y)):=Ct.sc ⟨_,Tryz.func101,Z,Z⟩ fun G w vs _ _ f=>by
 obtain⟨u,v,rfl,b,e⟩:=eL f;obtain⟨A,c,rfl,h⟩:=dX b;obtain⟨B,d,rfl,i⟩:=dX e;have:=qU A B c d (ay x) (ay y) w h i a g;rw[aI,aI]at this;exact this
theorem B4(x y:Nat)(b:(ay x).length<=1073741823)(a:y<=x):Ct 217 [aM x,aM y] (.tup [aM (x-y),bT true]):=⟨⟨_,Tryz.func217,Z,Z⟩,fun G w vs _ m i=>by
 obtain⟨u,v,rfl,g,j⟩:=eL i;obtain⟨A,c,rfl,l⟩:=dX g;obtain⟨B,d,rfl,n⟩:=dX j;have k:(ay y).length<=1073741823:=L6 (aS a) b;have:=vH A B c d (ay x) (ay y) w l n b k (by rw[aI,aI];exact a);rw[aI,aI]at this;refine this.mono ?_;rintro e w' ⟨v,rfl,h,f⟩;exact⟨_,Z,.tup [v,.bool true] _ ((ia (OkG.later m f) h.isD).cons (.sc _ .nil)) .nil,f⟩⟩
theorem Ft(n:Nat)(f:n<18446744073709551616):Ct 102 [.sc (.int .u64 (n:Nat))] (aM n):=dW ⟨_,Tryz.func102,Z,Z⟩ (fun _ _ _ g h=>ia g h) fun G w vs _ _ d=>by
 obtain⟨u,rfl,a⟩:=cR d;cases a;refine(kt n w f).mono ?_;rintro e w' ⟨v,rfl,c,b⟩;exact⟨v,Z,c.isD,b⟩
theorem x3(n:Int)(a: -9223372036854775808<=n)(b:n<=9223372036854775807):Ct 162 [iT n] (aM n.natAbs):=dW ⟨_,Tryz.func162,Z,Z⟩ (fun _ _ _ i h=>ia i h) fun G w vs _ _ f=>by
 obtain⟨u,rfl,g⟩:=cR f;cases g;refine(r8 n w a b).mono ?_;rintro e w' ⟨v,rfl,d,c⟩;exact⟨v,Z,d.isD,c⟩
theorem x4(a:Bool)(N D:Nat)(b:0<D):jX (a&&decide (N≠0)) (N/Nat.gcd N D) (D/Nat.gcd N D)=dp (cF a N D):=by
 unfold dp;rcases M1 N with h|h
 ·subst h;rw[ky,PP,Nat.div_self b];simp
 obtain⟨c,d,e⟩:=pH a h b;rw[c,d,e];simp[show N≠0 by omega]
theorem x5{a:Bool}{N D:Nat}{w:World}{G:Nat->Prop}(j:OkG G w)(g:0<D){e:Ending}{w':World}(h:ku (a&&decide (N≠0)) (N/Nat.gcd N D) (D/Nat.gcd N D) w e w'):∃v,e=.returned v/\PT w' G [v] [dp (cF a N D)]/\Below w.heap.size w w':=by
 obtain⟨c,d,rfl,f,i,b⟩:=h;refine⟨_,Z,?_,b⟩;rw[<-x4 a N D g];exact zV (OkG.later j b) ⟨c,d,Z,f.isD,i.isD⟩
theorem kK(f:Bool)(N D:Nat)(i:(ay N).length<=1048576)(k:(ay D).length<=1048576)(b:0<D):Ct 110 [bT f,aM N,aM D] (dp (cF f N D)):=⟨⟨_,Tryz.func110,Z,Z⟩,fun G w vs _ o l=>by
 obtain⟨a,u,v,rfl,g,j,m⟩:=mc l;cases g;obtain⟨A,c,rfl,n⟩:=dX j;obtain⟨B,d,rfl,p⟩:=dX m;exact(r9 f A B c d N D w n p i k b).mono fun e w' h=>x5 o b h⟩
theorem uF(f:Bool)(N D:Nat)(i:(ay N).length<=1048576)(k:(ay D).length<=1048576)(b:0<D):Ct 48 [jX f N D] (dp (cF f N D)):=⟨⟨_,Tryz.func48,Z,Z⟩,fun G w vs _ o l=>by
 obtain⟨a,rfl,g⟩:=cR l;obtain⟨q,r,rfl,j,m⟩:=pK g;obtain⟨A,c,rfl,n⟩:=j;obtain⟨B,d,rfl,p⟩:=m;exact(oA f A B c d N D w n p i k b).mono fun e w' h=>x5 o b h⟩
theorem ff(q:Rat)(h:Fit 1048576 q):Ct 48 [dp q] (dp q):=by
 have:=uF (decide (q.num<0)) q.num.natAbs q.den h.num h.den q.den_pos;rwa[fd]at this
theorem ly(l m:List V)(a:l.length<=65536)(f:m.length<=65536):Ct 93 [.sl (l.map V.tree),.sl (m.map V.tree)] (iT (aO l m)):=Ct.sc ⟨_,Tryz.func93,Z,Z⟩ fun G w vs _ _ h=>by
 obtain⟨u,x,rfl,e,g⟩:=eL h;obtain⟨A,c,rfl,i,_⟩:=qX e;obtain⟨B,d,rfl,b,_⟩:=qX g;exact tM A B c d l m w i b a f
theorem De(v:V)(a:v.s.size<=9223372036854775807):Ct 98 [v.tree] (bT v.ok):=Ct.sc ⟨_,Tryz.func98,Z,Z⟩ fun G w vs _ _ b=>by
 obtain⟨u,rfl,h⟩:=cR b;rw[zW h];exact jc v.t v.n v.s w a
end Go.Proofs.YtfoejfohbkmmeaaGreatDoor

namespace Go.Proofs.YtfoejfohbkmmeaaGreatDoor
open Go.RowKit
def JQ:Tree:=.agg [.sl [],.sc (.bool false),.sl [],.sl []]
def pR(ts:List Tp)(i:Nat):List Tree:=(ts.take i).map Tp.tree++List.replicate (ts.length-i) JQ
theorem Fu{ts:List Tp}{i:Nat}{t:Tp}(h:ts[i]? =some t):(pR ts i).set i t.tree=pR ts (i+1):=by
 obtain⟨a,rfl⟩:=L7.1 h;unfold pR;have e:((ts.take i).map Tp.tree).length=i:=by simp;omega
 rw[NK (h:=by omega),e,M4,show ts.length-i=(ts.length-(i+1))+1 by omega,N6,Ms,Mq a,Nk,MG];rfl
theorem x6(ts:List Tp){i:Nat}(h:i<=ts.length):(pR ts i).length=ts.length:=by unfold pR;simp;omega
theorem Fv(ts:List Tp){i:Nat}(h:ts.length<=i):pR ts i=ts.map Tp.tree:=by
 unfold pR;rw[Me h,show ts.length-i=0 by omega];simp
theorem bq:qF Tryz.prog 30=some 4:=by kernel_rfl
theorem ij:lM Tryz.prog 28=some (67,4,80):=by kernel_rfl
theorem Jp:(Tryz.prog.info? 24).map (·.size)=some 1:=by kernel_rfl
theorem lz:(Tryz.prog.info? 30).map (·.size)=some 4:=by kernel_rfl
theorem ik:tJ Tryz.prog 30=some ([(0,3),(3,1)],[.string (⟨#[]⟩),.bool false,.slice none 0 0,.slice none 0 0]):=by kernel_rfl
theorem gt:tJ Tryz.prog 67=some ([(0,1),(1,3)],[.slice none 0 0,.bool false,.slice none 0 0,.slice none 0 0]):=by kernel_rfl
theorem im:gc Tryz.prog 30=some [.string (⟨#[]⟩),.bool false,.slice none 0 0,.slice none 0 0]:=by kernel_rfl
theorem uG(t:Tp)(h:FitT t)(a:t.vals.length<=65536):Ct 85 [t.tree] (t.tree):=by
 refine Ct.of (n:=10) Tryz.func85 Z Z Z Z Z fun w0 G0=>?_
 refine ab<|aj 2 Z<|ab<|dH (ops:=[_,_,_,_,_,_,_]) (fu:=8) (bs':=[(67,(bS t)),(67,(bS t))]) [some 3,some 4,some 5,some 6,some 7,some 8,some 9] [.box 0 0,.sl (t.vals.map V.tree),.sl (t.vals.map V.tree),.box 0 1,.agg (aU t.prob),.agg (aU t.prob),.agg (bS t)] (by kernel_rfl) Z Z Z Z Z (by kernel_rfl) (by kernel_rfl) Z Z Z Z Z Z Z Z sy Z Z Z ?_ ?_
 ·refine Chain.op Z (az Z Z b6 Z)<|Chain.op Z (aD Z Z Z cC Z)<|Chain.op Z (ar Z (C5 _ a) Z Z)<|Chain.op Z (az Z Z dY Z)<|Chain.op Z (aJ Z Z Z aN Z Z)<|Chain.op Z (ar Z (su _ h.p) Z Z)<|Chain.op Z (fG Z gt Z Z Z)<|Chain.nil
 refine aC<|⟨.inr Z,_,.cons ⟨_,_,_,_,Z,Z,.inl ⟨_,ez,Z,Z⟩⟩ .nil,Z,Z⟩
theorem Fw(r:Rel)(h:FitR r):Ct 83 [r.tree] (.agg [sT r.sch.name,bT r.sch.cert,.sl (r.sch.cols.map Col.tree),.tl (r.tups.map Tp.tree)]):=by
 refine Ct.of (n:=35) Tryz.func83 Z Z Z Z Z fun w0 G0=>?_
 refine ab<|aj 2 Z<|ab<|iw (sl':=[(0,.agg (aT r)),(1,.box 0 0),(2,.box 1 0)]) ⟨Z,⟨Z,⟨Z,trivial⟩⟩⟩<|fz (fu:=3) [some 6,some 7,some 8,some 9,some 10,some 11,some 12,some 3,none] [5,7,8] [.box 0 0,.agg (dq r.sch),.box 0 3,.sl (r.tups.map Tp.tree),nI r.tups.length,.own 0,.agg [sT r.sch.name,bT r.sch.cert,.sl (r.sch.cols.map Col.tree),.own 0],.any,.any] [⟨[5],[(0,.agg (aT r)),(1,.box 0 0),(2,.box 1 0)],[(30,(aT r)),(30,dS)],[some ⟨67,4,List.replicate r.tups.length JQ,true⟩],[.box 0 0,.agg (dq r.sch),.box 0 3,.sl (r.tups.map Tp.tree),nI r.tups.length,.own 0,.agg [sT r.sch.name,bT r.sch.cert,.sl (r.sch.cols.map Col.tree),.own 0],.any,.any]⟩,⟨[7],[(0,.agg (aT r)),(1,.box 0 0),(2,.box 1 0)],[(30,(aT r)),(30,dS),(30,dS)],[],[.box 0 0,.agg (dq r.sch),.box 0 3,.sl (r.tups.map Tp.tree),nI r.tups.length,.own 0,.agg [sT r.sch.name,bT r.sch.cert,.sl (r.sch.cols.map Col.tree),.own 0],.box 2 0,.any]⟩,⟨[7,5],[(0,.agg (aT r)),(1,.box 0 0),(2,.box 1 0)],[(30,(aT r)),(30,dS),(30,dS)],[some ⟨67,4,List.replicate r.tups.length JQ,true⟩],[.box 0 0,.agg (dq r.sch),.box 0 3,.sl (r.tups.map Tp.tree),nI r.tups.length,.own 0,.agg [sT r.sch.name,bT r.sch.cert,.sl (r.sch.cols.map Col.tree),.own 0],.box 2 0,.any]⟩] ⟨[8,7,5],[(0,.agg (aT r)),(1,.box 0 0),(2,.box 1 0)],[(30,(aT r)),(30,dS),(30,[sT r.sch.name,bT r.sch.cert,.sl (r.sch.cols.map Col.tree),.own 0])],[some ⟨67,4,List.replicate r.tups.length JQ,true⟩],[.box 0 0,.agg (dq r.sch),.box 0 3,.sl (r.tups.map Tp.tree),nI r.tups.length,.own 0,.agg [sT r.sch.name,bT r.sch.cert,.sl (r.sch.cols.map Col.tree),.own 0],.box 2 0,.any]⟩ (by kernel_rfl) Z (by kernel_rfl) (by kernel_rfl) (by kernel_rfl) Z Z ?_ ?_
 ·refine .op [] (by kernel_rfl) ?_ ?_
  ·refine .ok (t:=.box 0 0) (by kernel_rfl) Z Z (az Z Z dZ Z)<|.ok (t:=.box 0 0) (by kernel_rfl) Z Z (az Z Z dZ Z)<|.ok (t:=.box 0 0) (by kernel_rfl) Z Z (az Z Z dZ Z)<|.ok (t:=.box 0 0) (by kernel_rfl) Z Z (az Z Z dZ Z)<|.no (by kernel_rfl)<|.nil
  refine .op [0] (by kernel_rfl) ?_ ?_
  ·refine .ok (t:=.agg (dq r.sch)) (by kernel_rfl) Z Z (aJ Z Z Z eR Z Z)<|.ok (t:=.agg (dq r.sch)) (by kernel_rfl) Z Z (aJ Z Z Z eR Z Z)<|.ok (t:=.agg (dq r.sch)) (by kernel_rfl) Z Z (aJ Z Z Z eR Z Z)<|.ok (t:=.agg (dq r.sch)) (by kernel_rfl) Z Z (aJ Z Z Z eR Z Z)<|.no (by kernel_rfl)<|.nil
  refine .op [] (by kernel_rfl) ?_ ?_
  ·refine .ok (t:=.box 0 3) (by kernel_rfl) Z Z (az Z Z aV Z)<|.no (by kernel_rfl)<|.ok (t:=.box 0 3) (by kernel_rfl) Z Z (az Z Z aV Z)<|.no (by kernel_rfl)<|.no (by kernel_rfl)<|.nil
  refine .op [2] (by kernel_rfl) ?_ ?_
  ·refine .ok (t:=.sl (r.tups.map Tp.tree)) (by kernel_rfl) Z Z (aD Z Z Z bp Z)<|.no (by kernel_rfl)<|.ok (t:=.sl (r.tups.map Tp.tree)) (by kernel_rfl) Z Z (aD Z Z Z bp Z)<|.no (by kernel_rfl)<|.no (by kernel_rfl)<|.nil
  refine .op [3] (by kernel_rfl) ?_ ?_
  ·refine .ok (t:=nI r.tups.length) (by kernel_rfl) Z Z (ah (bd Z aK Z) (by simp only[L8]))<|.no (by kernel_rfl)<|.ok (t:=nI r.tups.length) (by kernel_rfl) Z Z (ah (bd Z aK Z) (by simp only[L8]))<|.no (by kernel_rfl)<|.no (by kernel_rfl)<|.nil
  refine .op [4] (by kernel_rfl) ?_ ?_
  ·refine .wr 1 id (.own 0) (by kernel_rfl) Z Z (Bt (m:=r.tups.length) (zt:=JQ) Z Z Z ij go Z Z (rfl) (rfl) Z (by have:=h.tups;omega) Z Z Z) Z Z Z Z (.k Z (.k Z (.k Z (.k Z (.k Z (.i Z (.k Z (.k Z (.k Z .nil)))))))))<|.no (by kernel_rfl)<|.wr 3 id (.own 0) (by kernel_rfl) Z Z (Bt (m:=r.tups.length) (zt:=JQ) Z Z Z ij go Z Z (rfl) (rfl) Z (by have:=h.tups;omega) Z Z Z) Z Z Z Z (.k Z (.k Z (.k Z (.k Z (.k Z (.i Z (.k Z (.k Z (.k Z .nil)))))))))<|.no (by kernel_rfl)<|.no (by kernel_rfl)<|.nil
  refine .op [1,5] (by kernel_rfl) ?_ ?_
  ·refine .no (by kernel_rfl)<|.ok (t:=.agg [sT r.sch.name,bT r.sch.cert,.sl (r.sch.cols.map Col.tree),.own 0]) (by kernel_rfl) Z Z (fG Z ik Z Z Z)<|.no (by kernel_rfl)<|.ok (t:=.agg [sT r.sch.name,bT r.sch.cert,.sl (r.sch.cols.map Col.tree),.own 0]) (by kernel_rfl) Z Z (fG Z ik Z Z Z)<|.no (by kernel_rfl)<|.nil
  refine .op [] (by kernel_rfl) ?_ ?_
  ·refine .wr 2 id (.box 2 0) (by kernel_rfl) Z Z (iI Z Z Z im Z Z Z Z) Z Z Z Z (.k Z (.k Z (.k Z (.k Z (.k Z (.k Z (.k Z (.i Z (.k Z .nil)))))))))<|.wr 3 id (.box 2 0) (by kernel_rfl) Z Z (iI Z Z Z im Z Z Z Z) Z Z Z Z (.k Z (.k Z (.k Z (.k Z (.k Z (.k Z (.k Z (.i Z (.k Z .nil)))))))))<|.no (by kernel_rfl)<|.no (by kernel_rfl)<|.no (by kernel_rfl)<|.nil
  refine .op [6,7] (by kernel_rfl) ?_ ?_
  ·refine .no (by kernel_rfl)<|.no (by kernel_rfl)<|.no (by kernel_rfl)<|.wr 4 id .any (by kernel_rfl) Z Z (gJ Z Z Z Z Z Z Z Z lz Z Z Z) Z Z Z Z (.k Z (.k Z (.k Z (.k Z (.k Z (.k Z (.k Z (.k Z (.i Z .nil)))))))))<|.no (by kernel_rfl)<|.nil
  exact .nil
 refine ab<|ae<|aa 3 Z<|af Z Z Z (ar Z (uy _ h.cols) Z Z)<|aa 3 Z<|ag<|ab<|ab<|ae<|aa 2 Z<|af (t:=nI r.tups.length) Z Z Z (ah (bd Z aK Z) (by simp only[L8]))<|aa 1 Z<|ag<|aE<|aW (fun g e=>∃(i:Nat),(i<=r.tups.length)/\g=r.tups.length-i/\e=⟨35,[(2,.box 1 0),(3,.box 2 0),(20,.sl (r.tups.map Tp.tree)),(21,nI r.tups.length),(22,nI i)],[(30,(aT r)),(30,dS),(30,[sT r.sch.name,bT r.sch.cert,.sl (r.sch.cols.map Col.tree),.own 0])],[some ⟨67,4,pR r.tups i,true⟩]⟩) 3 1 ⟨0,Mx _,Z,Z⟩ ⟨Z,Z,Z,.cons Z Z (.cons Z Z (.cons Z Z (.cons Z Z (.cons Z Z .nil)))),Z⟩ ?_;rintro g e ⟨i,o,rfl,rfl⟩;have l:=h.tups;have p:(pR r.tups i).length=r.tups.length:=x6 _ o;refine ab<|ae<|af (t:=bT (decide (i<r.tups.length))) Z Z Z (ah (ai Z Z Z Zy) (av (iu i r.tups.length)))<|ag<|ab<|aF Z (fun d=>?_) (fun d=>?_)
 ·refine ax<|ab<|aE<|ab ?_;obtain⟨t,b⟩:∃t,r.tups[i]? =some t:=⟨_,L4 (by omega)⟩;have c:=h.tup t (L9 b);refine ae<|aa 1 Z<|af (t:=.ref (bS t)) Z Z Z (aQ (Tp.tree t) Z aK Z Z Z (bf (f:=Tp.tree) b) (bQ _) Z)<|aa 4 Z<|ag<|iw (sl':=[(2,.box 1 0),(3,.box 2 0),(20,.sl (r.tups.map Tp.tree)),(21,nI r.tups.length),(22,nI i),(23,bT (decide (i<r.tups.length))),(5,.box 3 0),(4,nI i)]) ⟨Z,⟨Z,⟨Z,⟨Z,⟨Z,⟨Z,⟨Z,⟨Z,trivial⟩⟩⟩⟩⟩⟩⟩⟩<|fz (fu:=1) [some 27,some 28,some 29,some 30,some 31,some 32,none] [6] [.box 2 3,.own 0,nI i,.agg (bS t),.agg (bS t),.elp 0 (i*4),.any] [] ⟨[6],[(2,.box 1 0),(3,.box 2 0),(20,.sl (r.tups.map Tp.tree)),(21,nI r.tups.length),(22,nI i),(23,bT (decide (i<r.tups.length))),(5,.box 3 0),(4,nI i)],[(30,(aT r)),(30,dS),(30,[sT r.sch.name,bT r.sch.cert,.sl (r.sch.cols.map Col.tree),.own 0]),(67,(bS t))],[some ⟨67,4,pR r.tups (i+1),true⟩],[.box 2 3,.own 0,nI i,.agg (bS t),.agg (bS t),.elp 0 (i*4),.any]⟩ (by kernel_rfl) Z (by kernel_rfl) (by kernel_rfl) (by kernel_rfl) Z Z ?_ ?_
  ·refine .op [] (by kernel_rfl) ?_ ?_
   ·refine .ok (t:=.box 2 3) (by kernel_rfl) Z Z (az Z Z aV Z)<|.no (by kernel_rfl)<|.nil
   refine .op [0] (by kernel_rfl) ?_ ?_
   ·refine .ok (t:=.own 0) (by kernel_rfl) Z Z (aD Z Z Z bp Z)<|.no (by kernel_rfl)<|.nil
   refine .op [] (by kernel_rfl) ?_ ?_
   ·refine .ok (t:=nI i) (by kernel_rfl) Z Z (aw Z Z)<|.no (by kernel_rfl)<|.nil
   refine .op [] (by kernel_rfl) ?_ ?_
   ·refine .ok (t:=.agg (bS t)) (by kernel_rfl) Z Z (aJ Z Z Z ez Z Z)<|.no (by kernel_rfl)<|.nil
   refine .op [3] (by kernel_rfl) ?_ ?_
   ·refine .ok (t:=.agg (bS t)) (by kernel_rfl) Z Z (ar Z (uG t c.1 c.2) Z Z)<|.no (by kernel_rfl)<|.nil
   refine .op [1,2] (by kernel_rfl) ?_ ?_
   ·refine .ok (t:=.elp 0 (i*4)) (by kernel_rfl) Z Z (gK (j:=i) Z aK Z Z Z Z Z (by show i<(pR r.tups i).length;omega) Z)<|.no (by kernel_rfl)<|.nil
   refine .op [4,5] (by kernel_rfl) ?_ ?_
   ·refine .wr 1 id .any (by kernel_rfl) Z Z (l6 (j:=i) Z Z Z Z Z (by show i<(pR r.tups i).length;rw[x6 _ (by omega)];omega) Z Z Z Z Z sy Z (congrArg (fun a=>[some (⟨67,4,a,true⟩:Row)]) (Fu b))) Z Z Z Z (.k Z (.k Z (.k Z (.k Z (.k Z (.k Z (.i Z .nil)))))))<|.no (by kernel_rfl)<|.nil
   exact .nil
  refine ae<|af (t:=nI (i+1)) Z Z Z (ah (ai Z Z Z Zy) (bu (by omega)))<|aa 1 Z<|ag<|⟨_,_,?_,⟨i+1,?_,Z,Z⟩,⟨Z,Z,Z,.cons Z Z (.cons Z Z (.cons Z Z (.cons Z Z (.cons Z Z .nil)))),Z⟩⟩
  ·omega
  omega
 refine aZ<|ab<|Ev 0 (bs':=[(30,(aT r)),(30,dS),(30,[sT r.sch.name,bT r.sch.cert,.sl (r.sch.cols.map Col.tree),.tl (pR r.tups i)])]) (rs':=[none]) Z Z Z Z Z<|aj 2 Z<|aC<|⟨.inr Z,_,.cons ⟨_,_,_,_,Z,Z,.inl ⟨_,bq,Z,Z⟩⟩ .nil,(congrArg (fun a=>Tree.agg [sT r.sch.name,bT r.sch.cert,.sl (r.sch.cols.map Col.tree),.tl a]) (Fv _ (by omega))),Z⟩
end Go.Proofs.YtfoejfohbkmmeaaGreatDoor
