import Derived.Test.YtfoejfohbkmmeaaGreatDoorP15
import Derived.Test.YtfoejfohbkmmeaaGreatDoorP19
import Derived.Test.YtfoejfohbkmmeaaGreatDoorP00
import Derived.StillTailTactics
import Derived.Test.YtfoejfohbkmmeaaGreatDoorP26
import Derived.Test.YtfoejfohbkmmeaaGreatDoorP20
import Derived.Test.YtfoejfohbkmmeaaGreatDoorP06
import Derived.Test.YtfoejfohbkmmeaaGreatDoorP09
set_option maxRecDepth 100000
set_option maxHeartbeats 4000000
namespace Go.Proofs.YtfoejfohbkmmeaaGreatDoor
open Go.RowKit
open Lib renaming hid→J
theorem AS(n:Int)(w:World):
  Calls Tryz.prog 38 #[.int .i64 n] w fun e w'=>e=.returned (.agg #[.int .i64 1,.int .i64 n,.string ⟨#[]⟩])/\Below w.heap.size w w':=by
 go_enter Tryz.func38,Tryz.ntmps38
 go_wp2
 exact bodyPost_ret (v:=.agg #[.int .i64 1,.int .i64 n,.string ⟨#[]⟩]) (by simp[results,Tryz.results38,go_sem]) Z ⟨Z,(Below.refl _ _).alloc (L4 _) _⟩
theorem AT(s:ByteArray)(w:World):
  Calls Tryz.prog 37 #[.string s] w fun e w'=>e=.returned (.agg #[.int .i64 2,.int .i64 0,.string s])/\Below w.heap.size w w':=by
 go_enter Tryz.func37,Tryz.ntmps37
 go_wp2
 exact bodyPost_ret (v:=.agg #[.int .i64 2,.int .i64 0,.string s]) (by simp[results,Tryz.results37,go_sem]) Z ⟨Z,(Below.refl _ _).alloc (L4 _) _⟩
theorem wM(n:Int)(s:ByteArray)(w:World):
  Calls Tryz.prog 98 #[.agg #[.int .i64 1,.int .i64 n,.string s]] w fun e w'=>e=.returned (.bool (bF 1 n s))/\Below w.heap.size w w':=by
 go_enter Tryz.func98,Tryz.ntmps98
 go_wp2
 go_ret
 exact⟨by simp[bF,Lib.toList_data],(Below.refl _ _).alloc (L4 _) _⟩
theorem s7(t n:Int)(s:ByteArray)(w:World)(b:t≠1)(a:t≠2):
  Calls Tryz.prog 98 #[.agg #[.int .i64 t,.int .i64 n,.string s]] w fun e w'=>e=.returned (.bool (bF t n s))/\Below w.heap.size w w':=by
 have c:=J (show bF t n s=false by simp[bF,b,a]);have d:(t==1)=false:=by simpa using b
 have f:(t==2)=false:=by simpa using a
 clear b a
 go_enter Tryz.func98,Tryz.ntmps98
 go_wp2
 go_ret
 exact⟨by rw[c.out];rfl,(Below.refl _ _).alloc (L4 _) _⟩
theorem wN(n:Int)(s:ByteArray)(w:World)(q:s.size<=9223372036854775807):
  Calls Tryz.prog 98 #[.agg #[.int .i64 2,.int .i64 n,.string s]] w fun e w'=>e=.returned (.bool (bF 2 n s))/\Below w.heap.size w w':=by
 have d:=J (show bF 2 n s=(decide (n=0)&&decide (s.size<=64)&&s.data.toList.all qM) by simp[bF])
 go_enter Tryz.func98,Tryz.ntmps98
 go_wp2
 go_loop [3] (fun i=>∃k:Nat,k<=s.size/\(s.data.toList.take k).all qM=true/\i=.int .i64 k) (fun i=>s.size-(intOf i).toNat)
 case atStart=>exact⟨0,Mp _,by simp,Z⟩
 case round=>
  obtain⟨k,p,b,rfl⟩:=hrel;have l:=J b;clear b;by_cases h:k<s.size
  ·have g:=J (nL s k h);by_cases m:32<=s[k].toNat
   ·by_cases j:s[k].toNat<=126
    ·have a:=J (show qM s[k]=true by simp[qM,m,j])
     go_wp2
     go_round
     case rel=>exact⟨k+1,by omega,by rw[g.out,l.out,a.out];rfl,by go_num⟩
     case measure=>simp[intOf];omega
    have a:=J (show s.data.toList.all qM=false from kp (k+1) (by rw[g.out];simp[qM,j]))
    go_wp2
    go_ret
    exact⟨by rw[d.out,a.out,Pd];rfl,(Below.refl _ _).alloc (L4 _) _⟩
   have a:=J (show s.data.toList.all qM=false from kp (k+1) (by rw[g.out];simp[qM,m]))
   go_wp2
   go_ret
   exact⟨by rw[d.out,a.out,Pd];rfl,(Below.refl _ _).alloc (L4 _) _⟩
  have a:=J (show s.data.toList.all qM=true by have:=l.out;rwa[Me (by simp;omega)]at this);by_cases f:n=0
  ·subst f;have c:=J (show decide ((s.size:Int)<=64)=bF 2 0 s by rw[d.out,a.out];simp;omega)
   go_wp2
   go_ret
   exact⟨by rw[<-c.out];rfl,(Below.refl _ _).alloc (L4 _) _⟩
  have c:=J (show bF 2 n s=false by rw[d.out,a.out];simp[f]);have o:(n==0)=false:=by simpa using f
  clear f
  go_wp2
  go_ret
  exact⟨by rw[c.out];rfl,(Below.refl _ _).alloc (L4 _) _⟩
theorem py(t n:Int)(s:ByteArray)(w:World)(c:s.size<=9223372036854775807):
  Calls Tryz.prog 98 #[.agg #[.int .i64 t,.int .i64 n,.string s]] w fun e w'=>e=.returned (.bool (bF t n s))/\Below w.heap.size w w':=by
 by_cases b:t=1
 ·subst b;exact wM n s w
 by_cases a:t=2
 ·subst a;exact wN n s w c
 exact s7 t n s w b a
theorem yw:∀a b:List UInt8,Op.bytesLess a b=decide (Lib.compareBytes a b<0)
 |[],[]=>by simp[Op.bytesLess,Lib.compareBytes]
 |[],_::_=>by simp[Op.bytesLess,Lib.compareBytes]
 |_::_,[]=>by simp[Op.bytesLess,Lib.compareBytes]
 |x::a,y::b=>by
  have f:=yw a b;simp only[Op.bytesLess,Lib.compareBytes,OV];by_cases c:x.toNat<y.toNat
  ·simp[c]
  by_cases d:y.toNat<x.toNat
  ·have:¬x=y:=fun e=>by subst e;omega
   simp[c,d,this]
  have:x=y:=OL.1 (by omega);simp[this,f]
theorem Iz{a b:ByteArray}{o:Int}(h:Lib.compareBytes a.data.toList b.data.toList=o):Op.bytesLess a.toList b.toList=decide (o<0):=by
 rw[Lib.toList_data,Lib.toList_data,yw,h]
theorem IA{a b:ByteArray}{o:Int}(h:Lib.compareBytes a.data.toList b.data.toList=o):(a.toList==b.toList)=decide (o=0):=by
 rw[Lib.toList_data,Lib.toList_data,OJ];simp only[beq_iff_eq,decide_eq_true_eq];rw[<-ji,h]
theorem s8(a d:Int)(c:ByteArray)(g nb:Int)(b:ByteArray)(w:World):
  Calls Tryz.prog 161 #[.agg #[.int .i64 a,.int .i64 d,.string c],.agg #[.int .i64 g,.int .i64 nb,.string b]] w fun e w'=>e=.returned (.int .i64 (iF a d c g nb b))/\Below w.heap.size w w':=by
 rcases dP a g with⟨e,h⟩|⟨e,h⟩|⟨e,h⟩
 ·have f:=J (show iF a d c g nb b= -1 by rw[iF,e,fK (by decide)]);have m:(a==g)=false:=by simp;omega
  have n:(a !=g)=true:=by simp;omega
  clear e
  go_enter Tryz.func161,Tryz.ntmps161
  go_wp2
  go_ret
  exact⟨by rw[f.out];rfl,((Below.refl _ _).alloc (L4 _) _).alloc (by simp) _⟩
 ·subst h;rcases dP d nb with⟨i,h⟩|⟨i,h⟩|⟨i,h⟩
  ·have f:=J (show iF a d c a nb b= -1 by rw[iF,e,i,eY (by decide)]);have m:(d==nb)=false:=by simp;omega
   have n:(d !=nb)=true:=by simp;omega
   clear e i
   go_enter Tryz.func161,Tryz.ntmps161
   go_wp2
   go_ret
   exact⟨by rw[f.out];rfl,((Below.refl _ _).alloc (L4 _) _).alloc (by simp) _⟩
  ·subst h;obtain⟨o,l⟩:∃o,Lib.compareBytes c.data.toList b.data.toList=o:=⟨_,rfl⟩;have f:=J (show iF a d c a d b=o by rw[iF,e,i,kZ,l]);have p:=gP c.data.toList b.data.toList;rw[l]at p;have j:=Iz l;have k:=IA l;clear e i l;rcases p with rfl|rfl|rfl
   ·replace j:Op.bytesLess c.toList b.toList=true:=j.trans (by decide);replace k:(c.toList==b.toList)=false:=k.trans (by decide)
    go_enter Tryz.func161,Tryz.ntmps161
    go_wp2
    go_ret
    exact⟨by rw[f.out];rfl,((Below.refl _ _).alloc (L4 _) _).alloc (by simp) _⟩
   ·replace j:Op.bytesLess c.toList b.toList=false:=j.trans (by decide);replace k:(c.toList==b.toList)=true:=k.trans (by decide)
    go_enter Tryz.func161,Tryz.ntmps161
    go_wp2
    go_ret
    exact⟨by rw[f.out];rfl,((Below.refl _ _).alloc (L4 _) _).alloc (by simp) _⟩
   replace j:Op.bytesLess c.toList b.toList=false:=j.trans (by decide);replace k:(c.toList==b.toList)=false:=k.trans (by decide)
   go_enter Tryz.func161,Tryz.ntmps161
   go_wp2
   go_ret
   exact⟨by rw[f.out];rfl,((Below.refl _ _).alloc (L4 _) _).alloc (by simp) _⟩
  have f:=J (show iF a d c a nb b=1 by rw[iF,e,i,eY (by decide)]);have m:(d==nb)=false:=by simp;omega
  have n:(d !=nb)=true:=by simp;omega
  clear e i
  go_enter Tryz.func161,Tryz.ntmps161
  go_wp2
  go_ret
  exact⟨by rw[f.out];rfl,((Below.refl _ _).alloc (L4 _) _).alloc (by simp) _⟩
 have f:=J (show iF a d c g nb b=1 by rw[iF,e,fK (by decide)]);have m:(a==g)=false:=by simp;omega
 have n:(a !=g)=true:=by simp;omega
 clear e
 go_enter Tryz.func161,Tryz.ntmps161
 go_wp2
 go_ret
 exact⟨by rw[f.out];rfl,((Below.refl _ _).alloc (L4 _) _).alloc (by simp) _⟩
theorem ud(A B:Option Addr)(c d:Nat)(l m:List V)(w:World)(h:At w w.heap.size A (fN l))(M:At w w.heap.size B (fN m))(hl:l.length<=65536)(_hm:m.length<=65536):
  Calls Tryz.prog 93 #[.slice A l.length c,.slice B m.length d] w fun e w'=>e=.returned (.int .i64 (aX l m))/\Below w.heap.size w w':=by
 have R:=J h;have Q:=J M;clear h M
 go_enter Tryz.func93,Tryz.ntmps93
 go_wp2
 go_loopw [5] (fun i wr=>∃k:Nat,k<=l.length/\k<=m.length/\i=.int .i64 k/\aX l m=aX (l.drop k) (m.drop k)/\Below w.heap.size w wr) (fun i _=>l.length-(intOf i).toNat)
 case atStart=>exact⟨0,Mp _,Mp _,Z,Z,Below.refl _ _⟩
 case round=>
  obtain⟨k,hk,Y,rfl,r,j⟩:=hrel;have u:=J r;have a:=J j;have y:=J (R.out.below j);have C:=J (Q.out.below j);have v:=a.out.size;clear r j;by_cases q:k<l.length
  ·by_cases g:k<m.length
   ·obtain⟨b1,o1,rfl,X,N,I,L⟩:=y.out.val q;obtain⟨b2,o2,rfl,P,G,K,F⟩:=C.out.val g;have f:=J (uA l m k q g);obtain⟨x,z⟩:∃x,gG l[k] m[k]=x:=⟨_,rfl⟩;have f:Hid (aX (l.drop k) (m.drop k)=if x=0 then aX (l.drop (k+1)) (m.drop (k+1))else x):=by rw[<-z];exact f
    have E:Hid (∀W:World,Calls Tryz.prog 161 #[.agg #[.int .i64 l[k].t,.int .i64 l[k].n,.string l[k].s],.agg #[.int .i64 m[k].t,.int .i64 m[k].n,.string m[k].s]] W fun e w'=>e=.returned (.int .i64 x)/\Below W.heap.size W w'):=fun W=>by
     have:=s8 l[k].t l[k].n l[k].s m[k].t m[k].n m[k].s W;rwa[show iF l[k].t l[k].n l[k].s m[k].t m[k].n m[k].s=x from z]at this
    clear z;have T:(0:Int)<=(k:Int):=by omega
    have S:(k:Int)<(l.length:Int):=by omega
    have H:(k:Int)<(m.length:Int):=by omega
    by_cases o:x=0
    ·subst o
     go_wp2
     refine wp_region_still_tail 8 (by kernel_rfl) (by kernel_rfl) ?_;simp only[NR,Ox,Ob,M8];change wpStill _ _ wr.drew _ _ _;iterate 8 still_step
     refine wpStill_nil ?_;clear N I L G K F
     go_wp2_with fail
     refine(E.out _).mono ?_;rintro e D ⟨rfl,b⟩;have p:=J (show Below w.heap.size w D from a.out.drew.trans (b.mono (by simpa using v)));clear b
     go_wp2
     go_roundw
     case rel=>exact⟨k+1,by omega,by omega,by go_num,by rw[u.out,f.out];simp,p.out⟩
     case measure=>simp[intOf];omega
    have O:(x !=0)=true:=by simpa using o
    have U:(x==0)=false:=by simpa using o
    go_wp2
    refine wp_region_still_tail 8 (by kernel_rfl) (by kernel_rfl) ?_;simp only[NR,Ox,Ob,M8];change wpStill _ _ wr.drew _ _ _;iterate 8 still_step
    refine wpStill_nil ?_;clear N I L G K F
    go_wp2_with fail
    refine(E.out _).mono ?_;rintro e D ⟨rfl,b⟩;have p:=J (show Below w.heap.size w D from a.out.drew.trans (b.mono (by simpa using v)));clear b
    go_wp2
    go_ret
    exact⟨by rw[u.out,f.out,if_neg o];rfl,p.out⟩
   have f:=J (show aX (l.drop k) (m.drop k)=1 by
    rw[Mc q,Md (l:=m) (by omega)];rfl)
   go_wp2
   go_ret
   exact⟨by rw[u.out,f.out];rfl,a.out⟩
  by_cases g:k<m.length
  ·have f:=J (show aX (l.drop k) (m.drop k)= -1 by
    rw[Mc g,Md (l:=l) (by omega)];rfl)
   go_wp2
   go_ret
   exact⟨by rw[u.out,f.out];rfl,a.out⟩
  have f:=J (show aX (l.drop k) (m.drop k)=0 by
   rw[Md (l:=l) (by omega),Md (l:=m) (by omega)];rfl)
  go_wp2
  go_ret
  exact⟨by rw[u.out,f.out];rfl,a.out⟩
theorem F2(n:Nat)(h:(ax n).length<=1073741823):Ct 168 [aH n] (aH n):=eU ⟨_,Tryz.func168,Z,Z⟩ (fun _ _ _ f h=>fO f h) fun G w vs _ _ b=>by
 obtain⟨u,rfl,d⟩:=dp b;obtain⟨A,c,rfl,i⟩:=dQ d;refine(dN A c (ax n) w i h).mono ?_;rintro e w' ⟨v,rfl,a,g⟩;rw[aO]at a;exact⟨v,Z,a.isD,g⟩
theorem Cu(x y:Nat)(f:(ax x).length<=1073741823)(e:(ax y).length<=1073741823):Ct 101 [aH x,aH y] (iT (eo x y)):=Ct.sc ⟨_,Tryz.func101,Z,Z⟩ fun G w vs _ _ a=>by
 obtain⟨u,v,rfl,h,b⟩:=d5 a;obtain⟨A,c,rfl,i⟩:=dQ h;obtain⟨B,d,rfl,g⟩:=dQ b;have:=rA A B c d (ax x) (ax y) w i g f e;rw[aO,aO]at this;exact this
theorem Cv(x y:Nat)(b:(ax x).length<=1073741823)(a:y<=x):Ct 217 [aH x,aH y] (.tup [aH (x-y),bT true]):=⟨⟨_,Tryz.func217,Z,Z⟩,fun G w vs _ i g=>by
 obtain⟨u,v,rfl,h,j⟩:=d5 g;obtain⟨A,c,rfl,n⟩:=dQ h;obtain⟨B,d,rfl,l⟩:=dQ j;have k:(ax y).length<=1073741823:=Ma (a7 a) b;have:=wv A B c d (ax x) (ax y) w n l b k (by rw[aO,aO];exact a);rw[aO,aO]at this;refine this.mono ?_;rintro e w' ⟨v,rfl,m,f⟩;exact⟨_,Z,.tup [v,.bool true] _ ((fO (OkG.later i f) m.isD).cons (.sc _ .nil)) .nil,f⟩⟩
theorem mE(n:Nat)(f:n<18446744073709551616):Ct 102 [.sc (.int .u64 (n:Nat))] (aH n):=eU ⟨_,Tryz.func102,Z,Z⟩ (fun _ _ _ c h=>fO c h) fun G w vs _ _ a=>by
 obtain⟨u,rfl,b⟩:=dp a;cases b;refine(kV n w f).mono ?_;rintro e w' ⟨v,rfl,g,d⟩;exact⟨v,Z,g.isD,d⟩
theorem yx(n:Int)(f: -9223372036854775808<=n)(b:n<=9223372036854775807):Ct 162 [iT n] (aH n.natAbs):=eU ⟨_,Tryz.func162,Z,Z⟩ (fun _ _ _ c h=>fO c h) fun G w vs _ _ a=>by
 obtain⟨u,rfl,d⟩:=dp a;cases d;refine(sr n w f b).mono ?_;rintro e w' ⟨v,rfl,i,g⟩;exact⟨v,Z,i.isD,g⟩
theorem Cw(n:Nat)(h:(ax n).length<=1048576)(a:(Lib.decDigits n).length<=1073741824):Ct 100 [aH n] (.sc (.string ⟨(Lib.decDigits n).toArray⟩)):=Ct.sc ⟨_,Tryz.func100,Z,Z⟩ fun G w vs _ _ b=>by
 obtain⟨u,rfl,d⟩:=dp b;obtain⟨A,c,rfl,e⟩:=dQ d;have:=sq A c (ax n) w e h (by rw[aO];exact a);rw[aO]at this;exact this
theorem yy(ng:Bool)(N D:Nat)(a:0<D):jX (ng&&decide (N≠0)) (N/Nat.gcd N D) (D/Nat.gcd N D)=dt (dH ng N D):=by
 unfold dt;rcases M1 N with h|h
 ·subst h;rw[mx,PN,Nat.div_self a];simp
 obtain⟨c,b,d⟩:=qg ng h a;rw[c,b,d];simp[show N≠0 by omega]
theorem yz{ng:Bool}{N D:Nat}{w:World}{G:Nat->Prop}(b:OkG G w)(c:0<D){e:Ending}{w':World}(h:kW (ng&&decide (N≠0)) (N/Nat.gcd N D) (D/Nat.gcd N D) w e w'):∃v,e=.returned v/\PT w' G [v] [dt (dH ng N D)]/\Below w.heap.size w w':=by
 obtain⟨g,f,rfl,i,d,a⟩:=h;refine⟨_,Z,?_,a⟩;rw[<-yy ng N D c];exact JT (OkG.later b a) ⟨g,f,Z,i.isD,d.isD⟩
theorem io(ng:Bool)(N D:Nat)(k:(ax N).length<=1048576)(i:(ax D).length<=1048576)(b:0<D):Ct 110 [bT ng,aH N,aH D] (dt (dH ng N D)):=⟨⟨_,Tryz.func110,Z,Z⟩,fun G w vs _ g f=>by
 obtain⟨a,u,v,rfl,l,n,j⟩:=o7 f;cases l;obtain⟨A,c,rfl,o⟩:=dQ n;obtain⟨B,d,rfl,m⟩:=dQ j;exact(su ng A B c d N D w o m k i b).mono fun e w' h=>yz g b h⟩
theorem DK(ng:Bool)(N D:Nat)(k:(ax N).length<=1048576)(i:(ax D).length<=1048576)(b:0<D):Ct 48 [jX ng N D] (dt (dH ng N D)):=⟨⟨_,Tryz.func48,Z,Z⟩,fun G w vs _ g f=>by
 obtain⟨a,rfl,l⟩:=dp f;obtain⟨q,p,rfl,n,j⟩:=JS l;obtain⟨A,c,rfl,o⟩:=n;obtain⟨B,d,rfl,m⟩:=j;exact(oZ ng A B c d N D w o m k i b).mono fun e w' h=>yz g b h⟩
theorem eP(q:Rat)(h:Fit 1048576 q):Ct 48 [dt q] (dt q):=by
 have:=DK (decide (q.num<0)) q.num.natAbs q.den h.num h.den q.den_pos;rwa[ei]at this
theorem lT(l m:List V)(h:l.length<=65536)(b:m.length<=65536):Ct 93 [.sl (l.map V.tree),.sl (m.map V.tree)] (iT (aX l m)):=Ct.sc ⟨_,Tryz.func93,Z,Z⟩ fun G w vs _ _ a=>by
 obtain⟨u,x,rfl,i,f⟩:=d5 a;obtain⟨A,c,rfl,g,_⟩:=rD i;obtain⟨B,d,rfl,e,_⟩:=rD f;exact ud A B c d l m w g e h b
theorem DL(v:V)(b:v.s.size<=9223372036854775807):Ct 98 [v.tree] (bT v.ok):=Ct.sc ⟨_,Tryz.func98,Z,Z⟩ fun G w vs _ _ a=>by
 obtain⟨u,rfl,h⟩:=dp a;rw[wH h];exact py v.t v.n v.s w b
end Go.Proofs.YtfoejfohbkmmeaaGreatDoor

namespace Go.Proofs.YtfoejfohbkmmeaaGreatDoor
open Go.RowKit
def Ky:Tree:=.agg [.sl [],.sc (.bool false),.sl [],.sl []]
def qp(ts:List Tp)(i:Nat):List Tree:=(ts.take i).map Tp.tree++List.replicate (ts.length-i) Ky
theorem F3{ts:List Tp}{i:Nat}{t:Tp}(h:ts[i]? =some t):(qp ts i).set i t.tree=qp ts (i+1):=by
 obtain⟨a,rfl⟩:=L6.1 h;unfold qp;have e:((ts.take i).map Tp.tree).length=i:=by simp;omega
 rw[NK (h:=by omega),e,M2,show ts.length-i=(ts.length-(i+1))+1 by omega,OG,NO,Mx a,MX,Mv];rfl
theorem yA(ts:List Tp){i:Nat}(h:i<=ts.length):(qp ts i).length=ts.length:=by unfold qp;simp;omega
theorem F4(ts:List Tp){i:Nat}(h:ts.length<=i):qp ts i=ts.map Tp.tree:=by
 unfold qp;rw[Me h,show ts.length-i=0 by omega];simp
theorem bj:rj Tryz.prog 30=some 4:=by kernel_rfl
theorem iM:kM Tryz.prog 28=some (67,4,80):=by kernel_rfl
theorem J8:(Tryz.prog.info? 24).map (·.size)=some 1:=by kernel_rfl
theorem oe:(Tryz.prog.info? 30).map (·.size)=some 4:=by kernel_rfl
theorem lU:ua Tryz.prog 30=some ([(0,3),(3,1)],[.string (⟨#[]⟩),.bool false,.slice none 0 0,.slice none 0 0]):=by kernel_rfl
theorem fZ:ua Tryz.prog 67=some ([(0,1),(1,3)],[.slice none 0 0,.bool false,.slice none 0 0,.slice none 0 0]):=by kernel_rfl
theorem j4:gz Tryz.prog 30=some [.string (⟨#[]⟩),.bool false,.slice none 0 0,.slice none 0 0]:=by kernel_rfl
theorem uU(t:Tp)(h:FitT t)(a:t.vals.length<=65536):Ct 85 [t.tree] (t.tree):=by
 refine Ct.of (n:=10) Tryz.func85 Z Z Z Z Z fun w0 G0=>?_
 refine ab<|aj 2 Z<|ab<|dI (ops:=[_,_,_,_,_,_,_]) (fu:=8) (bs':=[(67,(bV t)),(67,(bV t))]) [some 3,some 4,some 5,some 6,some 7,some 8,some 9] [.box 0 0,.sl (t.vals.map V.tree),.sl (t.vals.map V.tree),.box 0 1,.agg (bf t.prob),.agg (bf t.prob),.agg (bV t)] (by kernel_rfl) Z Z Z Z Z (by kernel_rfl) (by kernel_rfl) Z Z Z Z Z Z Z Z n5 Z Z Z ?_ ?_
 ·refine Chain.op Z (av Z Z b9 Z)<|Chain.op Z (aA Z Z Z cU Z)<|Chain.op Z (ak Z (DB _ a) Z Z)<|Chain.op Z (av Z Z ep Z)<|Chain.op Z (aP Z Z Z aI Z Z)<|Chain.op Z (ak Z (sH _ h.p) Z Z)<|Chain.op Z (g8 Z fZ Z Z Z)<|Chain.nil
 refine aw<|⟨.inr Z,_,.cons ⟨_,_,_,_,Z,Z,.inl ⟨_,di,Z,Z⟩⟩ .nil,Z,Z⟩
theorem F5(r:Rel)(h:FitR r):Ct 83 [r.tree] (.agg [sT r.sch.name,bT r.sch.cert,.sl (r.sch.cols.map Col.tree),.tl (r.tups.map Tp.tree)]):=by
 refine Ct.of (n:=35) Tryz.func83 Z Z Z Z Z fun w0 G0=>?_
 refine ab<|aj 2 Z<|ab<|hH (sl':=[(0,.agg (aV r)),(1,.box 0 0),(2,.box 1 0)]) ⟨Z,⟨Z,⟨Z,trivial⟩⟩⟩<|ff (fu:=3) [some 6,some 7,some 8,some 9,some 10,some 11,some 12,some 3,none] [5,7,8] [.box 0 0,.agg (dj r.sch),.box 0 3,.sl (r.tups.map Tp.tree),nI r.tups.length,.own 0,.agg [sT r.sch.name,bT r.sch.cert,.sl (r.sch.cols.map Col.tree),.own 0],.any,.any] [⟨[5],[(0,.agg (aV r)),(1,.box 0 0),(2,.box 1 0)],[(30,(aV r)),(30,eD)],[some ⟨67,4,List.replicate r.tups.length Ky,true⟩],[.box 0 0,.agg (dj r.sch),.box 0 3,.sl (r.tups.map Tp.tree),nI r.tups.length,.own 0,.agg [sT r.sch.name,bT r.sch.cert,.sl (r.sch.cols.map Col.tree),.own 0],.any,.any]⟩,⟨[7],[(0,.agg (aV r)),(1,.box 0 0),(2,.box 1 0)],[(30,(aV r)),(30,eD),(30,eD)],[],[.box 0 0,.agg (dj r.sch),.box 0 3,.sl (r.tups.map Tp.tree),nI r.tups.length,.own 0,.agg [sT r.sch.name,bT r.sch.cert,.sl (r.sch.cols.map Col.tree),.own 0],.box 2 0,.any]⟩,⟨[7,5],[(0,.agg (aV r)),(1,.box 0 0),(2,.box 1 0)],[(30,(aV r)),(30,eD),(30,eD)],[some ⟨67,4,List.replicate r.tups.length Ky,true⟩],[.box 0 0,.agg (dj r.sch),.box 0 3,.sl (r.tups.map Tp.tree),nI r.tups.length,.own 0,.agg [sT r.sch.name,bT r.sch.cert,.sl (r.sch.cols.map Col.tree),.own 0],.box 2 0,.any]⟩] ⟨[8,7,5],[(0,.agg (aV r)),(1,.box 0 0),(2,.box 1 0)],[(30,(aV r)),(30,eD),(30,[sT r.sch.name,bT r.sch.cert,.sl (r.sch.cols.map Col.tree),.own 0])],[some ⟨67,4,List.replicate r.tups.length Ky,true⟩],[.box 0 0,.agg (dj r.sch),.box 0 3,.sl (r.tups.map Tp.tree),nI r.tups.length,.own 0,.agg [sT r.sch.name,bT r.sch.cert,.sl (r.sch.cols.map Col.tree),.own 0],.box 2 0,.any]⟩ (by kernel_rfl) Z (by kernel_rfl) (by kernel_rfl) (by kernel_rfl) Z Z ?_ ?_
 ·refine .opp [] (.okk Z (av Z Z fy Z)<|.okk Z (av Z Z fy Z)<|.okk Z (av Z Z fy Z)<|.okk Z (av Z Z fy Z)<|.fin)<|.opp [0] (.okk Z (aP Z Z Z eI Z Z)<|.okk Z (aP Z Z Z eI Z Z)<|.okk Z (aP Z Z Z eI Z Z)<|.okk Z (aP Z Z Z eI Z Z)<|.fin)<|.opp [] (.okk Z (av Z Z bd Z)<|.no (by kernel_rfl)<|.okk Z (av Z Z bd Z)<|.fin)<|.opp [2] (.okk Z (aA Z Z Z bJ Z)<|.no (by kernel_rfl)<|.okk Z (aA Z Z Z bJ Z)<|.fin)<|.opp [3] (.okk Z (ah (aZ Z aN Z) (by simp only[L5]))<|.no (by kernel_rfl)<|.okk Z (ah (aZ Z aN Z) (by simp only[L5]))<|.fin)<|.opp [4] (.wr 1 id (.own 0) (by kernel_rfl) Z Z (BS (m:=r.tups.length) (zt:=Ky) Z Z Z iM fV Z Z (rfl) (rfl) Z (by have:=h.tups;omega) Z Z Z) Z Z Z Z (.k Z (.k Z (.k Z (.k Z (.k Z (.i Z (.k Z (.k Z (.k Z .nil)))))))))<|.no (by kernel_rfl)<|.wr 3 id (.own 0) (by kernel_rfl) Z Z (BS (m:=r.tups.length) (zt:=Ky) Z Z Z iM fV Z Z (rfl) (rfl) Z (by have:=h.tups;omega) Z Z Z) Z Z Z Z (.k Z (.k Z (.k Z (.k Z (.k Z (.i Z (.k Z (.k Z (.k Z .nil)))))))))<|.fin)<|.opp [1,5] (.no (by kernel_rfl)<|.okk Z (g8 Z lU Z Z Z)<|.no (by kernel_rfl)<|.okk Z (g8 Z lU Z Z Z)<|.fin)<|.opp [] (.wr 2 id (.box 2 0) (by kernel_rfl) Z Z (i7 Z Z Z j4 Z Z Z Z) Z Z Z Z (.k Z (.k Z (.k Z (.k Z (.k Z (.k Z (.k Z (.i Z (.k Z .nil)))))))))<|.wr 3 id (.box 2 0) (by kernel_rfl) Z Z (i7 Z Z Z j4 Z Z Z Z) Z Z Z Z (.k Z (.k Z (.k Z (.k Z (.k Z (.k Z (.k Z (.i Z (.k Z .nil)))))))))<|.fin)<|.opp [6,7] (.nos 3<|.wr 4 id .any (by kernel_rfl) Z Z (gE Z Z Z Z Z Z Z Z oe Z Z Z) Z Z Z Z (.k Z (.k Z (.k Z (.k Z (.k Z (.k Z (.k Z (.k Z (.i Z .nil)))))))))<|.fin)<|.nil
 refine ab<|ae<|aa 3 Z<|af Z Z Z (ak Z (uN _ h.cols) Z Z)<|aa 3 Z<|ag<|ab<|ab<|ae<|aa 2 Z<|af (t:=nI r.tups.length) Z Z Z (ah (aZ Z aN Z) (by simp only[L5]))<|aa 1 Z<|ag<|aB<|aR (fun e g=>∃(i:Nat),(i<=r.tups.length)/\e=r.tups.length-i/\g=⟨35,[(2,.box 1 0),(3,.box 2 0),(20,.sl (r.tups.map Tp.tree)),(21,nI r.tups.length),(22,nI i)],[(30,(aV r)),(30,eD),(30,[sT r.sch.name,bT r.sch.cert,.sl (r.sch.cols.map Col.tree),.own 0])],[some ⟨67,4,qp r.tups i,true⟩]⟩) 3 1 ⟨0,Mp _,Z,Z⟩ .rf ?_;rintro e g ⟨i,p,rfl,rfl⟩;have l:=h.tups;have o:(qp r.tups i).length=r.tups.length:=yA _ p;refine ab<|ae<|af (t:=bT (decide (i<r.tups.length))) Z Z Z (ah (ai Z Z Z Zy) (ar (gA i r.tups.length)))<|ag<|ab<|aD Z (fun d=>?_) (fun d=>?_)
 ·refine am<|ab<|aB<|ab ?_;obtain⟨t,b⟩:∃t,r.tups[i]? =some t:=⟨_,L3 (by omega)⟩;have c:=h.tup t (L7 b);refine ae<|aa 1 Z<|af (t:=.ref (bV t)) Z Z Z (aM (Tp.tree t) Z aN Z Z Z (aS (f:=Tp.tree) b) (bS _) Z)<|aa 4 Z<|ag<|hH (sl':=[(2,.box 1 0),(3,.box 2 0),(20,.sl (r.tups.map Tp.tree)),(21,nI r.tups.length),(22,nI i),(23,bT (decide (i<r.tups.length))),(5,.box 3 0),(4,nI i)]) ⟨Z,⟨Z,⟨Z,⟨Z,⟨Z,⟨Z,⟨Z,⟨Z,trivial⟩⟩⟩⟩⟩⟩⟩⟩<|ff (fu:=1) [some 27,some 28,some 29,some 30,some 31,some 32,none] [6] [.box 2 3,.own 0,nI i,.agg (bV t),.agg (bV t),.elp 0 (i*4),.any] [] ⟨[6],[(2,.box 1 0),(3,.box 2 0),(20,.sl (r.tups.map Tp.tree)),(21,nI r.tups.length),(22,nI i),(23,bT (decide (i<r.tups.length))),(5,.box 3 0),(4,nI i)],[(30,(aV r)),(30,eD),(30,[sT r.sch.name,bT r.sch.cert,.sl (r.sch.cols.map Col.tree),.own 0]),(67,(bV t))],[some ⟨67,4,qp r.tups (i+1),true⟩],[.box 2 3,.own 0,nI i,.agg (bV t),.agg (bV t),.elp 0 (i*4),.any]⟩ (by kernel_rfl) Z (by kernel_rfl) (by kernel_rfl) (by kernel_rfl) Z Z ?_ ?_
  ·refine .opp [] (.okk Z (av Z Z bd Z)<|.fin)<|.opp [0] (.okk Z (aA Z Z Z bJ Z)<|.fin)<|.opp [] (.okk Z (au Z Z)<|.fin)<|.opp [] (.okk Z (aP Z Z Z di Z Z)<|.fin)<|.opp [3] (.okk Z (ak Z (uU t c.1 c.2) Z Z)<|.fin)<|.opp [1,2] (.okk Z (ia (j:=i) Z aN Z Z Z Z Z (by show i<(qp r.tups i).length;omega) Z)<|.fin)<|.opp [4,5] (.wr 1 id .any (by kernel_rfl) Z Z (mr (j:=i) Z Z Z Z Z (by show i<(qp r.tups i).length;rw[yA _ (by omega)];omega) Z Z Z Z Z n5 Z (congrArg (fun a=>[some (⟨67,4,a,true⟩:Row)]) (F3 b))) Z Z Z Z (.k Z (.k Z (.k Z (.k Z (.k Z (.k Z (.i Z .nil)))))))<|.fin)<|.nil
  refine ae<|af (t:=nI (i+1)) Z Z Z (ah (ai Z Z Z Zy) (bi (by omega)))<|aa 1 Z<|ag<|⟨_,_,?_,⟨i+1,?_,Z,Z⟩,.rf⟩
  ·omega
  omega
 refine aT<|ab<|E7 0 (bs':=[(30,(aV r)),(30,eD),(30,[sT r.sch.name,bT r.sch.cert,.sl (r.sch.cols.map Col.tree),.tl (qp r.tups i)])]) (rs':=[none]) Z Z Z Z Z<|aj 2 Z<|aw<|⟨.inr Z,_,.cons ⟨_,_,_,_,Z,Z,.inl ⟨_,bj,Z,Z⟩⟩ .nil,(congrArg (fun a=>Tree.agg [sT r.sch.name,bT r.sch.cert,.sl (r.sch.cols.map Col.tree),.tl a]) (F4 _ (by omega))),Z⟩
end Go.Proofs.YtfoejfohbkmmeaaGreatDoor
