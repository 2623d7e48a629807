import Derived.Test.YtfoejfohbkmmeaaGreatDoorP11
import Derived.Test.YtfoejfohbkmmeaaGreatDoorP14
import Derived.Deep.QuietTactic
import Derived.BigQuiet
import Derived.Test.YtfoejfohbkmmeaaGreatDoorP00
import Derived.Test.YtfoejfohbkmmeaaGreatDoorP10
import Derived.StillTailTactics
import Derived.Test.YtfoejfohbkmmeaaGreatDoorP02
import Derived.Laws.BitsAllLaws
import Derived.Laws.Bits64
import Derived.Test.YtfoejfohbkmmeaaGreatDoorP13
import Derived.Test.YtfoejfohbkmmeaaGreatDoorP01
set_option maxRecDepth 100000
set_option maxHeartbeats 8000000
namespace Go.Proofs.YtfoejfohbkmmeaaGreatDoor
open Go.RowKit
open Lib renaming hid→J
theorem Ah(A B:Option Addr)(ca cb:Nat)(f a:List Nat)(w:World)(h:IsN w A ca f)(h':IsN w B cb a)(hl:f.length<=1048576)(e5:a.length<=1048576):
  Calls Tryz.prog 158 #[.slice A f.length ca,.slice B a.length cb] w (NatPost (ay f*ay a) w):=by
 have b5:=J h;have X:=J h';clear h h';obtain⟨W,u,c0,c2,d1⟩:=eO w (f.length+a.length) (by omega);have u:=u .i64 .i64;have d0:=J c0;have c9:=J c2;have a2:w.heap.size<W.heap.size:=by omega
 clear c0 c2 d1;rw[show((f.length+a.length:Nat):Int)=(f.length:Int)+(a.length:Int) by omega]at u
 go_enter Tryz.func158,Tryz.ntmps158
 go_wp2
 clear u
 go_loopw [6] (fun i wr=>MulInv w (f.length+a.length) f a i wr) (fun i _=>f.length-(intOf i).toNat)
 case atStart=>exact⟨0,List.replicate a.length 0,Mp _,Z,by simp,jS _,by rw[O7,Pu,show a.length+f.length=f.length+a.length by omega];exact d0.out,by simp[kz,ay],c9.out,a2⟩
 case round=>
  obtain⟨k,b,hk,rfl,a0,c3,o,a3,a5,M⟩:=hrel;have Y:=J o;have T:=J a3;have H:=J a5;have l:=J a0;have I:=J c3;clear o a3 a5 a0 c3;by_cases q:k<f.length
  ·obtain⟨bx,ox,rfl,P,b0⟩:=b5.out.digit q;have cx:=b0 k q;have C:=b5.out.lt q;obtain⟨x,hx⟩:∃x,f[k]=x:=⟨_,rfl⟩;rw[hx]at cx C;have HX:=J hx;have CX:=J cx;have e0:=J P;clear b0 hx cx P
   go_wp2
   go_loopw [7,8] (fun cr j wi=>MuliInv w (f.length+a.length) k x b f a cr j wi) (fun _ j _=>a.length-(intOf j).toNat)
   case atStart=>
    refine⟨0,0,b.take k,Mp _,Z,Z,by omega,?_,fun d V=>I.out d (ME V),?_,by simp[ay],H.out,M⟩
    ·rw[Mf,l.out];omega
    rw[Nk,<-Mv,M4];exact Y.out
   case round=>
    rename World=>wi
    obtain⟨m,c,lo,hm,rfl,rfl,hc,O,S,b3,c4,a4,a1⟩:=hrel;have g:=J b3;have R:=J c4;have v:=J a4;have s:=J O;have a9:=J S;clear b3 c4 a4 O S;by_cases t:m<a.length
    ·obtain⟨e3,oy,rfl,e6,b2⟩:=(X.out.below v.out).digit t;have cy:=b2 m t;have cx:=(v.out.cell (p:=⟨bx,ox+k,none⟩) e0.out).trans CX.out;have E:=X.out.lt t;obtain⟨y,hy⟩:∃y,a[m]=y:=⟨_,rfl⟩;rw[hy]at cy E;have HY:=J hy;have K:k+m<b.length:=by have:=l.out;omega
     obtain⟨h1,h2⟩:=B9 (tl:=List.replicate (f.length-k) 0) s.out K;have z:=g.out.cell h1;rw[h2]at z;have e1:=g.out.free (k+m);have G:b[k+m]<4294967296:=I.out _ (M7 K);obtain⟨d,V⟩:∃d,b[k+m]=d:=⟨_,rfl⟩;rw[V]at z G;have HD:=J (show∃h:k+m<b.length,b[k+m]=d from⟨K,V⟩);obtain⟨d4,c5⟩:=wA C E G hc;obtain⟨N,r⟩:∃N,x*y=N:=⟨_,rfl⟩;have b1:(x:Int)*(y:Int)=(N:Int):=by rw[<-r];simp
     rw[r]at d4 c5;have L:=J r;clear b2 hy h1 h2 V r;have q1:IntKind.i64.wrap ((k:Int)+(m:Int))=(k:Int)+(m:Int):=by rw[Np];omega
     have q2:(0:Int)<=(k:Int)+(m:Int):=by omega
     have q3:((k:Int)+(m:Int)).toNat=k+m:=by omega
     have q4:(k:Int)+(m:Int)<((f.length+a.length:Nat):Int):=by omega
     have q5:IntKind.u64.wrap (d:Int)=(d:Int):=by rw[IntKind.wrap_u64];omega
     have q6:IntKind.u64.wrap (x:Int)=(x:Int):=by rw[IntKind.wrap_u64];omega
     have q7:IntKind.u64.wrap (y:Int)=(y:Int):=by rw[IntKind.wrap_u64];omega
     have q8:IntKind.u64.wrap ((c:Int)+(d:Int))=(c:Int)+(d:Int):=by rw[IntKind.wrap_u64];omega
     have q9:IntKind.u64.wrap ((x:Int)*(y:Int))=(N:Int):=by rw[b1,IntKind.wrap_u64];omega
     have e4:IntKind.u64.wrap ((c:Int)+(d:Int)+(N:Int))=(c:Int)+(d:Int)+(N:Int):=by rw[IntKind.wrap_u64];omega
     have e2:(m:Int)<(a.length:Int):=by omega
     have e7:(k:Int)<(f.length:Int):=by omega
     go_wp2
     go_quiet (fail)
     go_wp2
     go_roundw
     case rel=>exact MuliInv.next Z q l.out t s.out a9.out g.out R.out HY.out HD.out (bh v.out) a1 (by rw[L.out];omega) (by rw[L.out];omega) (by omega) (by rw[L.out];omega)
     case measure=>simp[intOf];omega
    obtain rfl:m=a.length:=by omega
    have n:k+a.length<(lo++(b.drop (k+a.length)++List.replicate (f.length-k) 0)).length:=by have:=s.out;simp;omega
    have z:=g.out.cell n;have e1:=g.out.free (k+a.length);obtain⟨old,F⟩:∃old,(lo++(b.drop (k+a.length)++List.replicate (f.length-k) 0))[k+a.length]=old:=⟨_,rfl⟩;rw[F]at z;clear F n
    go_wp2
    go_roundw
    case rel=>exact MulInv.next Z q l.out T.out HX.out s.out a9.out hc g.out R.out v.out a1 (by omega) (by omega)
    case measure=>simp[intOf];omega
  obtain rfl:k=f.length:=by omega
  have o:OwnN wr w.heap.size (.slice (some ⟨w.heap.size,0,none⟩) (f.length+a.length) (f.length+a.length)) b:=by have:=Y.out;rwa[M2,NI,Mq]at this
  obtain⟨h4,h5⟩:=o.isN I.out;have D:ay b=ay f*ay a:=by have h1:=T.out;rwa[M6]at h1
  have Q:b.length<=1073741823:=by have:=l.out;omega
  have hT:=dN _ _ b wr h4 Q;rw[D,<-h5]at hT;have HT:=J hT;clear o h4 h5 D hT
  go_wp2_with fail
  refine HT.out.mono ?_;rintro e w5 ⟨v5,rfl,U,c1⟩;have d3:=J (U.base_le (Qq M));have d2:=J (aE H.out c1 (Qq M));clear U c1
  go_wp2
  go_ret
  exact⟨v5,Z,d3.out,d2.out⟩
def iF(ta na:Int)(sa:ByteArray)(tb nb:Int)(sb:ByteArray):Int:=zC (eo ta tb) (eo na nb) (Lib.compareBytes sa.data.toList sb.data.toList)
theorem xR(a b:Int)(d:ByteArray)(f nb:Int)(c:ByteArray)(w:World):
  Calls Tryz.prog 124 #[.agg #[.int .i64 a,.int .i64 b,.string d],.agg #[.int .i64 f,.int .i64 nb,.string c]] w fun e w'=>e=.returned (.int .i64 (iF a b d f nb c))/\Below w.heap.size w w':=by
 obtain⟨W,h,i,g,o,n,m,q,l,p⟩:=LA w 77 (.int .i64 a) (.int .i64 b) (.string d) (.int .i64 f) (.int .i64 nb) (.string c);have j:=J h;clear h;have k:=J g;clear g
 go_enter Tryz.func124,Tryz.ntmps124
 go_wp2
 rw[j.out];refine wp_region_still_tail 15 (by kernel_rfl) (by kernel_rfl) ?_;simp only[NR,Ox,Ob,M8];change wpStill _ _ W.drew _ _ _;iterate 4 still_step
 still_call (Ja (zY _ _ _))
 iterate 4 still_step
 still_call (Ja (wt _ _ _))
 iterate 4 still_step
 still_call (Tryz.strings_Compare _ _ _)
 refine wpStill_nil ?_
 go_wp2_with (go_at_call 185;refine(JD _ _ (eo a f) (eo b nb) (Lib.compareBytes d.data.toList c.data.toList) _ (by simp[go_sem]) (by simp[go_sem]) (by simp[go_sem])).mono ?_;rintro e w' ⟨rfl,rfl⟩)
 go_ret
 exact⟨Z,(i.alloc i.size _).drew⟩
def qM(c:UInt8):Bool:=decide (32<=c.toNat/\c.toNat<=126)
def bF(t n:Int)(s:ByteArray):Bool:=
 if t=1 then s.data.toList.isEmpty else decide (t=2)&&decide (n=0)&&decide (s.size<=64)&&s.data.toList.all qM
theorem nL(s:ByteArray)(k:Nat)(h:k<s.size):(s.data.toList.take (k+1)).all qM=((s.data.toList.take k).all qM&&qM s[k]):=by
 rw[Mx (by simpa using h),NH];simp;rfl
theorem kp{l:List UInt8}(k:Nat)(h:(l.take k).all qM=false):l.all qM=false:=by
 rw[PM]at h⊢;obtain⟨x,a,b⟩:=h;exact⟨x,ME a,b⟩
theorem Dl(n:Int)(s:ByteArray)(w:World):
  Calls Tryz.prog 104 #[.agg #[.int .i64 1,.int .i64 n,.string s]] w fun e w'=>e=.returned (.bool (bF 1 n s))/\Below w.heap.size w w':=by
 go_enter Tryz.func104,Tryz.ntmps104
 go_wp2
 go_ret
 exact⟨by simp[bF,Lib.toList_data],(Below.refl _ _).alloc (L4 _) _⟩
theorem xS(t n:Int)(s:ByteArray)(w:World)(b:t≠1)(a:t≠2):
  Calls Tryz.prog 104 #[.agg #[.int .i64 t,.int .i64 n,.string s]] w fun e w'=>e=.returned (.bool (bF t n s))/\Below w.heap.size w w':=by
 have c:=J (show bF t n s=false by simp[bF,b,a]);have d:(t==1)=false:=by simpa using b
 have g:(t !=2)=true:=by simpa using a
 have f:(t==2)=false:=by simpa using a
 clear b a
 go_enter Tryz.func104,Tryz.ntmps104
 go_wp2
 go_ret
 exact⟨by rw[c.out];rfl,(Below.refl _ _).alloc (L4 _) _⟩
theorem Dm(n:Int)(s:ByteArray)(w:World)(h:n≠0):
  Calls Tryz.prog 104 #[.agg #[.int .i64 2,.int .i64 n,.string s]] w fun e w'=>e=.returned (.bool (bF 2 n s))/\Below w.heap.size w w':=by
 have a:=J (show bF 2 n s=false by simp[bF,h]);have b:(n==0)=false:=by simpa using h
 have c:(n !=0)=true:=by simpa using h
 clear h
 go_enter Tryz.func104,Tryz.ntmps104
 go_wp2
 go_ret
 exact⟨by rw[a.out];rfl,(Below.refl _ _).alloc (L4 _) _⟩
theorem Ai(s:ByteArray)(w:World)(h:64<s.size):
  Calls Tryz.prog 104 #[.agg #[.int .i64 2,.int .i64 0,.string s]] w fun e w'=>e=.returned (.bool (bF 2 0 s))/\Below w.heap.size w w':=by
 have a:=J (show bF 2 0 s=false by simp[bF];omega)
 go_enter Tryz.func104,Tryz.ntmps104
 go_wp2
 go_ret
 exact⟨by rw[a.out];rfl,(Below.refl _ _).alloc (L4 _) _⟩
theorem Dn(s:ByteArray)(w:World)(h:s.size<=64):
  Calls Tryz.prog 104 #[.agg #[.int .i64 2,.int .i64 0,.string s]] w fun e w'=>e=.returned (.bool (bF 2 0 s))/\Below w.heap.size w w':=by
 have c:=J (show bF 2 0 s=s.data.toList.all qM by simp[bF,h])
 go_enter Tryz.func104,Tryz.ntmps104
 go_wp2
 go_loop [3] (fun i=>∃k:Nat,k<=s.size/\(s.data.toList.take k).all qM=true/\i=.int .i64 k) (fun i=>s.size-(intOf i).toNat)
 case atStart=>exact⟨0,Mp _,by simp,Z⟩
 case round=>
  obtain⟨k,m,a,rfl⟩:=hrel;have j:=J a;clear a;by_cases d:k<s.size
  ·have f:=J (nL s k d);by_cases l:32<=s[k].toNat
   ·by_cases g:s[k].toNat<=126
    ·have b:=J (show qM s[k]=true by simp[qM,l,g])
     go_wp2
     go_round
     case rel=>exact⟨k+1,by omega,by rw[f.out,j.out,b.out];rfl,by go_num⟩
     case measure=>simp[intOf];omega
    have b:=J (show s.data.toList.all qM=false from kp (k+1) (by rw[f.out];simp[qM,g]))
    go_wp2
    go_ret
    exact⟨by rw[c.out,b.out];rfl,(Below.refl _ _).alloc (L4 _) _⟩
   have b:=J (show s.data.toList.all qM=false from kp (k+1) (by rw[f.out];simp[qM,l]))
   go_wp2
   go_ret
   exact⟨by rw[c.out,b.out];rfl,(Below.refl _ _).alloc (L4 _) _⟩
  have b:=J (show s.data.toList.all qM=true by have:=j.out;rwa[Me (by simp;omega)]at this)
  go_wp2
  go_ret
  exact⟨by rw[c.out,b.out];rfl,(Below.refl _ _).alloc (L4 _) _⟩
theorem gn(t n:Int)(s:ByteArray)(w:World):
  Calls Tryz.prog 104 #[.agg #[.int .i64 t,.int .i64 n,.string s]] w fun e w'=>e=.returned (.bool (bF t n s))/\Below w.heap.size w w':=by
 by_cases c:t=1
 ·subst c;exact Dl n s w
 by_cases b:t=2
 ·subst b;by_cases d:n=0
  ·subst d;rcases MA 64 s.size with a|a
   ·exact Ai s w a
   exact Dn s w a
  exact Dm n s w d
 exact xS t n s w c b
def V.ok(v:V):Bool:=bF v.t v.n v.s
theorem xT(a b:Int):eo b a= -eo a b:=by
 by_cases h:a<b
 ·rw[gM h,m0 h];rfl
 by_cases c:b<a
 ·rw[gM c,m0 c]
 rw[kk h c,kk c h];rfl
theorem dP(a b:Int):eo a b= -1/\a<b\/eo a b=0/\a=b\/eo a b=1/\b<a:=by
 by_cases h:a<b
 ·exact .inl ⟨gM h,h⟩
 by_cases c:b<a
 ·exact .inr (.inr ⟨m0 c,c⟩)
 exact .inr (.inl ⟨kk h c,by omega⟩)
theorem fK{a b c:Int}(h:a≠0):zC a b c=a:=by simp[zC,h]
theorem eY{b c:Int}(h:b≠0):zC 0 b c=b:=by simp[zC,h]
theorem kZ(c:Int):zC 0 0 c=c:=by simp[zC]
theorem Fo(a c:Int)(f:ByteArray)(b nb:Int)(d:ByteArray):iF b nb d a c f= -iF a c f b nb d:=by
 have i:=xT a b;have g:=xT c nb;have h:=kU f.data.toList d.data.toList;unfold iF;rw[i,g,h];rcases dP a b with⟨e,_⟩|⟨e,_⟩|⟨e,_⟩<;>rw[e]
 ·simp[zC]
 ·rcases dP c nb with⟨e,_⟩|⟨e,_⟩|⟨e,_⟩<;>rw[e]<;>simp[zC]
 simp[zC]
theorem Aj(a b:Int)(d:ByteArray)(f nb:Int)(c:ByteArray): -1<=iF a b d f nb c/\iF a b d f nb c<=1:=by
 have g:=gP d.data.toList c.data.toList;unfold iF;rcases dP a f with⟨e,_⟩|⟨e,_⟩|⟨e,_⟩<;>rw[e]
 ·simp[zC]
 ·rcases dP b nb with⟨e,_⟩|⟨e,_⟩|⟨e,_⟩<;>rw[e]<;>simp[zC]
  omega
 simp[zC]
theorem H9(d f:Int)(c:ByteArray)(g nb:Int)(b:ByteArray):iF d f c g nb b=0↔d=g/\f=nb/\c=b:=by
 have j:=ji c.data.toList b.data.toList;have i:c.data.toList=b.data.toList↔c=b:=⟨fun h=>by rw[<-jv c,<-jv b,h],fun h=>by rw[h]⟩;unfold iF;rcases dP d g with⟨e,h⟩|⟨e,h⟩|⟨e,h⟩<;>rw[e]
 ·rw[fK (by decide)];constructor
  ·intro a;omega
  rintro⟨a,_⟩;omega
 ·rcases dP f nb with⟨e,a⟩|⟨e,a⟩|⟨e,a⟩<;>rw[e]
  ·rw[eY (by decide)];constructor
   ·intro a;omega
   rintro⟨_,a,_⟩;omega
  ·rw[kZ,j,i];exact⟨fun x=>⟨h,a,x⟩,fun x=>x.2.2⟩
  rw[eY (by decide)];constructor
  ·intro a;omega
  rintro⟨_,a,_⟩;omega
 rw[fK (by decide)];constructor
 ·intro a;omega
 rintro⟨a,_⟩;omega
theorem Ak(d f:Int)(p:ByteArray)(i nb:Int)(o:ByteArray)(b nc:Int)(sc:ByteArray)(l:iF d f p i nb o<=0)(e:iF i nb o b nc sc<=0):iF d f p b nc sc<=0:=by
 have q:=jT p.data.toList o.data.toList sc.data.toList;unfold iF at*;rcases dP d i with⟨m,h⟩|⟨m,h⟩|⟨m,h⟩
 ·rcases dP i b with⟨c,k⟩|⟨c,k⟩|⟨c,k⟩
  ·rw[gM (show d<b by omega),fK (by decide)];omega
  ·rw[gM (show d<b by omega),fK (by decide)];omega
  rw[c,fK (by decide)]at e;omega
 ·rcases dP i b with⟨c,k⟩|⟨c,k⟩|⟨c,k⟩
  ·rw[gM (show d<b by omega),fK (by decide)];omega
  ·rw[show eo d b=0 from kk (by omega) (by omega)];rw[m]at l;rw[c]at e;rcases dP f nb with⟨n,g⟩|⟨n,g⟩|⟨n,g⟩
   ·rcases dP nb nc with⟨a,j⟩|⟨a,j⟩|⟨a,j⟩
    ·rw[gM (show f<nc by omega),eY (by decide)];omega
    ·rw[gM (show f<nc by omega),eY (by decide)];omega
    rw[a,eY (by decide)]at e;omega
   ·rcases dP nb nc with⟨a,j⟩|⟨a,j⟩|⟨a,j⟩
    ·rw[gM (show f<nc by omega),eY (by decide)];omega
    ·rw[show eo f nc=0 from kk (by omega) (by omega),kZ];rw[n,kZ]at l;rw[a,kZ]at e;exact q l e
    rw[a,eY (by decide)]at e;omega
   rw[n,eY (by decide)]at l;omega
  rw[c,fK (by decide)]at e;omega
 rw[m,fK (by decide)]at l;omega
def gG(a b:V):Int:=iF a.t a.n a.s b.t b.n b.s
def aX:List V->List V->Int
 |[],[]=>0
 |[],_::_=> -1
 |_::_,[]=>1
 |a::l,b::m=>if gG a b=0 then aX l m else gG a b
theorem uA(l m:List V)(k:Nat)(a:k<l.length)(b:k<m.length):aX (l.drop k) (m.drop k)=if gG l[k] m[k]=0 then aX (l.drop (k+1)) (m.drop (k+1))else gG l[k] m[k]:=by
 rw[Mc a,Mc b,aX]
theorem rm(A B:Option Addr)(c d:Nat)(l m:List V)(w:World)(h:At w w.heap.size A (fN l))(Q:At w w.heap.size B (fN m))(hl:l.length<=65536)(_hm:m.length<=65536):
  Calls Tryz.prog 123 #[.slice A l.length c,.slice B m.length d,.func (.func 124) #[] #[]] w fun e w'=>e=.returned (.int .i64 (aX l m))/\Below w.heap.size w w':=by
 have X:=J h;have U:=J Q;clear h Q
 go_enter Tryz.func123,Tryz.ntmps123
 go_wp2
 go_loopw [13] (fun i wr=>∃k:Nat,k<=l.length/\k<=m.length/\i=.int .i64 k/\aX l m=aX (l.drop k) (m.drop k)/\Below w.heap.size w wr) (fun i _=>l.length-(intOf i).toNat)
 case atStart=>exact⟨0,Mp _,Mp _,Z,Z,Below.refl _ _⟩
 case round=>
  obtain⟨k,hk,a1,rfl,v,j⟩:=hrel;have C:=J v;have a:=J j;have E:=J (X.out.below j);have L:=J (U.out.below j);clear v j;by_cases u:k<l.length
  ·obtain⟨b1,o1,rfl,a0,R,O,P⟩:=E.out.val u;by_cases g:k<m.length
   ·obtain⟨H,F,rfl,T,K,M,I⟩:=L.out.val g;have p:=a.out.size;have y:∀o:Obj,(wr.alloc o).cell? ⟨H,F+k*3,none⟩=some (.int .i64 m[k].t):=fun o=>(World.cell?_alloc_lt wr o _ (by simp;omega)).trans K
    have D:∀o:Obj,(wr.alloc o).cell? ⟨H,F+k*3+1,none⟩=some (.int .i64 m[k].n):=fun o=>(World.cell?_alloc_lt wr o _ (by simp;omega)).trans M
    have z:∀o:Obj,(wr.alloc o).cell? ⟨H,F+k*3+2,none⟩=some (.string m[k].s):=fun o=>(World.cell?_alloc_lt wr o _ (by simp;omega)).trans I
    have f:=J (uA l m k u g);obtain⟨x,G⟩:∃x,gG l[k] m[k]=x:=⟨_,rfl⟩;have f:Hid (aX (l.drop k) (m.drop k)=if x=0 then aX (l.drop (k+1)) (m.drop (k+1))else x):=by rw[<-G];exact f
    have N:Hid (∀W:World,Calls Tryz.prog 124 #[.agg #[.int .i64 l[k].t,.int .i64 l[k].n,.string l[k].s],.agg #[.int .i64 m[k].t,.int .i64 m[k].n,.string m[k].s]] W fun e w'=>e=.returned (.int .i64 x)/\Below W.heap.size W w'):=fun W=>by
     have:=xR l[k].t l[k].n l[k].s m[k].t m[k].n m[k].s W;rwa[show iF l[k].t l[k].n l[k].s m[k].t m[k].n m[k].s=x from G]at this
    clear G;by_cases q:x=0
    ·subst q
     go_wp2_with fail
     clear K M I y D z R O P;refine(N.out _).mono ?_;rintro e w1 ⟨rfl,b⟩;have r:=J b;clear b
     go_wp2
     go_roundw
     case rel=>
      refine⟨k+1,by omega,by omega,by go_num,by rw[C.out,f.out];simp,?_⟩;exact(((a.out.alloc p _).alloc (by simp;omega) _).trans (r.out.mono (by simp;omega)))
     case measure=>simp[intOf];omega
    have S:(x !=0)=true:=by simpa using q
    have Y:(x==0)=false:=by simpa using q
    go_wp2_with fail
    clear K M I y D z R O P;refine(N.out _).mono ?_;rintro e w1 ⟨rfl,b⟩;have r:=J b;clear b
    go_wp2
    go_ret
    exact⟨by rw[C.out,f.out,if_neg q];rfl,(((a.out.alloc p _).alloc (by simp;omega) _).trans (r.out.mono (by simp;omega)))⟩
   have f:=J (show aX (l.drop k) (m.drop k)=1 by
    rw[Mc u,Md (l:=m) (by omega)];rfl)
   have p:=a.out.size
   go_wp2
   go_ret
   exact⟨by rw[C.out,f.out];rfl,a.out.alloc p _⟩
  by_cases g:k<m.length
  ·have f:=J (show aX (l.drop k) (m.drop k)= -1 by
    rw[Mc g,Md (l:=l) (by omega)];rfl)
   go_wp2
   go_ret
   exact⟨by rw[C.out,f.out];rfl,a.out⟩
  have f:=J (show aX (l.drop k) (m.drop k)=0 by
   rw[Md (l:=l) (by omega),Md (l:=m) (by omega)];rfl)
  go_wp2
  go_ret
  exact⟨by rw[C.out,f.out];rfl,a.out⟩
theorem Al(A B:Option Addr)(c d:Nat)(l m:List V)(w:World)(h:At w w.heap.size A (fN l))(a:At w w.heap.size B (fN m))(i:l.length<=65536)(b:m.length<=65536):
  Calls Tryz.prog 64 #[.slice A l.length c,.slice B m.length d] w fun e w'=>e=.returned (.int .i64 (aX l m))/\Below w.heap.size w w':=by
 have f:=J (rm A B c d l m w h a i b);clear h a
 go_enter Tryz.func64,Tryz.ntmps64
 go_wp2_with fail
 refine f.out.mono ?_;rintro e w' ⟨rfl,g⟩
 go_wp2
 go_ret
 exact⟨Z,g⟩
end Go.Proofs.YtfoejfohbkmmeaaGreatDoor
namespace Go.Proofs.YtfoejfohbkmmeaaGreatDoor
theorem mw(l:List Nat)(k:Nat)(a:k<=l.length):ay l=ay (l.take k)+4294967296^k*ay (l.drop k):=by
 have h:=eT (l.take k) (l.drop k);rw[M4,Mf,Ns a]at h;exact h
theorem jU(l:List Nat)(k:Nat)(a:k<l.length):ay (l.drop k)=l[k]+4294967296*ay (l.drop (k+1)):=by
 rw[Mc a,ay]
theorem Ao(l:List Nat)(k:Nat)(a:k<l.length):ay (l.take (k+1))=ay (l.take k)+4294967296^k*l[k]:=by
 rw[Mx a,eT,Mf,Ns (by omega)];simp[ay]
theorem Digs.take{l:List Nat}(h:Digs l)(k:Nat):Digs (l.take k):=fun d a=>h d (ME a)
theorem Digs.drop{l:List Nat}(h:Digs l)(k:Nat):Digs (l.drop k):=fun d a=>h d (Nd a)
theorem Digs.get{l:List Nat}(h:Digs l)(k:Nat)(a:k<l.length):l[k]<4294967296:=h _ (M7 a)
theorem Ap{X V P c b f d e a g r:Nat}(n:X=(a*4294967296+d)*P+e)(j:e<P)(k:V=(c*4294967296+b)*P+f)(l:a=g*c+r)(h:r*4294967296+d<g*b):X<g*V:=by
 have o:a*4294967296+d+1<=g*(c*4294967296+b):=by
  rw[l,MB,M5,<-Mu];omega
 have i:(a*4294967296+d+1)*P<=g*(c*4294967296+b)*P:=ML _ o;have m:g*V=g*(c*4294967296+b)*P+g*f:=by rw[k,MB,Mu]
 rw[m,n];rw[M5 _ 1]at i;omega
theorem Aq{X V P b c d e n a g r:Nat}(q:X=(a*4294967296+e)*P+n)(j:V=(b*4294967296+c)*P+d)(o:d<P)(l:0<b)(m:a=g*b+r)(h:g*c<=r*4294967296+e)(u:g<4294967296):g<=X/V+1:=by
 have i:g*(b*4294967296+c)<=a*4294967296+e:=by
  rw[m,MB,M5,<-Mu];omega
 have s:g*(b*4294967296+c)*P<=(a*4294967296+e)*P:=ML _ i;have v:g*V=g*(b*4294967296+c)*P+g*d:=by rw[j,MB,Mu]
 have p:g*d<=4294967295*P:=NY (by omega) (by omega);have t:4294967296*P<=(b*4294967296+c)*P:=ML _ (by omega);have f:0<V:=by omega
 have k:g*V<X+V:=by omega
 cases g with
 |zero=>exact Mp _
 |succ g=>
  rw[M5,Ol]at k;have:g<=X/V:=(Qa f).2 (by omega);omega
structure Guess (us vs:List Nat) (n:Nat):Prop where
 n2:2<=n
 lu:us.length=n+1
 lv:vs.length=n
 du:Digs us
 dv:Digs vs
 top:∀h:n-1<vs.length,2147483648<=vs[n-1]
 lt:ay us<4294967296*ay vs
def Fp(X V v1 top g r:Nat):Prop:=top=g*v1+r/\r<4294967296/\X/V<=g
theorem Guess.parts{us vs:List Nat}{n:Nat}(h:Guess us vs n)(v:n<us.length)(r:n-1<us.length)(s:n-2<us.length)(t:n-1<vs.length)(u:n-2<vs.length):
  ay us=((us[n]*4294967296+us[n-1])*4294967296+us[n-2])*4294967296^(n-2)+ay (us.take (n-2))/\ay (us.take (n-2))<4294967296^(n-2)/\
  ay vs=(vs[n-1]*4294967296+vs[n-2])*4294967296^(n-2)+ay (vs.take (n-2))/\ay (vs.take (n-2))<4294967296^(n-2):=by
 have x:=h.n2;have i:=h.lu;have j:=h.lv;have f:=mw us (n-2) (by omega);have w:=jU us (n-2) (by omega);have m:=jU us (n-2+1) (by omega);have d:=jU us (n-2+1+1) (by omega);have e:us.drop (n-2+1+1+1)=[]:=Md (by omega);have g:=mw vs (n-2) (by omega);have q:=jU vs (n-2) (by omega);have a:=jU vs (n-2+1) (by omega);have k:vs.drop (n-2+1+1)=[]:=Md (by omega);rw[e,ay]at d;rw[k,ay]at a;have o:us[n-2+1]'(by omega)=us[n-1]:=getElem_congr_idx (by omega);have l:us[n-2+1+1]'(by omega)=us[n]:=getElem_congr_idx (by omega);have p:vs[n-2+1]'(by omega)=vs[n-1]:=getElem_congr_idx (by omega);rw[l]at d;rw[o]at m;rw[p]at a;have b:=b8 (us.take (n-2)) (h.du.take _);have c:=b8 (vs.take (n-2)) (h.dv.take _);rw[Mf,Ns (by omega)]at b c;refine⟨?_,b,?_,c⟩
 ·rw[f,Mt (4294967296^(n-2)),NW];congr 2;omega
 rw[g,Mt (4294967296^(n-2)),NW];congr 2;omega
theorem Guess.first{us vs:List Nat}{n:Nat}(h:Guess us vs n)(g:n<us.length)(e:n-1<vs.length):us[n]<=vs[n-1]:=by
 have q:=h.n2;have j:=h.lu;have i:=h.lv;obtain⟨c,_,o,p⟩:=h.parts g (by omega) (by omega) e (by omega);have k:=h.lt;have d:=h.dv.get (n-2) (by omega);have f:0<4294967296^(n-2):=NF (by decide);generalize m:4294967296^(n-2)=P at*;generalize us[n]=u0 at*;generalize us[n-1]'(by omega)=u1 at*;generalize us[n-2]'(by omega)=u2 at*;generalize vs[n-1]'(by omega)=v1 at*;generalize vs[n-2]'(by omega)=v2 at*;rcases MA v1 u0 with a|a
 ·exfalso;have b:(v1*4294967296+v2+1)*P<=(u0*4294967296)*P:=ML _ (by omega);have l:4294967296*((u0*4294967296)*P)<=ay us:=by
   rw[c,<-Mu];have:4294967296*(u0*4294967296)*P<=((u0*4294967296+u1)*4294967296+u2)*P:=ML _ (by omega);omega
  rw[M5 _ 1,Ol]at b;have:ay vs<(u0*4294967296)*P:=by omega
  omega
 exact a
theorem uB{u lo bo:Nat}(e:u<4294967296)(d:lo<4294967296)(c:bo<=1):∃b a:Nat,((u:Int)-lo-bo)%18446744073709551616%4294967296=(b:Int)/\((u:Int)-lo-bo)%18446744073709551616/9223372036854775808=(a:Int)/\b<4294967296/\a<=1/\b+lo+bo=u+a*4294967296:=by
 by_cases h:lo+bo<=u
 ·exact⟨u-lo-bo,0,by omega,by omega,by omega,by omega,by omega⟩
 exact⟨u+4294967296-lo-bo,1,by omega,by omega,by omega,by omega,by omega⟩
theorem Dp{A V U c bo f d u b e a t lo P:Nat}(h:A+f*V=U+(c+bo)*P)(o:t=f*d+c)(j:t=lo+4294967296*e)(m:b+lo+bo=u+a*4294967296):
  (A+P*b)+f*(V+P*d)=(U+P*u)+(e+a)*(P*4294967296):=by
 have g:b+f*d+c+bo=u+(e+a)*4294967296:=by omega
 have n:P*(b+f*d+c+bo)=P*(u+(e+a)*4294967296):=by rw[g]
 have l:P*(b+f*d+c+bo)=P*b+P*(f*d)+(c+bo)*P:=by rw[show b+f*d+c+bo=b+f*d+(c+bo) by omega,MB,MB,Mt P (c+bo)]
 have k:P*(u+(e+a)*4294967296)=P*u+(e+a)*(P*4294967296):=by rw[MB,<-Mu,Mt P (e+a),Mu]
 have i:f*(V+P*d)=f*V+P*(f*d):=by rw[MB,NM]
 rw[i];omega
theorem Dq{A V U c d u t P:Nat}(h:A+c*P=U+V)(a:t=u+d+c):(A+P*(t%4294967296))+t/4294967296*(P*4294967296)=(U+P*u)+(V+P*d):=by
 have e:P*(t%4294967296)+t/4294967296*(P*4294967296)=P*t:=by
  rw[<-Mu,Mt (t/4294967296) P,Mu,<-MB];congr 1;omega
 have b:P*t=P*u+P*d+c*P:=by rw[a,MB,MB,Mt c P]
 omega
theorem Dr{X V g s:Nat}(a:0<V)(f:X/V<=g)(d:g<=X/V+1)(h:s+g*V=X):g=X/V/\s=X%V:=by
 have b:=Oa X V;have c:=Ni X a;have e:g<=X/V:=(Qa a).2 (by omega);obtain rfl:g=X/V:=by omega
 rw[Mt V]at b;exact⟨Z,by omega⟩
theorem Ds{X V M g s t k:Nat}(c:0<V)(a:V<=M)(j:X/V<=g)(l:g<=X/V+1)(n:s<M)(h:s+g*V=X+M)(o:t<M)(m:t+k*M=s+V):g=X/V+1/\t=X%V:=by
 have f:=Oa X V;have i:=Ni X c;have b:X<g*V:=by omega
 have d:g≠X/V:=fun e=>by
  rw[e,Mt]at b;omega
 obtain rfl:g=X/V+1:=by omega
 rw[M5,Ol,Mt _ V]at h;have e:t+k*M=X%V+M:=by omega
 refine⟨Z,?_⟩
 match k with
 |0=>omega
 |1=>omega
 |k+2=>
  exfalso;rw[M5]at e;omega
def shr(n:Nat):List Nat->List Nat
 |[]=>[]
 |d::l=>(d/2^n+l.headD 0%2^n*2^(32-n))::shr n l
theorem gQ(n:Nat):∀l,(shr n l).length=l.length
 |[]=>rfl
 |d::l=>by simp[shr,gQ n l]
theorem sx{n:Nat}(h:n<32):2^n*2^(32-n)=4294967296:=by
 rw[<-NZ,show n+(32-n)=32 by omega]
theorem Dt{n:Nat}(h:n<32)(l:List Nat):ay l%2^n=l.headD 0%2^n:=by
 cases l with
 |nil=>simp[ay]
 |cons d l=>
  have e:=sx h;simp only[ay,List.headD_cons];rw[<-e,Mu,O6]
theorem Ca{n:Nat}(h:n<32):∀l,ay (shr n l)=ay l/2^n
 |[]=>by simp[shr,ay]
 |d::l=>by
  have a:0<2^n:=NF (by decide);have e:=sx h;simp only[shr,ay];rw[Ca h l,<-Dt h l];generalize ay l=M;rw[<-e,show d+2^n*2^(32-n)*M=d+2^n*(2^(32-n)*M) by rw[Mu],Pz _ _ a];have b:=Oa M (2^n);have:2^(32-n)*M=M%2^n*2^(32-n)+2^n*2^(32-n)*(M/2^n):=by
   conv=>lhs;rw[<-b,MB]
   rw[NW,Mt (2^(32-n)) (M%2^n),Mt (2^n) (2^(32-n)),Mu]
  omega
theorem xU{n:Nat}(h:n<32):∀l,Digs l->Digs (shr n l)
 |[],_=>fun d c=>by simp[shr]at c
 |d::l,hl=>fun x a=>by
  have b:0<2^n:=NF (by decide);have e:=sx h;rcases Mi.1 a with rfl|a
  ·have i:d<4294967296:=hl d (Ml ..);have j:d/2^n<2^(32-n):=by
    rw[Nt b,Mt,e];exact i
   have g:(l.headD 0%2^n+1)*2^(32-n)<=2^n*2^(32-n):=ML _ (Ni _ b);rw[M5,Ol,e]at g;omega
  exact xU h l (fun y f=>hl y (Ms _ f)) x a
theorem wC(n:Nat):∀(l:List Nat) (i:Nat) (h:i<l.length) (a:i<(shr n l).length),(shr n l)[i]=l[i]/2^n+(l.drop (i+1)).headD 0%2^n*2^(32-n)
 |d::l,0,_,_=>by simp[shr]
 |d::l,i+1,h,a=>by
  have:=wC n l i (by simpa using h) (by rw[gQ];simpa using h);simpa[shr]using this
theorem Fq{A N c d n P:Nat}(a:n<32)(h:A+c*P=2^n*N):(A+P*(d*2^n%4294967296+c))+d/2^(32-n)*(P*4294967296)=2^n*(N+P*d):=by
 have e:=sx a;have b:0<2^n:=NF (by decide);have g:d*2^n/4294967296=d/2^(32-n):=by
  rw[<-e,Mt d,Nat.mul_div_mul_left _ _ b]
 have f:=Oa (d*2^n) 4294967296;rw[g]at f;have j:P*(d*2^n%4294967296+c)+d/2^(32-n)*(P*4294967296)=P*(d*2^n)+c*P:=by
  rw[MB,NM (d/2^(32-n)),Mt (d/2^(32-n)),Mt P c,Qp,<-MB];congr 2;omega
 have i:2^n*(N+P*d)=2^n*N+P*(d*2^n):=by
  rw[MB,NM,Mt (2^n) d]
 rw[i,<-h];omega
theorem Du{d n:Nat}(a:n<32)(b:d<4294967296):d/2^(32-n)<2^n:=by
 have e:=sx a;rw[Nt (NF (by decide)),e];exact b
theorem Ia{d n c:Nat}(a:n<32)(h:c<2^n):(d*2^n%4294967296)|||c=d*2^n%4294967296+c/\d*2^n%4294967296+c<4294967296:=by
 have e:=sx a;have i:0<2^n:=NF (by decide);have f:d*2^n%4294967296=d%2^(32-n)*2^n:=by
  rw[<-e,Mt (2^n),Qb]
 rw[f];have b:d%2^(32-n)+1<=2^(32-n):=Ni _ (NF (by decide));have g:(d%2^(32-n)+1)*2^n<=2^(32-n)*2^n:=ML _ b;rw[M5,Ol,Mt (2^(32-n)),e]at g;refine⟨?_,by omega⟩;rw[<-Og,NE h]
end Go.Proofs.YtfoejfohbkmmeaaGreatDoor
namespace Go.Proofs.YtfoejfohbkmmeaaGreatDoor
open Go.RowKit
open Lib renaming hid→J
def ShlInv(w:World)(n sz:Nat)(ds:List Nat)(c i:Value)(wr:World):Prop:=
 ∃(k cy:Nat) (out:List Nat),k<=ds.length/\i=.int .i64 k/\c=.int .u32 cy/\cy<2^n/\out.length=k/\Digs out/\OwnN wr w.heap.size (.slice (some ⟨w.heap.size,0,none⟩) sz sz) (out++List.replicate (sz-k) 0)/\ay out+cy*4294967296^k=2^n*ay (ds.take k)/\Below w.heap.size w wr/\w.heap.size<wr.heap.size
def Ib(w:World)(n sz:Nat)(ds:List Nat)(e:Ending)(w':World):Prop:=
 ∃out cy,e=.returned (.slice (some ⟨w.heap.size,0,none⟩) sz sz)/\OwnN w' w.heap.size (.slice (some ⟨w.heap.size,0,none⟩) sz sz) out/\Digs out/\out.length=sz/\(sz=ds.length+1->cy=0)/\ay out+cy*4294967296^sz=2^n*ay ds/\Below w.heap.size w w'
theorem qf{n a:Nat}(c:n<32)(d:a<2^n):a<4294967296:=by
 have e:(2:Nat)^n<=2^32:=MR (by decide) (by omega);have b:(2:Nat)^32=4294967296:=by decide
 omega
theorem ShlInv.next{w wr:World}{n sz k e x:Nat}{c a:List Nat}{i:Int}(g:n<32)(D:sz=c.length\/sz=c.length+1)(m:k<c.length)(t:c[k]=x)(f:x<4294967296)(b:a.length=k)(l:Digs a)(o:e<2^n)(j:OwnN wr w.heap.size (.slice (some ⟨w.heap.size,0,none⟩) sz sz) (a++List.replicate (sz-k) 0))(y:ay a+e*4294967296^k=2^n*ay (c.take k))(C:Below w.heap.size w wr)(A:w.heap.size<wr.heap.size)(z:i=((k+1:Nat):Int)):
  ShlInv w n sz c (.int .u32 ((x:Int)/2^(32-n)%4294967296)) (.int .i64 i) (wr.setCell ⟨w.heap.size,k,none⟩ (.int .u32 (bits .or .u32 ((x:Int)*2^n%4294967296) (e:Int)))):=by
 subst z;obtain⟨u,v⟩:=Ia (d:=x) g o;have s:=Du g f;have h:=qf g o;have E:=qf g s;have r:((x:Int)*2^n%4294967296)=((x*2^n%4294967296:Nat):Int):=by simp
 have B:((x:Int)/2^(32-n)%4294967296)=((x/2^(32-n):Nat):Int):=by
  have:((x/2^(32-n):Nat):Int)=(x:Int)/2^(32-n):=by simp
  rw[<-this];clear r this;generalize x/2^(32-n)=q at*;omega
 rw[r,B,u32_or_nat _ _ (Ni _ (by decide)) h,u];refine⟨k+1,_,a++[x*2^n%4294967296+e],m,Z,Z,s,by simp[b],d9 l v,?_,?_,C.setCell (p:=⟨w.heap.size,k,none⟩) (L4 _) _,by simpa[World.setCell]using A⟩
 ·have:=j.put (i:=k) (by simp[b];omega) _ (x*2^n%4294967296+e) Z;rw[show sz-k=sz-(k+1)+1 by omega,ko _ _ _ _ b]at this;exact this
 rw[dO a _ k b,df c k m,t,MH];exact Fq g y
theorem Cb(A:Option Addr)(c:Nat)(a:List Nat)(n sz:Nat)(w:World)(h:IsN w A c a)(hl:a.length<=1048577)(Y:n<32)(S:sz=a.length\/sz=a.length+1):
  Calls Tryz.prog 268 #[.slice A a.length c,.int .u64 n,.int .i64 sz] w (Ib w n sz a):=by
 have V:=J h;clear h;obtain⟨W,q,y,B,Q⟩:=eO w sz (by omega);have q:=q .i64 .i64;have K:=J y;have H:=J B;have G:w.heap.size<W.heap.size:=by omega
 clear y B Q
 go_enter Tryz.func268,Tryz.ntmps268
 go_wp2
 clear q
 go_loopw [8,15] (fun cr i wr=>ShlInv w n sz a cr i wr) (fun _ i _=>a.length-(intOf i).toNat)
 case atStart=>exact⟨0,0,[],Mp _,Z,Z,NF (by decide),Z,fun d hd=>by simp at hd,by simpa using K.out,by simp[ay],H.out,G⟩
 case round=>
  obtain⟨k,m,g,hk,rfl,rfl,X,z,D,C,v,E,P⟩:=hrel;have f:=J C;have R:=J v;have j:=J E;have b:=J z;have r:=J D;have U:=J X;clear C v E z D X;by_cases l:k<a.length
  ·obtain⟨bx,ox,rfl,a0,F⟩:=(V.out.below j.out).digit l;have cx:=F k l;have o:=V.out.lt l;obtain⟨x,M⟩:∃x,a[k]=x:=⟨_,rfl⟩;rw[M]at cx o;have HX:=J M;have O:=f.out.free k;have s:=f.out.cell (i:=k) (by have:=b.out;simp;omega);obtain⟨old,e⟩:∃old,(g++List.replicate (sz-k) 0)[k]'(by have:=b.out;simp;omega)=old:=⟨_,rfl⟩;rw[e]at s;clear F M e
   go_wp2
   go_roundw
   case rel=>exact ShlInv.next Y S l HX.out o b.out r.out U.out f.out R.out j.out P (by omega)
   case measure=>simp[intOf];omega
  obtain rfl:k=a.length:=by omega
  by_cases a1:a.length<sz
  ·have O:=f.out.free a.length;have s:=f.out.cell (i:=a.length) (by have:=b.out;simp;omega);obtain⟨old,e⟩:∃old,(g++List.replicate (sz-a.length) 0)[a.length]'(by have:=b.out;simp;omega)=old:=⟨_,rfl⟩;rw[e]at s;clear e;have u:m<4294967296:=qf Y U.out;have T:=f.out.put (i:=a.length) (by have:=b.out;simp;omega) (m:Int) m Z;rw[show sz-a.length=0+1 by omega,ko _ _ _ _ b.out,NI,Mq]at T;have t:=J T;have I:=J (d9 r.out u);have N:Hid (ay (g++[m])=2^n*ay a):=by
    show _=_
    have:=R.out;rw[M6]at this;rw[dO g m a.length b.out,Mt];exact this
   have L:=J (j.out.setCell (p:=⟨w.heap.size,a.length,none⟩) (L4 _) (.int .u32 (m:Int)));clear T
   go_wp2
   go_ret
   exact⟨g++[m],0,Z,t.out,I.out,by have:=b.out;simp;omega,fun _=>rfl,by rw[N.out];simp,L.out⟩
  obtain rfl:sz=a.length:=by omega
  have t:=J (show OwnN wr w.heap.size (.slice (some ⟨w.heap.size,0,none⟩) a.length a.length) g by have:=f.out;rwa[M2,NI,Mq]at this)
  go_wp2
  go_ret
  exact⟨g,m,Z,t.out,r.out,b.out,fun h=>by omega,by have:=R.out;rwa[M6]at this,j.out⟩
def ShrInv(w:World)(n:Nat)(ds:List Nat)(i:Value)(wr:World):Prop:=
 ∃k:Nat,k<=ds.length/\i=.int .i64 k/\OwnN wr w.heap.size (.slice (some ⟨w.heap.size,0,none⟩) ds.length ds.length) ((shr n ds).take k++List.replicate (ds.length-k) 0)/\Below w.heap.size w wr/\w.heap.size<wr.heap.size
theorem Cc{n k g:Nat}{a:List Nat}(d:k<a.length)(c:∀h:k<(shr n a).length,(shr n a)[k]=g):((shr n a).take k++List.replicate (a.length-k) 0).set k g=(shr n a).take (k+1)++List.replicate (a.length-(k+1)) 0:=by
 have b:=gQ n a;rw[show a.length-k=a.length-(k+1)+1 by omega,ko _ _ _ _ (by rw[Mf,b];omega),Mx (by omega),c (by omega)]
theorem ShrInv.next{w wr:World}{n k g:Nat}{z i:Int}{a:List Nat}(c:k<a.length)(f:∀h:k<(shr n a).length,(shr n a)[k]=g)(b:OwnN wr w.heap.size (.slice (some ⟨w.heap.size,0,none⟩) a.length a.length) ((shr n a).take k++List.replicate (a.length-k) 0))(j:Below w.heap.size w wr)(e:w.heap.size<wr.heap.size)(d:z=(g:Int))(l:i=((k+1:Nat):Int)):
  ShrInv w n a (.int .i64 i) (wr.setCell ⟨w.heap.size,k,none⟩ (.int .u32 z)):=by
 subst l;refine⟨k+1,c,Z,?_,j.setCell (p:=⟨w.heap.size,k,none⟩) (L4 _) _,by simpa[World.setCell]using e⟩;have:=b.put (i:=k) (by simp[gQ];omega) z g d;rwa[Cc c f]at this
theorem wD{w wr:World}{n k g x:Nat}{z i:Int}{a:List Nat}(e:k<a.length)(j:∀h:k<(shr n a).length,(shr n a)[k]=g)(c:OwnN wr w.heap.size (.slice (some ⟨w.heap.size,0,none⟩) a.length a.length) ((shr n a).take k++List.replicate (a.length-k) 0))(m:Below w.heap.size w wr)(l:w.heap.size<wr.heap.size)(f:z=(g:Int))(q:i=((k+1:Nat):Int)):
  ShrInv w n a (.int .i64 i) ((wr.setCell ⟨w.heap.size,k,none⟩ (.int .u32 ((x:Int)/2^n))).setCell ⟨w.heap.size,k,none⟩ (.int .u32 z)).drew:=by
 subst q;have b:=(m.setCell (p:=⟨w.heap.size,k,none⟩) (L4 _) (.int .u32 ((x:Int)/2^n))).setCell (p:=⟨w.heap.size,k,none⟩) (L4 _) (.int .u32 z);refine⟨k+1,e,Z,?_,b.drew,by simpa[World.setCell]using l⟩;have o:=c.put (i:=k) (by simp[gQ];omega) ((x:Int)/2^n) (x/2^n) (by simp);have d:=o.put (i:=k) (by simp[gQ];omega) z g f;rw[List.set_set,Cc e j]at d;exact d.below ((Below.refl _ _).drew)
theorem Fr{n k x:Nat}{a:List Nat}(c:k<a.length)(b:a[k]=x)(d:¬k+1<a.length):∀h:k<(shr n a).length,(shr n a)[k]=x/2^n:=fun h=>by
 rw[wC n a k c h,b,Md (by omega)];simp
theorem Ic{n k x y:Nat}{a:List Nat}(w:n<32)(p:k<a.length)(l:a[k]=x)(b:x<4294967296)(m:k+1<a.length)(u:a[k+1]=y)(f:y<4294967296):
  ∃g:Nat,(∀h:k<(shr n a).length,(shr n a)[k]=g)/\bits .or .u32 ((x:Int)/2^n) (IntKind.u64.wrap ((y:Int)*2^(32-n))%4294967296)=(g:Int):=by
 have e:=sx w;have c:0<2^n:=NF (by decide);have j:0<2^(32-n):=NF (by decide);refine⟨x/2^n+y%2^n*2^(32-n),fun h=>?_,?_⟩
 ·rw[wC n a k p h,l,Mc m,u];rfl
 have o:x/2^n<2^(32-n):=by rw[Nt c,Mt,e];exact b
 have d:y*2^(32-n)%4294967296=y%2^n*2^(32-n):=by rw[<-e,Qb]
 have i:y%2^n*2^(32-n)<4294967296:=by rw[<-d];exact Ni _ (by decide)
 have A:x/2^n<=x:=NT _ _;have s:2^(32-n)<=4294967296:=by rw[<-e];exact Nat.le_mul_of_pos_left _ c
 have z:y*2^(32-n)<=4294967295*4294967296:=NY (by omega) s;have t:((x:Int)/2^n)=((x/2^n:Nat):Int):=by simp
 have v:((y:Int)*2^(32-n))=((y*2^(32-n):Nat):Int):=by simp
 have r:IntKind.u64.wrap ((y*2^(32-n):Nat):Int)%4294967296=((y%2^n*2^(32-n):Nat):Int):=by
  rw[IntKind.wrap_u64,<-d];generalize y*2^(32-n)=q at*;omega
 rw[t,v,r,u32_or_nat _ _ (by omega) i,Nat.or_comm,<-Og,<-NE o,Og,NW]
theorem Ie(A:Option Addr)(c:Nat)(a:List Nat)(n:Nat)(w:World)(h:IsN w A c a)(hl:a.length<=1048577)(T:n<32):
  Calls Tryz.prog 272 #[.slice A a.length c,.int .u64 n] w (gF (fun W v=>IsD W v (ay a/2^n)) w):=by
 have G:=J h;clear h;obtain⟨W,q,t,B,O⟩:=eO w a.length (by omega);have q:=q .i64 .i64;have L:=J t;have I:=J B;have F:w.heap.size<W.heap.size:=by omega
 clear t B O
 go_enter Tryz.func272,Tryz.ntmps272
 go_wp2
 clear q
 go_loopw [13] (fun i wr=>ShrInv w n a i wr) (fun i _=>a.length-(intOf i).toNat)
 case atStart=>exact⟨0,Mp _,Z,by simpa using L.out,I.out,F⟩
 case round=>
  obtain⟨k,hk,rfl,C,D,s⟩:=hrel;have f:=J C;have b:=J D;clear C D;have Q:=gQ n a;by_cases d:k<a.length
  ·obtain⟨bx,ox,rfl,a0,l⟩:=(G.out.below b.out).digit d;have cx:=l k d;have m:=G.out.lt d;obtain⟨x,M⟩:∃x,a[k]=x:=⟨_,rfl⟩;rw[M]at cx m;have V:=J M;have a1:=f.out.free k;have X:((shr n a).take k++List.replicate (a.length-k) 0).length=a.length:=by simp[Q];omega
   have N:=f.out.cell (i:=k) (by omega);obtain⟨old,o⟩:∃old,((shr n a).take k++List.replicate (a.length-k) 0)[k]'(by omega)=old:=⟨_,rfl⟩;rw[o]at N;clear M o;by_cases j:k+1<a.length
   ·have cy:=l (k+1) j;have p:=G.out.lt j;obtain⟨y,H⟩:∃y,a[k+1]=y:=⟨_,rfl⟩;rw[H]at cy p;have HY:=J H;obtain⟨g,z,E⟩:=Ic T d V.out m j H p;have S:=J z;have K:=J E;clear l H z E
    go_wp2
    go_region
    go_wp2
    go_roundw
    case rel=>exact wD d S.out f.out b.out s K.out (by omega)
    case measure=>simp[intOf];omega
   clear l
   go_wp2
   go_roundw
   case rel=>exact ShrInv.next d (Fr d V.out j) f.out b.out s (by simp) (by omega)
   case measure=>simp[intOf];omega
  obtain rfl:k=a.length:=by omega
  have Y:OwnN wr w.heap.size (.slice (some ⟨w.heap.size,0,none⟩) a.length a.length) (shr n a):=by
   have:=f.out;rwa[M2,NI,Mq,Me (by omega)]at this
  obtain⟨U,h5⟩:=Y.isN (xU T a G.out.ok);have HT:=J (o4 U h5 (by omega) (Ca T a));clear Y U h5
  go_wp2_with fail
  refine HT.out.mono ?_;rintro e w5 ⟨v5,rfl,r,u⟩;have P:=J r;have R:=J (aE b.out u b.out.size);clear r u
  go_wp2
  go_ret
  exact⟨_,Z,P.out,R.out⟩
end Go.Proofs.YtfoejfohbkmmeaaGreatDoor
