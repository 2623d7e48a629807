import Derived.Test.YtmhcanmapkenbaaGreatDoorA11
import Derived.Laws.CopyOwn
set_option maxRecDepth 100000
set_option maxHeartbeats 2000000
set_option linter.defProp false
open Go.Proofs.Tryz
namespace Go.Proofs.YtmhcanmapkenbaaGreatDoor
open Go.RowKit
open Lib renaming hid→J
def me(n:Nat)(w:World)(v:n<18446744073709551616):Calls prog 21 #[.int .u64 n] w (NatPost n w):=by
 have p:a8 [n%4294967296,n/4294967296]=n:=by simp only[a8];omega
 have hd:iF [n%4294967296,n/4294967296]:=λd hd=>by
  simp only[Qw,QH,or_false]at hd;rcases hd with rfl|rfl<;>omega
 obtain⟨W,l,a,f,k⟩:=qT w 114 #[.int .u32 ((n:Int)%4294967296),.int .u32 ((n:Int)/4294967296)];have m:IsN W (some ⟨w.heap.size,0,none⟩) 2 [n%4294967296,n/4294967296]:=by
  refine⟨λ_=>⟨w.heap.size,0,Z,O,λj u s=>?_⟩,λe=>(by cases e),F,O,hd⟩;rw[QT,f.cell j,<-s];simp[dq]
 have b:=J (dR (some ⟨w.heap.size,0,none⟩) 2 [n%4294967296,n/4294967296] W m F);rw[p]at b;have r:=J l;have q:=J a;have o:=a.size;clear p hd m l a f k
 go_enter func21,ntmps21
 go_wp2_with fail
 rw[r.out];refine b.out.mono ?_;rintro e x ⟨t,rfl,g,c⟩;have i:=J (g.base_le o);have h:=J (q.out.trans (c.mono o));clear g c
 go_wp2
 go_ret
 exact⟨t,Z,i.out,h.out⟩
def Oz{P:Program}{f:FuncId}{w:World}{n:Nat}{x:Int}(h:x=(n:Int))(a:Calls P f #[.int .u64 (n:Int)] w (NatPost n w)):Calls P f #[.int .u64 x] w (NatPost n w):=by subst h;exact a
def xA(n:Int)(w:World)(j: -9223372036854775808<=n)(k:n<=9223372036854775807):Calls prog 54 #[.int .i64 n] w (NatPost n.natAbs w):=by
 have g:=J (λw=>me n.natAbs w O);by_cases l:n<0
 ·go_enter func54,ntmps54
  go_wp2_with fail
  refine(Oz (n:=n.natAbs) O (g.out _)).mono ?_;rintro e i ⟨f,rfl,b,a⟩;have d:=J b;have c:=J a;clear b a
  go_wp2
  go_ret
  exact⟨f,Z,d.out,c.out⟩
 have h:0<=n:=O
 go_enter func54,ntmps54
 go_wp2_with fail
 refine(Oz (n:=n.natAbs) O (g.out _)).mono ?_;rintro e i ⟨f,rfl,b,a⟩;have d:=J b;have c:=J a;clear b a
 go_wp2
 go_ret
 exact⟨f,Z,d.out,c.out⟩
def PH{a:World}{A B:Option Addr}{c d m n:Nat}(h:IsN a A c (aP m))(b:IsN a B d (aP n))(hl:(aP m).length<=1048576)(e:(aP n).length<=1048576):Calls prog 55 #[.slice A (aP m).length c,.slice B (aP n).length d] a (NatPost (Nat.gcd m n) a):=by
 have:=Js A B c d (aP m) (aP n) a h b O O;rwa[bS,bS]at this
def OA{a:World}{A B:Option Addr}{c d m n:Nat}(h:IsN a A c (aP m))(b:IsN a B d (aP n))(hl:(aP m).length<=1048576)(e:(aP n).length<=1048576)(f:0<n):Calls prog 56 #[.slice A (aP m).length c,.slice B (aP n).length d] a (BT m n a):=by
 have:=zO A B c d (aP m) (aP n) a h b O O (by rw[bS];exact f);rwa[bS,bS]at this
def IsD(W:World)(v:Value)(n:Nat):Prop:=∃A c,v=.slice A (aP n).length c/\IsN W A c (aP n)
def IsD.below{W W':World}{v:Value}{n:Nat}(h:IsD W v n)(a:Below W.heap.size W W'):IsD W' v n:=by
 obtain⟨A,c,e,b⟩:=h;exact⟨A,c,e,b.below a⟩
def lx(ng:Bool)(N D:Nat)(w:World)(e:Ending)(w':World):Prop:=∃vn vd,e=.returned (.agg #[.bool ng,vn,vd])/\OwnN w' w.heap.size vn (aP N)/\OwnN w' w.heap.size vd (aP D)/\Below w.heap.size w w'
def xB(l:Bool)(A B:Option Addr)(ca cb X Y:Nat)(w:World)(hA:IsN w A ca (aP X))(hB:IsN w B cb (aP Y))(x:(aP X).length<=1048576)(y:(aP Y).length<=1048576)(hY:0<Y):
  Calls prog 20 #[.bool l,.slice A (aP X).length ca,.slice B (aP Y).length cb] w (lx (l&&decide (X≠0)) (X/Nat.gcd X Y) (Y/Nat.gcd X Y) w):=by
 have HA:=J hA;have HB:=J hB;clear hA hB;obtain⟨W,hW,t,U,e7⟩:=qT w 27 #[.bool false,.slice none 0 0,.slice none 0 0];have HW:=J hW;have n:=J t;have M:=J U;have a9:=t.size;have f0:w.heap.size<W.heap.size:=O
 clear hW t U e7;have T:0<Nat.gcd X Y:=Nat.gcd_pos_of_pos_right _ hY;have b5:Nat.gcd X Y<=Y:=Nat.gcd_le_right _ hY;have a3:X/Nat.gcd X Y=0↔X=0:=by
  constructor
  ·intro h;have i:=SK (Nat.gcd_dvd_left X Y);rw[h]at i;omega
  intro h;rw[h];simp
 have S:Y/Nat.gcd X Y≠0:=by
  intro h;have i:=SK (Nat.gcd_dvd_right X Y);rw[h]at i;omega
 have g2:(aP (X/Nat.gcd X Y)).length<=1048576:=Qu (dp (Su _ _)) x;have V:(aP (Nat.gcd X Y)).length<=1048576:=Qu (dp b5) y;generalize hg:Nat.gcd X Y=g at*;have o:=J a3;have b3:=J S;have L:=J hg;clear a3 S hg
 go_enter func20,ntmps20
 go_wp2_with fail
 rw[HW.out];refine(PH (HA.out.below n.out) (HB.out.below n.out) x y).mono ?_;intro e w1 i;rw[L.out]at i;obtain⟨A1,c1,rfl,a0,f⟩:=i.open_;have N:=J a0;have E:=J (aZ n.out f a9);have a4:w.heap.size<=w1.heap.size:=Qu a9 f.size;have b0:w.heap.size<w1.heap.size:=QE f0 f.size;have H:=J (M.out.below f M.out.lt);clear i a0 f
 go_wp2_with fail
 refine(OA (HA.out.below E.out) N.out x V T).mono ?_;rintro e w2 ⟨q2,r2,rfl,C,d4,b⟩;obtain⟨A2,c2,e2,a1⟩:=C.is (dA _);subst e2;have f4:=J a1;have F:=J (aZ E.out b a4);have a5:w.heap.size<=w2.heap.size:=Qu a4 b.size;have I:=J (H.out.below b H.out.lt);have P:=J (N.out.below b);have b4:=J (C.base_le (Tl b0));have b1:w.heap.size<w2.heap.size:=QE b0 b.size;clear C d4 a1 b
 go_wp2_with fail
 refine(OA (HB.out.below F.out) P.out y V T).mono ?_;rintro e w3 ⟨q3,r3,rfl,D,e0,c⟩;obtain⟨A3,c3,e3,a2⟩:=D.is (dA _);subst e3;have f5:=J a2;have G:=J (aZ F.out c a5);have e1:w.heap.size<=w3.heap.size:=Qu a5 c.size;have j:=J (I.out.below c I.out.lt);have m:=J (b4.out.below c);have Q:=J (D.base_le (Tl b1));have e5:w.heap.size<w3.heap.size:=QE b1 c.size;clear D e0 a2 c;have g0:(((aP (Y/g)).length:Int)==0)=false:=by rw[beq_eq_false_iff_ne];intro h;exact b3.out (dK.1 O)
 by_cases a:X=0
 ·have d:=J a;have g1:(((aP (X/g)).length:Int)==0)=true:=by rw[beq_iff_eq];have:=dK.2 (o.out.2 a);omega
  clear a
  go_wp2_with fail
  refine(me 1 _ O).mono ?_;rintro e w4 ⟨v4,rfl,z,r⟩;have R:=J (z.base_le (Tl e5));have b2:=J (aZ G.out r e1);have K:=J (j.out.below r j.out.lt);obtain⟨p,q,d3,f1,f2,f3⟩:=K.out.three;obtain⟨A4,c4,e4,_⟩:=z.is (dA 1);subst e4;clear z r
  go_wp2
  clear p q d3 f1 f2 f3;obtain⟨w6,h6,u,s,e6,k⟩:=dM K.out (.bool false) (.slice none 0 0) (.slice A4 (aP 1).length c4);rw[h6];obtain⟨d0,p,q,_,_,_⟩:=u.three;have c9:OwnN w6 (w.heap.size+1) (.slice A4 (aP 1).length c4) (aP 1):=ez R.out (gY R.out (SB _)) k;refine bodyPost_ret (v:=.agg #[.bool false,.slice none 0 0,.slice A4 (aP 1).length c4]) (by simp[results,results20,go_sem,d0,p,q]) Z ⟨.slice none 0 0,.slice A4 (aP 1).length c4,by rw[d.out];simp,?_,?_,b2.out.trans s⟩
  ·rw[o.out.2 d.out];exact OwnN.nil _ _
  have e:Y/g=1:=by
   have i:=L.out;rw[d.out,TU]at i;rw[<-i];exact Nat.div_self hY
  rw[e];exact c9.base_le (RX _)
 have d:=J a;have g1:(((aP (X/g)).length:Int)==0)=false:=by rw[beq_eq_false_iff_ne];intro h;exact a (o.out.1 (dK.1 O))
 clear a;obtain⟨p,q,d3,f1,f2,f3⟩:=j.out.three
 go_wp2
 clear p q d3 f1 f2 f3;obtain⟨w6,h6,u,s,e6,k⟩:=dM j.out (.bool l) (.slice A2 (aP (X/g)).length c2) (.slice A3 (aP (Y/g)).length c3);rw[h6];obtain⟨d0,p,q,_,_,_⟩:=u.three;have c0:OwnN w6 (w.heap.size+1) (.slice A2 (aP (X/g)).length c2) (aP (X/g)):=ez m.out (gY m.out (SB _)) k;have c5:OwnN w6 (w.heap.size+1) (.slice A3 (aP (Y/g)).length c3) (aP (Y/g)):=ez Q.out (gY Q.out (SB _)) k;refine bodyPost_ret (v:=.agg #[.bool l,.slice A2 (aP (X/g)).length c2,.slice A3 (aP (Y/g)).length c3]) (by simp[results,results20,go_sem,d0,p,q]) Z ⟨_,_,?_,c0.base_le (RX _),c5.base_le (RX _),G.out.trans s⟩;have hx:=d.out;simp[hx]
def vG(a:Bool)(A B:Option Addr)(q r X Y:Nat)(w:World)(Q:IsN w A q (aP X))(R:IsN w B r (aP Y))(D:(aP X).length<=1048576)(E:(aP Y).length<=1048576)(hY:0<Y):
  Calls prog 66 #[.agg #[.bool a,.slice A (aP X).length q,.slice B (aP Y).length r]] w (lx (a&&decide (X≠0)) (X/Nat.gcd X Y) (Y/Nat.gcd X Y) w):=by
 have T:=J Q;have U:=J R;clear Q R;obtain⟨W,S,f,C,b,H⟩:=tO w 27 27 #[.bool a,.slice A (aP X).length q,.slice B (aP Y).length r] #[.bool false,.slice none 0 0,.slice none 0 0];have V:=J S;have c:=J f;have k:=J b;have i:=f.size;have p:w.heap.size+1<W.heap.size:=O
 clear S f C b H;have t:=J (xB a A B q r X Y W (T.out.below c.out) (U.out.below c.out) D E hY)
 go_enter func66,ntmps66
 go_wp2_with fail
 rw[V.out];refine t.out.mono ?_;rintro e w1 ⟨vn,vd,rfl,h,g,d⟩;obtain⟨K,M,en,_⟩:=h.is (dA _);obtain⟨I,L,ed,_⟩:=g.is (dA _);subst en ed;have n:=J h;have m:=J g;have s:=J (aZ c.out d i);have j:=J (k.out.below d k.out.lt);obtain⟨u,x,d3,f1,f2,f3⟩:=j.out.three;clear h g d
 go_wp2
 clear u x d3 f1 f2 f3;obtain⟨w6,N,z,y,a0,o⟩:=dM j.out (.bool (a&&decide (X≠0))) (.slice K (aP (X/Nat.gcd X Y)).length M) (.slice I (aP (Y/Nat.gcd X Y)).length L);first
  |rw[N]
  |(have P:=N;simp only[ne_eq,decide_not]at P;rw[P])
 obtain⟨d0,u,x,_,_,_⟩:=z.three;have F:=ez n.out (gY n.out p) o;have G:=ez m.out (gY m.out p) o;exact bodyPost_ret (v:=.agg #[.bool (a&&decide (X≠0)),.slice K (aP (X/Nat.gcd X Y)).length M,.slice I (aP (Y/Nat.gcd X Y)).length L]) (by simp[results,results66,go_sem,d0,u,x]) Z ⟨_,_,Z,OwnN.base_le (l:=aP (X/Nat.gcd X Y)) F i,OwnN.base_le (l:=aP (Y/Nat.gcd X Y)) G i,s.out.trans (y.mono O)⟩
def DX(ng:Bool)(N D:Nat)(w:World)(e:Ending)(w':World):Prop:=∃vn vd,e=.returned (.tuple #[.agg #[.bool ng,vn,vd],.int .i64 0])/\OwnN w' w.heap.size vn (aP N)/\OwnN w' w.heap.size vd (aP D)/\Below w.heap.size w w'
def BW(n:Int)(a: -9223372036854775808<=n)(b:n<=9223372036854775807):(aP n.natAbs).length<=2:=bP (by
 have:(4294967296^2:Nat)=18446744073709551616:=I
 omega)
def kD:(aP 1).length<=1:=bP I
def j1{a:Bool}{X:Nat}(h:a=true->X≠0):(a&&decide (X≠0))=a/\X/Nat.gcd X 1=X/\1/Nat.gcd X 1=1:=by
 refine⟨?_,F,F⟩;cases a with
 |false=>rfl
 |true=>simp[h Z]
def zQ{a:Bool}{A B:Option Addr}{b c X:Nat}{w:World}(e:IsN w A b (aP X))(f:IsN w B c (aP 1))(d:(aP X).length<=1048576)(h:a=true->X≠0):Calls prog 20 #[.bool a,.slice A (aP X).length b,.slice B (aP 1).length c] w (lx a X 1 w):=by
 have:=xB a A B b c X 1 w e f d (by have:=kD;omega) I;rwa[(j1 h).1,(j1 h).2.1,(j1 h).2.2]at this
def zR{a:Bool}{A B:Option Addr}{b c X:Nat}{w:World}(e:IsN w A b (aP X))(f:IsN w B c (aP 1))(d:(aP X).length<=1048576)(h:a=true->X≠0):Calls prog 66 #[.agg #[.bool a,.slice A (aP X).length b,.slice B (aP 1).length c]] w (lx a X 1 w):=by
 have:=vG a A B b c X 1 w e f d (by have:=kD;omega) I;rwa[(j1 h).1,(j1 h).2.1,(j1 h).2.2]at this
def xC(n:Int)(w:World)(h0: -9223372036854775808<=n)(x:n<=9223372036854775807):
  Calls prog 19 #[.int .i64 n,.int .i64 1] w (DX (decide (n<0)) n.natAbs 1 w):=by
 obtain⟨W,hW,f,A,Y⟩:=qT w 27 #[.bool false,.slice none 0 0,.slice none 0 0];have HW:=J hW;have L:=J f;have p:=J A;have F:=f.size;have a0:w.heap.size<W.heap.size:=O
 clear hW f A Y;have hl:=BW n h0 x;have a1:=kD;obtain⟨c,T⟩:∃c,decide (n<0)=c:=⟨_,Z⟩;have s:=J T;have a2:(c !=false)=c:=by cases c<;>rfl
 go_enter func19,ntmps19
 go_wp2_with fail
 rw[HW.out];refine(xA n _ h0 x).mono ?_;intro e w1 y;obtain⟨A1,c1,rfl,B,b⟩:=y.open_;have M:=J B;have H:=J (aZ L.out b F);have E:w.heap.size<=w1.heap.size:=Qu F b.size;have X:w.heap.size<w1.heap.size:=QE a0 b.size;have k:=J (p.out.below b p.out.lt);clear y B b
 go_wp2_with fail
 refine(xA 1 _ O O).mono ?_;intro e w2 y;obtain⟨A2,c2,rfl,C,a⟩:=y.open_;have r:=J C;have q:=J (M.out.below a);have I:=J (aZ H.out a E);have j:w.heap.size<=w2.heap.size:=Qu E a.size;have G:w.heap.size<w2.heap.size:=QE X a.size;have m:=J (k.out.below a k.out.lt);clear y C a;have z:(1:Int).natAbs=1:=rfl;rw[z]at r⊢;clear z;have N:=J (show c=true->n.natAbs≠0 from λh=>by
  have x:=s.out;rw[h]at x;simp at x;omega)
 go_wp2_with fail
 refine(zQ q.out r.out O N.out).mono ?_;rintro e w3 ⟨vn,vd,rfl,i,g,d⟩;obtain⟨An,cn,en,_⟩:=i.is (dA _);obtain⟨Ad,cd,ed,_⟩:=g.is (dA _);subst en ed;have u:=J i;have t:=J g;have K:=J (aZ I.out d j);have o:=J (m.out.below d m.out.lt);obtain⟨P,Q,d3,f1,f2,f3⟩:=o.out.three;clear i g d
 go_wp2
 clear P Q d3 f1 f2 f3;obtain⟨w6,h6,S,R,a3,D⟩:=dM o.out (.bool c) (.slice An (aP n.natAbs).length cn) (.slice Ad (aP 1).length cd);rw[h6];obtain⟨d0,P,Q,_,_,_⟩:=S.three;have U:=ez u.out (gY u.out G) D;have V:=ez t.out (gY t.out G) D;exact bodyPost_ret (v:=.tuple #[.agg #[.bool c,.slice An (aP n.natAbs).length cn,.slice Ad (aP 1).length cd],.int .i64 0]) (by simp[results,results19,go_sem,d0,P,Q]) Z ⟨_,_,by rw[s.out],OwnN.base_le (l:=aP n.natAbs) U j,OwnN.base_le (l:=aP 1) V j,K.out.trans R⟩
end Go.Proofs.YtmhcanmapkenbaaGreatDoor
namespace Go.Proofs.YtmhcanmapkenbaaGreatDoor
open Go.RowKit
structure Rd (α:Type) where
 size:Nat
 rd:World->List Value->α->Prop
 len:∀{w cs a},rd w cs a->cs.length=size
 keep:∀{w w' cs a},rd w cs a->Below w.heap.size w w'->rd w' cs a
 one:∀{w cs a},rd w cs a->∀u∈cs,u.oneCell'=true
inductive Reads {α:Type} (R:Rd α) (W:World):List Value->List α->Prop
 |nil:Reads R W [] []
 |cons {cs xs:List Value} {a:α} {l:List α} (h:R.rd W cs a) (hs:Reads R W xs l):Reads R W (cs++xs) (a::l)
variable {α:Type} {R:Rd α}
end Go.Proofs.YtmhcanmapkenbaaGreatDoor
namespace Go.Proofs.YtmhcanmapkenbaaGreatDoor
open Go.RowKit
end Go.Proofs.YtmhcanmapkenbaaGreatDoor
namespace Go.Proofs.YtmhcanmapkenbaaGreatDoor
structure Guess (us vs:List Nat) (n:Nat):Prop where
 n2:2<=n
 lu:us.length=n+1
 lv:vs.length=n
 du:iF us
 dv:iF vs
 top:∀h:n-1<vs.length,2147483648<=vs[n-1]
 lt:a8 us<4294967296*a8 vs
end Go.Proofs.YtmhcanmapkenbaaGreatDoor
namespace Go.Proofs.YtmhcanmapkenbaaGreatDoor
open Go.RowKit
open Lib renaming hid→J
structure GuessD (X V P v1 v2 vl u0 u1 u2 xl:Nat):Prop where
 hx:X=((u0*4294967296+u1)*4294967296+u2)*P+xl
 hxl:xl<P
 hv:V=(v1*4294967296+v2)*P+vl
 hvl:vl<P
 hv1:2147483648<=v1/\v1<4294967296
 hv2:v2<4294967296
 hu1:u1<4294967296
 hu2:u2<4294967296
 hu0:u0<=v1
 lt:X/V<4294967296
section
variable {X V P v1 v2 vl u0 u1 u2 xl g r:Nat}
end
structure Fit (L:Nat) (q:Rat):Prop where
 num:(aP q.num.natAbs).length<=L
 den:(aP q.den).length<=L
structure Col where
 name:ByteArray
 ty:Int
 key:Bool
structure Sch where
 name:ByteArray
 cert:Bool
 cols:List Col
structure Tp where
 vals:List V
 prob:Rat
structure Rel where
 sch:Sch
 tups:List Tp
def V.tree(v:V):Tree:=.agg [.sc (.int .i64 v.t),.sc (.int .i64 v.n),.sc (.string v.s)]
def bi{α:Type}{f:α->Tree}{l:List α}{i:Nat}{a:α}(h:l[i]? =some a):(l.map f)[i]? =some (f a):=by rw[QL,h];rfl
def cH(t n:Int)(s:ByteArray):List UInt8:=
 if bz t n s then(if t=1 then Lib.itoa n else [39]++gG s.data.toList++[39])else []
def zS(t n:Int)(s:ByteArray)(w:World)(h:bz t n s=false):
  Calls prog 23 #[.agg #[.int .i64 t,.int .i64 n,.string s]] w λe w'=>e=.returned (.string ⟨(cH t n s).toArray⟩)/\Below w.heap.size w w':=by
 have b:=J (show cH t n s=[] by simp[cH,h]);have a:∀w:World,Calls prog 59 #[.agg #[.int .i64 t,.int .i64 n,.string s]] w λe w'=>e=.returned (.bool false)/\Below w.heap.size w w':=λw=>by
  have:=gf t n s w;rwa[h]at this
 have c:=J a;clear a h
 go_enter func23,ntmps23
 go_wp2_with (go_at_call 59;refine(c.out _).mono ?_;rintro e w' ⟨rfl,d⟩)
 go_ret
 exact⟨by rw[b.out];rfl,((Below.refl _ _).alloc (Qi _) _).trans (d.mono F)⟩
def zT(n:Int)(s:ByteArray)(w:World)(h:bz 1 n s=true)(t: -9223372036854775808<=n)(u:n<=9223372036854775807)(f:Env w):
  Calls prog 23 #[.agg #[.int .i64 1,.int .i64 n,.string s]] w λe w'=>e=.returned (.string ⟨(cH 1 n s).toArray⟩)/\Below w.heap.size w w':=by
 have l:=J (show cH 1 n s=Lib.itoa n by simp[cH,h]);have i:∀w:World,Calls prog 59 #[.agg #[.int .i64 1,.int .i64 n,.string s]] w λe w'=>e=.returned (.bool true)/\Below w.heap.size w w':=λw=>by
  have:=gf 1 n s w;rwa[h]at this
 have m:=J i;clear i h;have k:=J f;clear f;obtain⟨W,g,v,j,q,r,y⟩:=Of w 34 (.int .i64 1) (.int .i64 n) (.string s);have o:=J g;clear g;have c:=J j;clear j
 go_enter func23,ntmps23
 go_wp2_with fail
 rw[o.out];refine(m.out _).mono ?_;rintro e x ⟨rfl,a⟩;have z:=(a.cell (p:=⟨w.heap.size,0,none⟩) (by simp[c.out])).trans q;have A:=(a.cell (p:=⟨w.heap.size,1,none⟩) (by simp[c.out])).trans r;have b:Below w.heap.size w x:=v.trans (a.mono (by rw[c.out];omega))
 go_wp2_with fail
 refine(tL n _ t u (k.out.below b (Qi _))).mono ?_;rintro e B ⟨rfl,d⟩
 go_wp2
 go_ret
 exact⟨by rw[l.out];rfl,b.trans (d.mono b.size)⟩
def zU(n:Int)(s:ByteArray)(w:World)(h:bz 2 n s=true)(g:Env w):
  Calls prog 23 #[.agg #[.int .i64 2,.int .i64 n,.string s]] w λe w'=>e=.returned (.string ⟨(cH 2 n s).toArray⟩)/\Below w.heap.size w w':=by
 have m:=J (show cH 2 n s=[39]++gG s.data.toList++[39] by simp[cH,h]);have A:s.size<=64:=by simp[bz]at h;omega
 have j:∀w:World,Calls prog 59 #[.agg #[.int .i64 2,.int .i64 n,.string s]] w λe w'=>e=.returned (.bool true)/\Below w.heap.size w w':=λw=>by
  have:=gf 2 n s w;rwa[h]at this
 have o:=J j;clear j h;have l:=J g;clear g;obtain⟨W,i,u,k,r,x,t⟩:=Of w 34 (.int .i64 2) (.int .i64 n) (.string s);have q:=J i;clear i;have c:=J k;clear k
 go_enter func23,ntmps23
 go_wp2_with fail
 rw[q.out];refine(o.out _).mono ?_;rintro e v ⟨rfl,a⟩;have y:=(a.cell (p:=⟨w.heap.size,0,none⟩) (by simp[c.out])).trans r;have z:=(a.cell (p:=⟨w.heap.size,2,none⟩) (by simp[c.out])).trans t;have b:Below w.heap.size w v:=u.trans (a.mono (by rw[c.out];omega))
 go_wp2_with fail
 refine(gq s ⟨#[39]⟩ ⟨#[39,39]⟩ _ O I I (l.out.below b (Qi _))).mono ?_;rintro e B ⟨rfl,d⟩;have f:Lib.replaceAll s.data.toList [39] [39,39]=gG s.data.toList:=by rw[eB _ I,qw]
 simp only[f];clear f;have hd:(gG s.data.toList).length<=128:=by have:=gX s.data.toList;simp at this;omega
 go_wp2
 go_ret
 refine⟨?_,b.trans (d.mono b.size)⟩;rw[m.out,<-iY,<-iY];rfl
def i6(t n:Int)(s:ByteArray)(w:World)(c: -9223372036854775808<=n)(d:n<=9223372036854775807)(a:Env w):
  Calls prog 23 #[.agg #[.int .i64 t,.int .i64 n,.string s]] w λe w'=>e=.returned (.string ⟨(cH t n s).toArray⟩)/\Below w.heap.size w w':=by
 cases h:bz t n s
 ·exact zS t n s w h
 by_cases b:t=1
 ·subst b;exact zT n s w h c d a
 have:t=2:=by simp[bz,b]at h;exact h.1.1.1
 subst this;exact zU n s w h a
