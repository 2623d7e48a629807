import Derived.Test.YtfoejfohbkmmeaaGreatDoorK11
import Derived.Laws.CopyOwn
set_option maxRecDepth 100000
set_option maxHeartbeats 4000000
set_option linter.defProp false
open Go.Proofs.Tryz
namespace Go.Proofs.YtfoejfohbkmmeaaGreatDoor
open Go.RowKit
open Lib renaming hid→J
def ub{X a s:Nat}(b:0<a)(h:a*2^s=X)(c:a%2=0):0<a/2/\a/2*2^(s+1)=X:=by
 refine⟨O,?_⟩;rw[RA,Rk (2^s) 2,<-Ry,show a/2*2=a by omega,h]
def JF{X a s:Nat}(b:0<a)(h:a*2^s=X):s<X:=by
 have c:s<2^s:=Nat.lt_two_pow_self;have d:1*2^s<=a*2^s:=RB _ b;omega
def JG{X a s k:Nat}(c:0<a)(h:a*2^s=X)(f:X<4294967296^k):s<32*k:=by
 have d:1*2^s<=a*2^s:=RB _ c;have e:(2:Nat)^32=4294967296:=I
 have b:2^s<2^(32*k):=by rw[Tu,e];omega
 exact(U4 I).1 b
def FC{X a s:Nat}(h:a*2^s=X):a<=X:=by
 have:a*1<=a*2^s:=Sz _ (Sh I);omega
def FD(A B:Option Addr)(ca cb:Nat)(x y:List Nat)(w:World)(hA:IsN w A ca x)(hB:IsN w B cb y)(w7:x.length<=1048576)(w8:y.length<=1048576):
  Calls prog 174 #[.slice A x.length ca,.slice B y.length cb] w (NatPost (Nat.gcd (aG x) (aG y)) w):=by
 have HA:=J hA;have HB:=J hB;clear hA hB;obtain⟨X,hX⟩:∃X,aG x=X:=⟨_,Z⟩;obtain⟨Y,hY⟩:∃Y,aG y=Y:=⟨_,Z⟩;obtain⟨K,hK⟩:∃K:Nat,K=x.length+y.length:=⟨_,Z⟩;have v8:K<=2097152:=O
 have p4:X<4294967296^K:=by
  rw[<-hX];exact Rh (cC x HA.out.ok) (Rx I O)
 have q0:Y<4294967296^K:=by
  rw[<-hY];exact Rh (cC y HB.out.ok) (Rx I O)
 have a4:=J p4;have i1:=J q0;have d4:=J hX;have e0:=J hY;clear p4 q0 hX hY hK
 go_enter func174,ntmps174
 go_wp2_with fail
 refine(dZ A ca x _ HA.out O).mono ?_;intro e w1 h1;rw[d4.out]at h1;obtain⟨v1,rfl,C,b0⟩:=h1.num (Q3 _);have u:=J C;have l8:=J b0;have l6:=b0.size;clear h1 C b0
 go_wp2_with fail
 refine(dZ B cb y _ (HB.out.below l8.out) O).mono ?_;intro e w2 h2;rw[e0.out]at h2;obtain⟨v2,rfl,D,L⟩:=h2.num l6;have a0:=J D;have u:=J (u.out.below L);have g4:=J (aL l8.out L l6);have y0:w.heap.size<=w2.heap.size:=Q7 l6 L.size;clear h2 D L;obtain⟨A1,c1,e1,b4⟩:=u.out.is;obtain⟨A2,c2,e2,b5⟩:=a0.out.is;subst e1 e2;have w0:(aD X).length<=K:=bq a4.out;have w3:(aD Y).length<=K:=bq i1.out;have z1:(aD X).length=0↔X=0:=b9;have z2:(aD Y).length=0↔Y=0:=b9;have i2:=J z1;have p0:=J z2;clear b4 b5 z1 z2;by_cases r:X=0
 ·have g1:(((aD X).length:Int)==0)=true:=by rw[beq_iff_eq];have:=i2.out.2 r;omega
  have d3:=J r;clear r
  go_wp2
  go_ret
  exact⟨_,Z,by rw[d4.out,e0.out,d3.out,Uu];exact a0.out,g4.out⟩
 by_cases M:Y=0
 ·have g1:(((aD X).length:Int)==0)=false:=by rw[beq_eq_false_iff_ne];intro h;exact r (i2.out.1 O)
  have g2:(((aD Y).length:Int)==0)=true:=by rw[beq_iff_eq];have:=p0.out.2 M;omega
  have i0:=J M;clear M r
  go_wp2
  go_ret
  exact⟨_,Z,by rw[d4.out,e0.out,i0.out,T6];exact u.out,g4.out⟩
 have g1:(((aD X).length:Int)==0)=false:=by rw[beq_eq_false_iff_ne];intro h;exact r (i2.out.1 O)
 have g2:(((aD Y).length:Int)==0)=false:=by rw[beq_eq_false_iff_ne];intro h;exact M (p0.out.1 O)
 have d3:=J r;have i0:=J M;clear r M
 go_wp2
 go_loopw [5,6,7] (λx y sh wr=>Pw w X Y x y sh wr) (λ_ _ sh _=>X-(intOf sh).toNat)
 case atStart=>exact⟨X,Y,0,Z,u.out,a0.out,RR d3.out,RR i0.out,F,F,g4.out⟩
 case round=>
  obtain⟨a,b,s,rfl,q,k,ha,hb,f,i9,z⟩:=hrel;obtain⟨Aa,t9,ea,c0⟩:=q.is;obtain⟨Ab,p3,eb,c3⟩:=k.is;subst ea eb;have u2:(aD a).length<=K:=zX (FC f) a4.out;have u3:(aD b).length<=K:=zX (FC i9) i1.out;have y1:=JG ha f a4.out;have y2:=JF ha f;obtain⟨ba,oa,da,e1,q1,k0,k1,x0⟩:=oU c0 O;obtain⟨bb,ob,db,e2,q2,k2,k3,x1⟩:=oU c3 O;subst e1 e2;have e5:=z.size;have d2:=J q;have h9:=J k;have s3:=J c0;have s4:=J c3;have d0:=J f;have d1:=J i9;have U:=J z;have Q:=J (qI da k1);have R:=J (qI db k3);clear q k c0 c3 f i9 z;have p1:bits .and .u32 (da:Int) 1=((a%2:Nat):Int):=by rw[Q.out,k0]
  have p2:bits .and .u32 (db:Int) 1=((b%2:Nat):Int):=by rw[R.out,k2]
  by_cases q9:a%2=0/\b%2=0
  ·obtain⟨o,p⟩:=q9;rw[o]at p1;rw[p]at p2;have V:=J o;have W:=J p;clear o p k0 k2 Q R
   go_wp2_with fail
   refine(FB s3.out O).mono ?_;intro e w4 N;obtain⟨v4,rfl,d,c⟩:=N.num (w:=w) e5;have v:=J d;have m:=J c;have e4:w.heap.size<=w4.heap.size:=Q7 e5 c.size;clear N d c p1 p2 q1 q2
   go_wp2_with fail
   refine(FB (s4.out.below m.out) O).mono ?_;intro e w5 h5;obtain⟨v5,rfl,l,j⟩:=h5.num (w:=w) e4;have a2:=J l;have n0:=J (v.out.below j);have S:=J (aL (aL U.out m.out e5) j e4);clear h5 l j
   go_wp2
   go_roundw
   case rel=>exact⟨a/2,b/2,s+1,by go_num,n0.out,a2.out,(ub ha d0.out V.out).1,(ub hb d1.out W.out).1,(ub ha d0.out V.out).2,(ub hb d1.out W.out).2,S.out⟩
   case measure=>simp[intOf];omega
  have HG:=J (show Nat.gcd a b*2^s=Nat.gcd X Y by rw[<-d0.out,<-d1.out,Nat.gcd_mul_right]);have a3:=J (show a%2=1\/b%2=1 by omega);have P:=J (show a<4294967296^K from SG (FC d0.out) a4.out);have T:=J (show b<4294967296^K from SG (FC d1.out) i1.out);have r2:(a%2=1)\/(a%2=0/\b%2=1):=O
  obtain⟨wo,u4⟩:∃wo:World,wo=wr:=⟨_,Z⟩;subst u4;clear q9 k0 k2 Q R;rcases r2 with g0|⟨g0,r3⟩
  all_goals
   rw[g0]at p1;try rw[r3]at p2
   go_wp2
   clear p1 p2 q1 q2
   go_loopw [5,6] (λx y w'=>Px w (Nat.gcd X Y) s K x y w') (λx y w'=>te x w'+te y w')
   case atStart=>exact⟨a,b,d2.out,h9.out,ha,a3.out,HG.out,P.out,T.out,U.out⟩
   case round=>
    obtain⟨a,b,q,k,ha,f9,hg,i3,i4,z⟩:=hrel;have d2:=J q;have h9:=J k;have a3:=J f9;have HG:=J hg;have P:=J i3;have T:=J i4;have U:=J z;have e5:=z.size;have u2:(aD a).length<=K:=bq i3;have u3:(aD b).length<=K:=bq i4;have m3:=J q.num;have m4:=J k.num;obtain⟨Ab,p3,eb,c3⟩:=k.is;obtain⟨Aa,t9,ea,c0⟩:=q.is;subst ea eb;clear q k f9 hg i3 i4 z c0 c3;by_cases a9:b=0
    ·have v9:((aD b).length:Int)<=0:=by have:=b9.2 a9;omega
     have m2:=J (show a*2^s=Nat.gcd X Y by have:=HG.out;rwa[a9,T6]at this);have l0:decide (0<((aD b).length:Int))=false:=by rw[decide_eq_false_iff_not];omega
     have l1:decide (0<(aD b).length)=false:=by rw[decide_eq_false_iff_not];omega
     clear a9;obtain⟨wp,l7⟩:∃wp:World,wp=wr:=⟨_,Z⟩;subst l7
     go_wp2
     go_loopw [5,8] (λx i w'=>PA w a s x i w') (λ_ i _=>s-(intOf i).toNat)
     case atStart=>exact⟨0,O,Z,by rw[TM,ST];exact d2.out,U.out⟩
     case round=>
      obtain⟨t,ht,rfl,l3,i5⟩:=hrel;have t4:=J l3;have l9:=J i5;have r4:=i5.size;obtain⟨v3,ct,et,r0⟩:=l3.is;subst et;have s5:=J r0;have w6:(aD (a*2^t)).length<=2*K:=by
       refine bq ?_;have h1:a*2^t<=a*2^s:=Sz _ (Rx I ht);rw[m2.out]at h1;have h2:Nat.gcd X Y<=X:=U8 _ (RR d3.out);have h3:4294967296^K<=4294967296^(2*K):=Rx I O;have N:=a4.out;omega
      clear l3 i5 r0;by_cases y3:t<s
      ·go_wp2_with fail
       refine(Mv (bit:=0) s5.out O O).mono ?_;intro e w4 N;obtain⟨v4,rfl,d,c⟩:=N.num (w:=w) r4;rw[show 2*(a*2^t)+0=a*2^(t+1) by rw[RA,SB,Rk 2,Ry]]at d;have v:=J d;have m:=J (aL l9.out c r4);clear N d c
       go_wp2
       go_roundw
       case rel=>exact⟨t+1,O,by go_num,v.out,m.out⟩
       case measure=>simp[intOf];omega
      obtain rfl:t=s:=O
      go_wp2
      go_ret
      exact⟨_,Z,by rw[d4.out,e0.out,<-m2.out];exact t4.out,l9.out⟩
    have b0:0<b:=O
    have x2:0<(aD b).length:=by
     rcases RV (aD b).length with h|h
     ·exact absurd (b9.1 h) a9
     exact h
    clear a9;obtain⟨g,l2⟩:∃g,Nat.gcd a b=g:=⟨_,Z⟩;have s1:=J l2;rw[l2]at HG;clear l2;obtain⟨wp,l7⟩:∃wp:World,wp=wr:=⟨_,Z⟩;subst l7
    go_wp2
    go_loopw [5] (λx w'=>Py w g a b x (.slice Ab (aD b).length p3) w') (λx w'=>te x w')
    case atStart=>exact⟨a,d2.out,h9.out,ha,Q3 _,a3.out,s1.out,U.out⟩
    case round=>
     obtain⟨n,C,k,u0,f7,c9,l0,b1⟩:=hrel;have u:=J C;have f4:=J k;have m1:=J l0;have e7:=J b1;have t0:=J C.num;have g3:=b1.size;have u9:(aD n).length<=K:=zX f7 P.out;obtain⟨A1,c1,e1,b4⟩:=C.is;subst e1;obtain⟨bx,ox,dx,ex,q5,q7,k4,x3⟩:=oU b4 O;subst ex;have s2:=J b4;have f:=qI dx k4;rw[q7]at f;clear C k l0 b1 b4 q7;by_cases o:n%2=0
     ·rw[o]at f;have e6:=J (show b%2=1 by omega);have V:=J o;clear o c9
      go_wp2_with fail
      refine(FB s2.out O).mono ?_;intro e w4 N;obtain⟨v4,rfl,d,c⟩:=N.num (w:=w) g3;have v:=J d;have h7:=J d.num;have n2:=J (f4.out.below c);have m:=J (aL e7.out c g3);clear N d c f q5
      go_wp2
      go_roundw
      case rel=>exact⟨n/2,v.out,n2.out,by have:=V.out;omega,O,.inr e6.out,by rw[pI V.out e6.out];exact m1.out,m.out⟩
      case measure=>rw[h7.out,t0.out];omega
     have l4:n%2=1:=O
     rw[l4]at f;have o1:=J l4;clear o c9 l4;obtain⟨wq,u8⟩:∃wq:World,wq=wr:=⟨_,Z⟩;subst u8
     go_wp2
     clear f q5
     go_loopw [6] (λy w'=>Pz w g b n (.slice (some ⟨bx,ox,none⟩) (aD n).length c1) y w') (λy w'=>te y w')
     case atStart=>exact⟨b,u.out,f4.out,b0,Q3 _,m1.out,e7.out⟩
     case round=>
      obtain⟨E,c4,D,L,f8,l1,b3⟩:=hrel;have f3:=J c4;have a0:=J D;have h0:=J l1;have e8:=J b3;have t1:=J D.num;have H:=b3.size;have v0:(aD E).length<=K:=zX f8 T.out;obtain⟨A2,c2,e2,b5⟩:=D.is;subst e2;obtain⟨v6,oy,dy,ey,q6,q8,k5,x4⟩:=oU b5 O;subst ey;have h6:=J b5;have f0:=J (show IsN wr (some ⟨bx,ox,none⟩) c1 (aD n) by
       obtain⟨A',c',e,hi⟩:=c4.is;injection e with e1 e2 e3
       subst e1 e3;exact hi)
      have a5:=qI dy k5;rw[q8]at a5;clear c4 D l1 b3 b5 q8;by_cases p:E%2=0
      ·rw[p]at a5;have W:=J p;clear p
       go_wp2_with fail
       refine(FB h6.out O).mono ?_;intro e w4 N;obtain⟨v4,rfl,d,c⟩:=N.num (w:=w) H;have v:=J d;have h7:=J d.num;have n1:=J (f3.out.below c);have m:=J (aL e8.out c H);clear N d c a5 q6
       go_wp2
       go_roundw
       case rel=>exact⟨E/2,n1.out,v.out,by have:=W.out;omega,O,by rw[uU o1.out W.out];exact h0.out,m.out⟩
       case measure=>rw[h7.out,t1.out];omega
      have l5:E%2=1:=O
      rw[l5]at a5;have t5:=J l5;clear p l5
      go_wp2_with fail
      refine(QC f0.out h6.out O O).mono ?_;rintro e w4 ⟨he,c⟩;have m:=J c;have e4:=c.size;have G:w.heap.size<=w4.heap.size:=Q7 H e4;have t7:=J (f3.out.below c);have t8:=J (a0.out.below c);have f1:=J (f0.out.below c);have f2:=J (h6.out.below c);have e9:=J (aL e8.out c H);clear c a5 q6;by_cases u1:E<n
      ·rw[ke u1]at he;subst he
       go_wp2_with fail
       refine(Pv f1.out f2.out O O O).mono ?_;rintro e w5 ⟨v5,rfl,c5,j⟩;have l:NumIn w w5 v5 (n-E):=OwnN.base_le c5 G;have a2:=J l;have h8:=J l.num;have o3:=J (t8.out.below j);have t3:=J o3.out.num;have S:=J (aL e9.out j G);clear c5 l j
       go_wp2
       go_roundw
       case rel=>exact⟨E,n-E,o3.out,a2.out,L,.inl t5.out,by rw[Vf O,TF,h0.out];exact HG.out,SG f8 T.out,SG O P.out,S.out⟩
       case measure=>rw[h8.out,t3.out,m3.out,m4.out];omega
      have r1:n<=E:=O
      have q3:fE (n:Int) (E:Int)<=0:=by
       rcases RE n E with h|h
       ·rw[lB h];decide
       rw[m7 O];decide
      obtain⟨cm,q4⟩:∃cm,fE (n:Int) (E:Int)=cm:=⟨_,Z⟩;rw[q4]at he q3;subst he;clear q4
      go_wp2_with fail
      refine(Pv f2.out f1.out O O r1).mono ?_;rintro e w5 ⟨v5,rfl,c5,j⟩;have l:NumIn w w5 v5 (E-n):=OwnN.base_le c5 G;have a2:=J l;have h8:=J l.num;have o2:=J (t7.out.below j);have t2:=J o2.out.num;have S:=J (aL e9.out j G);clear c5 l j
      go_wp2
      go_roundw
      case rel=>exact⟨n,E-n,o2.out,a2.out,u0,.inl o1.out,by rw[Vf r1,h0.out];exact HG.out,SG f7 P.out,SG O T.out,S.out⟩
      case measure=>rw[h8.out,t2.out,m3.out,m4.out];omega
def x7(k g:Nat)(qs:List Nat):(List.replicate (k+1) 0++qs).set k g=List.replicate k 0++g::qs:=by
 rw[List.replicate_succ',RL,SY _ _ F];simp
def JH(a:List Nat)(k:Nat)(h:k<a.length):aG (a.drop k)=a[k]+4294967296*aG (a.drop (k+1)):=by
 rw[Re h,aG]
def sv(n:Nat)(w:World)(x:n<18446744073709551616):Calls prog 102 #[.int .u64 n] w (NatPost n w):=by
 have q:aG [n%4294967296,n/4294967296]=n:=by simp only[aG];omega
 have f:Digs [n%4294967296,n/4294967296]:=λd f=>by
  simp only[Ri,RM,or_false]at f;rcases f with rfl|rfl<;>omega
 obtain⟨W,m,a,g,l⟩:=Dt w 50 #[.int .u32 ((n:Int)%4294967296),.int .u32 ((n:Int)/4294967296)];have o:IsN W (some ⟨w.heap.size,0,none⟩) 2 [n%4294967296,n/4294967296]:=by
  refine⟨λ_=>⟨w.heap.size,0,Z,O,λj u t=>?_⟩,λe=>(by cases e),F,O,f⟩;rw[R4,g.cell j,<-t];simp[cT]
 have b:=J (dZ (some ⟨w.heap.size,0,none⟩) 2 [n%4294967296,n/4294967296] W o F);rw[q]at b;have s:=J m;have r:=J a;have p:=a.size;clear q f o m a g l
 go_enter func102,ntmps102
 go_wp2_with fail
 rw[s.out];refine b.out.mono ?_;rintro e y ⟨v,rfl,h,c⟩;have k:=J (h.base_le p);have i:=J (r.out.trans (c.mono p));clear h c
 go_wp2
 go_ret
 exact⟨v,Z,k.out,i.out⟩
def PB{P:Program}{f:FuncId}{w:World}{n:Nat}{x:Int}(h:x=(n:Int))(a:Calls P f #[.int .u64 (n:Int)] w (NatPost n w)):Calls P f #[.int .u64 x] w (NatPost n w):=by subst h;exact a
def JI(n:Int)(w:World)(j: -9223372036854775808<=n)(k:n<=9223372036854775807):Calls prog 162 #[.int .i64 n] w (NatPost n.natAbs w):=by
 have g:=J (λw=>sv n.natAbs w O);by_cases l:n<0
 ·go_enter func162,ntmps162
  go_wp2_with fail
  refine(PB (n:=n.natAbs) O (g.out _)).mono ?_;rintro e i ⟨f,rfl,b,a⟩;have d:=J b;have c:=J a;clear b a
  go_wp2
  go_ret
  exact⟨f,Z,d.out,c.out⟩
 have h:0<=n:=O
 go_enter func162,ntmps162
 go_wp2_with fail
 refine(PB (n:=n.natAbs) O (g.out _)).mono ?_;rintro e i ⟨f,rfl,b,a⟩;have d:=J b;have c:=J a;clear b a
 go_wp2
 go_ret
 exact⟨f,Z,d.out,c.out⟩
def QE{wr:World}{A B:Option Addr}{c d m n:Nat}(h:IsN wr A c (aD m))(a:IsN wr B d (aD n))(e:(aD m).length<=1048576)(b:(aD n).length<=1048576):Calls prog 174 #[.slice A (aD m).length c,.slice B (aD n).length d] wr (NatPost (Nat.gcd m n) wr):=by
 have:=FD A B c d (aD m) (aD n) wr h a O O;rwa[aW,aW]at this
def PC{wr:World}{A B:Option Addr}{c d m n:Nat}(h:IsN wr A c (aD m))(a:IsN wr B d (aD n))(f:(aD m).length<=1048576)(b:(aD n).length<=1048576)(e:0<n):Calls prog 175 #[.slice A (aD m).length c,.slice B (aD n).length d] wr (FA m n wr):=by
 have:=uT A B c d (aD m) (aD n) wr h a O O (by rw[aW];exact e);rwa[aW,aW]at this
def IsD(W:World)(v:Value)(n:Nat):Prop:=∃A c,v=.slice A (aD n).length c/\IsN W A c (aD n)
def IsD.below{W W':World}{v:Value}{n:Nat}(h:IsD W v n)(a:Below W.heap.size W W'):IsD W' v n:=by
 obtain⟨A,c,e,b⟩:=h;exact⟨A,c,e,b.below a⟩
def uV(ng:Bool)(N D:Nat)(w:World)(e:Ending)(w':World):Prop:=∃vn vd,e=.returned (.agg #[.bool ng,vn,vd])/\OwnN w' w.heap.size vn (aD N)/\OwnN w' w.heap.size vd (aD D)/\Below w.heap.size w w'
def Bl(l:Bool)(A B:Option Addr)(ca cb X Y:Nat)(w:World)(hA:IsN w A ca (aD X))(hB:IsN w B cb (aD Y))(x:(aD X).length<=1048576)(y:(aD Y).length<=1048576)(hY:0<Y):
  Calls prog 110 #[.bool l,.slice A (aD X).length ca,.slice B (aD Y).length cb] w (uV (l&&decide (X≠0)) (X/Nat.gcd X Y) (Y/Nat.gcd X Y) w):=by
 have HA:=J hA;have HB:=J hB;clear hA hB;obtain⟨W,hW,t,U,e7⟩:=Dt w 65 #[.bool false,.slice none 0 0,.slice none 0 0];have HW:=J hW;have n:=J t;have M:=J U;have a9:=t.size;have e8:w.heap.size<W.heap.size:=O
 clear hW t U e7;have T:0<Nat.gcd X Y:=Nat.gcd_pos_of_pos_right _ hY;have b5:Nat.gcd X Y<=Y:=Nat.gcd_le_right _ hY;have a3:X/Nat.gcd X Y=0↔X=0:=by
  constructor
  ·intro h;have i:=TB (UC X Y);rw[h]at i;omega
  intro h;rw[h];simp
 have S:Y/Nat.gcd X Y≠0:=by
  intro h;have i:=TB (VH X Y);rw[h]at i;omega
 have f7:(aD (X/Nat.gcd X Y)).length<=1048576:=Q7 (bh (Ti _ _)) x;have V:(aD (Nat.gcd X Y)).length<=1048576:=Q7 (bh b5) y;generalize hg:Nat.gcd X Y=g at*;have o:=J a3;have b3:=J S;have L:=J hg;clear a3 S hg
 go_enter func110,ntmps110
 go_wp2_with fail
 rw[HW.out];refine(QE (HA.out.below n.out) (HB.out.below n.out) x y).mono ?_;intro e w1 i;rw[L.out]at i;obtain⟨A1,c1,rfl,a0,f⟩:=i.open_;have N:=J a0;have E:=J (aL n.out f a9);have a4:w.heap.size<=w1.heap.size:=Q7 a9 f.size;have b0:w.heap.size<w1.heap.size:=Rh e8 f.size;have H:=J (M.out.below f M.out.lt);clear i a0 f
 go_wp2_with fail
 refine(PC (HA.out.below E.out) N.out x V T).mono ?_;rintro e w2 ⟨q2,r2,rfl,C,d4,b⟩;obtain⟨A2,c2,e2,a1⟩:=C.is (ck _);subst e2;have e9:=J a1;have F:=J (aL E.out b a4);have a5:w.heap.size<=w2.heap.size:=Q7 a4 b.size;have I:=J (H.out.below b H.out.lt);have P:=J (N.out.below b);have b4:=J (C.base_le (Uv b0));have b1:w.heap.size<w2.heap.size:=Rh b0 b.size;clear C d4 a1 b
 go_wp2_with fail
 refine(PC (HB.out.below F.out) P.out y V T).mono ?_;rintro e w3 ⟨q3,r3,rfl,D,e0,c⟩;obtain⟨A3,c3,e3,a2⟩:=D.is (ck _);subst e3;have f0:=J a2;have G:=J (aL F.out c a5);have e1:w.heap.size<=w3.heap.size:=Q7 a5 c.size;have j:=J (I.out.below c I.out.lt);have m:=J (b4.out.below c);have Q:=J (D.base_le (Uv b1));have e5:w.heap.size<w3.heap.size:=Rh b1 c.size;clear D e0 a2 c;have f4:(((aD (Y/g)).length:Int)==0)=false:=by rw[beq_eq_false_iff_ne];intro h;exact b3.out (b9.1 O)
 by_cases a:X=0
 ·have d:=J a;have g1:(((aD (X/g)).length:Int)==0)=true:=by rw[beq_iff_eq];have:=b9.2 (o.out.2 a);omega
  clear a
  go_wp2_with fail
  refine(sv 1 _ O).mono ?_;rintro e w4 ⟨v4,rfl,z,r⟩;have R:=J (z.base_le (Uv e5));have b2:=J (aL G.out r e1);have K:=J (j.out.below r j.out.lt);obtain⟨p,q,d3,f1,f2,f3⟩:=K.out.three;obtain⟨A4,c4,e4,_⟩:=z.is (ck 1);subst e4;clear z r
  go_wp2
  clear p q d3 f1 f2 f3;obtain⟨w6,h6,u,s,e6,k⟩:=iG K.out (.bool false) (.slice none 0 0) (.slice A4 (aD 1).length c4);rw[h6];obtain⟨d0,p,q,_,_,_⟩:=u.three;have c9:OwnN w6 (w.heap.size+1) (.slice A4 (aD 1).length c4) (aD 1):=jw R.out (oT R.out (Uh _)) k;refine bodyPost_ret (v:=.agg #[.bool false,.slice none 0 0,.slice A4 (aD 1).length c4]) (by simp[results,results110,go_sem,d0,p,q]) Z ⟨.slice none 0 0,.slice A4 (aD 1).length c4,by rw[d.out];simp,?_,?_,b2.out.trans s⟩
  ·rw[o.out.2 d.out];exact OwnN.nil _ _
  have e:Y/g=1:=by
   have i:=L.out;rw[d.out,Uu]at i;rw[<-i];exact Nat.div_self hY
  rw[e];exact c9.base_le (VJ _)
 have d:=J a;have g1:(((aD (X/g)).length:Int)==0)=false:=by rw[beq_eq_false_iff_ne];intro h;exact a (o.out.1 (b9.1 O))
 clear a;obtain⟨p,q,d3,f1,f2,f3⟩:=j.out.three
 go_wp2
 clear p q d3 f1 f2 f3;obtain⟨w6,h6,u,s,e6,k⟩:=iG j.out (.bool l) (.slice A2 (aD (X/g)).length c2) (.slice A3 (aD (Y/g)).length c3);rw[h6];obtain⟨d0,p,q,_,_,_⟩:=u.three;have c0:OwnN w6 (w.heap.size+1) (.slice A2 (aD (X/g)).length c2) (aD (X/g)):=jw m.out (oT m.out (Uh _)) k;have c5:OwnN w6 (w.heap.size+1) (.slice A3 (aD (Y/g)).length c3) (aD (Y/g)):=jw Q.out (oT Q.out (Uh _)) k;refine bodyPost_ret (v:=.agg #[.bool l,.slice A2 (aD (X/g)).length c2,.slice A3 (aD (Y/g)).length c3]) (by simp[results,results110,go_sem,d0,p,q]) Z ⟨_,_,?_,c0.base_le (VJ _),c5.base_le (VJ _),G.out.trans s⟩;have hx:=d.out;simp[hx]
def zY(a:Bool)(A B:Option Addr)(q r X Y:Nat)(w:World)(Q:IsN w A q (aD X))(R:IsN w B r (aD Y))(D:(aD X).length<=1048576)(E:(aD Y).length<=1048576)(hY:0<Y):
  Calls prog 48 #[.agg #[.bool a,.slice A (aD X).length q,.slice B (aD Y).length r]] w (uV (a&&decide (X≠0)) (X/Nat.gcd X Y) (Y/Nat.gcd X Y) w):=by
 have T:=J Q;have U:=J R;clear Q R;obtain⟨W,S,f,C,b,H⟩:=AU w 65 65 #[.bool a,.slice A (aD X).length q,.slice B (aD Y).length r] #[.bool false,.slice none 0 0,.slice none 0 0];have V:=J S;have c:=J f;have k:=J b;have i:=f.size;have p:w.heap.size+1<W.heap.size:=O
 clear S f C b H;have t:=J (Bl a A B q r X Y W (T.out.below c.out) (U.out.below c.out) D E hY)
 go_enter func48,ntmps48
 go_wp2_with fail
 rw[V.out];refine t.out.mono ?_;rintro e w1 ⟨vn,vd,rfl,h,g,d⟩;obtain⟨K,M,en,_⟩:=h.is (ck _);obtain⟨I,L,ed,_⟩:=g.is (ck _);subst en ed;have n:=J h;have m:=J g;have s:=J (aL c.out d i);have j:=J (k.out.below d k.out.lt);obtain⟨u,x,d3,f1,f2,f3⟩:=j.out.three;clear h g d
 go_wp2
 clear u x d3 f1 f2 f3;obtain⟨w6,N,z,y,a0,o⟩:=iG j.out (.bool (a&&decide (X≠0))) (.slice K (aD (X/Nat.gcd X Y)).length M) (.slice I (aD (Y/Nat.gcd X Y)).length L);first
  |rw[N]
  |(have P:=N;simp only[ne_eq,decide_not]at P;rw[P])
 obtain⟨d0,u,x,_,_,_⟩:=z.three;have F:=jw n.out (oT n.out p) o;have G:=jw m.out (oT m.out p) o;exact bodyPost_ret (v:=.agg #[.bool (a&&decide (X≠0)),.slice K (aD (X/Nat.gcd X Y)).length M,.slice I (aD (Y/Nat.gcd X Y)).length L]) (by simp[results,results48,go_sem,d0,u,x]) Z ⟨_,_,Z,OwnN.base_le (l:=aD (X/Nat.gcd X Y)) F i,OwnN.base_le (l:=aD (Y/Nat.gcd X Y)) G i,s.out.trans (y.mono O)⟩
end Go.Proofs.YtfoejfohbkmmeaaGreatDoor
namespace Go.Proofs.YtfoejfohbkmmeaaGreatDoor
open Go.RowKit
structure Rd (α:Type) where
 size:Nat
 rd:World->List Value->α->Prop
 len:∀{w cs a},rd w cs a->cs.length=size
 keep:∀{w w' cs a},rd w cs a->Below w.heap.size w w'->rd w' cs a
 one:∀{w cs a},rd w cs a->∀u∈cs,u.oneCell'=true
inductive Reads {α:Type} (R:Rd α) (W:World):List Value->List α->Prop
 |nil:Reads R W [] []
 |cons {cs xs:List Value} {a:α} {l:List α} (h:R.rd W cs a) (hs:Reads R W xs l):Reads R W (cs++xs) (a::l)
variable {α:Type} {R:Rd α}
def iB(K:World->Value->Prop)(w:World)(e:Ending)(w':World):Prop:=∃v,e=.returned v/\K w' v/\Below w.heap.size w w'
end Go.Proofs.YtfoejfohbkmmeaaGreatDoor
namespace Go.Proofs.YtfoejfohbkmmeaaGreatDoor
open Go.RowKit
open Lib renaming hid→J
def IsD.open_{W:World}{v:Value}{n:Nat}(h:IsD W v n):∃A c a,v=.slice A a.length c/\IsN W A c a/\Hid (a=aD n):=by
 obtain⟨A,c,e,b⟩:=h;exact⟨A,c,aD n,e,b,Z⟩
def IsN.isD{W:World}{A:Option Addr}{c n:Nat}{a:List Nat}(h:IsN W A c a)(b:a=aD n):IsD W (.slice A a.length c) n:=by subst b;exact⟨A,c,Z,h⟩
def OwnN.isD{W:World}{base:Nat}{v:Value}{n:Nat}(h:OwnN W base v (aD n)):IsD W v n:=h.is (ck n)
def IsN.cut{W:World}{A:Option Addr}{c k:Nat}{a:List Nat}(h:IsN W A c a)(i:k<=a.length)(d:a.take k=aD (aG a))(f:A=none->k=0):IsD W (.slice A k k) (aG a):=by
 have b:(aD (aG a)).length=k:=by rw[<-d,Rb];omega
 have g:=h.cap;have j:=h.max;refine⟨A,k,by rw[b],?_,λe=>⟨by rw[b];exact f e,f e⟩,O,O,ck _⟩;have:=h.at_.takeN k;rwa[d]at this
def IsN.nz{W:World}{A:Option Addr}{c:Nat}{a:List Nat}(h:IsN W A c a)(d:0<a.length):∃b off,A=some ⟨b,off,none⟩:=by
 obtain⟨b,off,e,_⟩:=h.digit d;exact⟨b,off,e⟩
def uW(A:Option Addr)(c:Nat)(f:List Nat)(w:World)(h:IsN w A c f)(_hl:f.length<=1073741823):
  Calls prog 193 #[.slice A f.length c] w (iB (λW v=>IsD W v (aG f)) w):=by
 have m:=J h;have z:=h.cap;have B:=h.max;clear h
 go_enter func193,ntmps193
 go_wp2
 go_loop [3] (λi=>∃k:Nat,k<=f.length/\i=.int .i64 k/\(∀(j:Nat) (r:j<f.length),k<=j->f[j]=0)) (λi=>(intOf i).toNat)
 case atStart=>exact⟨f.length,Q3 _,Z,λj r h=>O⟩
 case round=>
  obtain⟨k,o,rfl,C⟩:=hrel;have x:=J C;clear C;have g:(k=0\/∃h:k-1<f.length,f[k-1]≠0)->f.take k=aD (aG f):=λs=>x6 f k o m.out.ok x.out s
  have u:=J g;clear g;by_cases F:0<k
  ·obtain⟨b,off,rfl,G,y⟩:=m.out.digit (i:=k-1) O;have p:=y (k-1) O;obtain⟨d,q⟩:∃d,f[k-1]'O=d:=⟨_,Z⟩;rw[q]at p;have t:=J q;clear y q;by_cases l:d=0
   ·subst l
    go_wp2
    go_round
    case rel=>
     refine⟨k-1,O,by go_num,λj r h=>?_⟩;by_cases e:j=k-1
     ·subst e;exact t.out
     exact x.out j r O
    case measure=>simp[intOf];omega
   have n:=J (u.out (.inr ⟨O,by rw[t.out];exact l⟩));have D:((d:Int)==0)=false:=by simpa using l
   go_wp2
   go_ret
   exact⟨_,Z,m.out.cut o n.out (λe=>by cases e),Below.refl _ _⟩
  obtain rfl:k=0:=O
  have n:=J (u.out (.inl Z));cases A with
  |none=>
   obtain⟨E,rfl⟩:=m.out.nil Z
   go_wp2
   go_ret
   exact⟨_,Z,m.out.cut o n.out (λ_=>rfl),Below.refl _ _⟩
  |some a=>
   go_wp2
   go_ret
   exact⟨_,Z,m.out.cut o n.out (λ_=>rfl),Below.refl _ _⟩
def mj{v:Value}{n:Nat}{w:World}(h:IsD w v n)(b:(aD n).length<=1073741823):Calls prog 193 #[v] w (iB (λW v=>IsD W v n) w):=by
 obtain⟨A,c,rfl,a⟩:=h;have:=uW A c (aD n) w a b;rwa[aW]at this
def sx(n:Nat)(w:World)(y:n<18446744073709551616):Calls prog 149 #[.int .u64 n] w (iB (λW v=>IsD W v n) w):=by
 have p:aG [n%4294967296,n/4294967296]=n:=by simp only[aG];omega
 have f:Digs [n%4294967296,n/4294967296]:=λd f=>by
  simp only[Ri,RM,or_false]at f;rcases f with rfl|rfl<;>omega
 obtain⟨W,m,a,g,l⟩:=Dt w 50 #[.int .u32 ((n:Int)%4294967296),.int .u32 ((n:Int)/4294967296)];have o:IsN W (some ⟨w.heap.size,0,none⟩) 2 [n%4294967296,n/4294967296]:=by
  refine⟨λ_=>⟨w.heap.size,0,Z,O,λj u t=>?_⟩,λe=>(by cases e),F,O,f⟩;rw[R4,g.cell j,<-t];simp[cT]
 have b:=J (uW (some ⟨w.heap.size,0,none⟩) 2 [n%4294967296,n/4294967296] W o F);rw[p]at b;have r:=J m;have q:=J a;have s:=a.size;clear p f o m a g l
 go_enter func149,ntmps149
 go_wp2_with fail
 rw[r.out];refine b.out.mono ?_;rintro e z ⟨x,rfl,h,c⟩;have k:=J h;have i:=J (q.out.trans (c.mono s));clear h c
 go_wp2
 go_ret
 exact⟨x,Z,k.out,i.out⟩
def GQ{W:World}{g:Nat}{cur:List Value}{A:Option Addr}{c:Nat}{a:List Nat}(f:W.heap[g]? =some (.cells cur.toArray 50 (0,0)))(d:cur.length=a.length)(h:IsN W A c a):
  ∃w',(∀ty,(Builtin.copy_ #[63,63] ty #[.slice (some ⟨g,0,none⟩) a.length a.length,.slice A a.length c]).run prog W=.ok (.int .i64 (a.length:Nat)) w')/\w'.heap[g]? =some (.cells (cT a).toArray 50 (0,0))/\Below g W w':=by
 have j:=underlying63;have i:(prog.info? 50).map (·.size)=some 1:=U
 by_cases k:a.length=0
 ·obtain rfl:a=[]:=Rj k;obtain rfl:cur=[]:=Rj d;exact⟨W,λty=>by simpa[goInt]using run_copy_none (P:=prog) W 63 63 ty _ (some ⟨g,0,none⟩) A 0 0 0 c j i Z,by simpa[cT]using f,Below.refl _ _⟩
 obtain⟨b,off,rfl⟩:=h.nz O;have l:=λty=>run_copy_row (P:=prog) W 63 63 ty _ g 0 a.length a.length ⟨b,off,none⟩ a.length c cur.toArray _ (cT a) j i f (by rw[dY];simp) h.at_.news (by rw[dY];simp;omega) (uN _)
 have e:((cur.toArray.toList.take 0++cT a)++cur.toArray.toList.drop (0+(cT a).length))=cT a:=by
  rw[Rc (by rw[dY];simp;omega)];simp
 exact⟨W.setRow g (cT a).toArray,λty=>by rw[l ty,e,dY];rfl,setRow_heap W g _ _ _ _ f,below_setRow (Below.refl _ _) (Q3 _) _⟩
def FE{v:Value}{n:Nat}{w:World}(h:IsD w v n)(L:(aD n).length<=1073741823):Calls prog 172 #[v] w (iB (λW v=>IsD W v n) w):=by
 have M:=J (mj h L);obtain⟨V,Y,rfl,_⟩:=h
 go_enter func172,ntmps172
 go_wp2_with fail
 refine M.out.mono ?_;rintro e z ⟨v1,rfl,m,b⟩;obtain⟨X,c1,G,rfl,r,o⟩:=m.open_;have S:G.length<=1073741823:=by have:=o.out;rw[this];exact L
 have d:=J r;have A:=J b;have x:=b.size;clear m r b;obtain⟨W,s,t,k,y⟩:=fF z G.length O;have s:=s .i64 .i64;have F:=J t;have c:=J k;have N:=J y;clear t k y;obtain⟨cur,a,H⟩:∃cur:List Value,W.heap[z.heap.size]? =some (.cells cur.toArray 50 (0,0))/\cur.length=G.length:=by
  rcases F.out.2 with⟨K,_⟩|⟨g,P,cur,K,_,R,_,_,I,_⟩
  ·cases K
  injection K with f h2 Q
  injection f with f
  injection f with f
  subst f Q;refine⟨cur.toList,by simpa using R,?_⟩;simpa using I
 have C:=J a;clear a;have E:=J (d.out.below c.out);obtain⟨U,l,p,i⟩:=GQ C.out H E.out;have l:=l 3;have D:=J p;have B:=J ((aL A.out c.out x).trans (i.mono x));clear p i
 go_wp2
 go_ret
 refine⟨_,Z,?_,B.out⟩;refine IsN.isD (n:=n) ?_ o.out;have q:=D.out;refine⟨λ_=>⟨z.heap.size,0,Z,(RQ.1 q).1,λj u T=>?_⟩,λe=>(by cases e),Q3 _,O,d.out.ok⟩;rw[cell_of_row U z.heap.size (0+j) _ _ _ q];simpa using T
def JJ{a b:Int}(h:a=b):Value.int .i64 a=.int .i64 b:=by rw[h]
def DM{n:Nat}(b:n<18446744073709551616):(n=0/\aD n=[])\/(0<n/\n<4294967296/\aD n=[n])\/(4294967296<=n/\aD n=[n%4294967296,n/4294967296]):=by
 rcases RV n with rfl|h
 ·exact .inl ⟨Z,Z⟩
 rcases RE n 4294967296 with a|a
 ·refine .inr (.inl ⟨h,a,?_⟩);rw[fp O,S5 a,RC a];rfl
 refine .inr (.inr ⟨a,?_⟩);rw[fp O,fp O,show n/4294967296/4294967296=0 by omega,show n/4294967296%4294967296=n/4294967296 by omega];rfl
def FF(a b:Nat)(e:a<4294967296)(d:b<4294967296):bits .or .u64 (((a*4294967296:Nat)):Int) (b:Int)=((a*4294967296+b:Nat):Int):=by
 rw[u64_or_nat (a*4294967296) b O O];have c:(2:Nat)^32=4294967296:=I
 have:=SK (i:=32) (b:=b) (by rw[c];exact d) a;rw[Tm,c]at this;rw[this]
def FG{v:Value}{n:Nat}{w:World}(h:IsD w v n)(D:n<18446744073709551616):Calls prog 266 #[v] w (iB (λ_ r=>r=.tuple #[.int .u64 n,.bool true]) w):=by
 have M:(aD n).length<=2:=bq (by have:(4294967296^2:Nat)=18446744073709551616:=I;omega);have C:=J (mj h O);obtain⟨G,o,rfl,_⟩:=h
 go_enter func266,ntmps266
 go_wp2_with fail
 refine C.out.mono ?_;rintro e P ⟨N,rfl,q,p⟩;obtain⟨H,x,L,rfl,u,s⟩:=q.open_;have f:=J u;have j:=J p;have a:=J s.out;clear q u p s C;rcases DM D with⟨y,g⟩|⟨y,z,g⟩|⟨y,g⟩
 ·rw[g]at a;obtain rfl:=a.out;subst y;clear g D
  go_wp2
  go_ret2
  exact⟨_,Z,Z,j.out⟩
 ·rw[g]at a;obtain rfl:=a.out;obtain⟨b,off,rfl,E,m⟩:=f.out.digit (i:=0) F;have o:=m 0 F;simp only[T8,SB]at o;clear m g
  go_wp2
  go_ret2
  exact⟨_,Z,Z,j.out⟩
 rw[g]at a;obtain rfl:=a.out;obtain⟨b,off,rfl,E,m⟩:=f.out.digit (i:=0) F;have o:=m 0 F;have x:=m 1 F;simp only[T8,SB]at o;simp only[List.getElem_cons_succ,T8]at x;have l:=FF (n/4294967296) (n%4294967296) O O;rw[show n/4294967296*4294967296+n%4294967296=n by omega]at l;have k:=J l;have B:n%4294967296<4294967296:=O
 have A:n/4294967296<4294967296:=O
 obtain⟨lo,d⟩:∃lo,n%4294967296=lo:=⟨_,Z⟩;obtain⟨t,c⟩:∃t,n/4294967296=t:=⟨_,Z⟩;rw[d]at o k B f;rw[c]at x k A f;have K:=J (show n=t*4294967296+lo by omega);rw[d,c];clear l d c m g
 go_wp2
 go_quiet (fail)
 go_wp2
 go_ret2
 refine⟨_,Z,?_,bH j.out⟩;have z:=k.out;first
  |rfl
  |(rw[show(((t*4294967296:Nat)):Int)=(t:Int)*4294967296 by omega]at z;rw[<-z];rfl)
def cR(n:Nat):Nat:=if n=0 then 0 else 32*((aD n).length-1)+Lib.bitLen ((aD n).getD ((aD n).length-1) 0)
def DN{d:Nat}(h:0<d)(a:d<2^64):0<Lib.bitLen d:=by
 have:=(Lib.bitLenAux_bounds 64 d a O).1;exact this
def Mw{v:Value}{n:Nat}{w:World}(h:IsD w v n)(B:(aD n).length<=1048576):Calls prog 129 #[v] w (iB (λ_ r=>r=.int .i64 (cR n)) w):=by
 have u:=J (mj h O);obtain⟨F,z,rfl,_⟩:=h
 go_enter func129,ntmps129
 go_wp2_with fail
 refine u.out.mono ?_;rintro e M ⟨L,rfl,o,m⟩;obtain⟨G,H,a,rfl,p,g⟩:=o.open_;have k:=J p;have j:=J m;have C:a.length<=1048576:=by have:=g.out;rw[this];exact B
 have y:Hid (cR n=if a.length=0 then 0 else 32*(a.length-1)+Lib.bitLen (a.getD (a.length-1) 0)):=by
  show _=_
  unfold cR;rw[g.out];by_cases f:n=0
  ·rw[if_pos f,if_pos (b9.2 f)]
  rw[if_neg f,if_neg (λe=>f (b9.1 e))]
 clear o p m g u B;by_cases f:a.length=0
 ·have D:((a.length:Int)==0)=true:=by rw[beq_iff_eq];omega
  go_wp2
  go_ret
  exact⟨_,Z,by rw[y.out,if_pos f];rfl,j.out⟩
 have D:((a.length:Int)==0)=false:=by rw[beq_eq_false_iff_ne];omega
 obtain⟨b,off,rfl,K,A⟩:=k.out.digit (i:=0) O;have z:=A (a.length-1) O;have c:a[a.length-1]'O<4294967296:=k.out.ok _ (R6 _);obtain⟨d,s⟩:∃d,a[a.length-1]'O=d:=⟨_,Z⟩;rw[s]at z c;have l:Hid (cR n=32*(a.length-1)+Lib.bitLen d):=by
  show _=_
  rw[y.out,if_neg f,<-s,List.getD,Q2 O];rfl
 obtain⟨x,t⟩:∃x,Lib.bitLen d=x:=⟨_,Z⟩;have E:x<=32:=by rw[<-t];exact Lib.bitLen_le d 32 I (by rw[show(2:Nat)^32=4294967296 by decide];exact c)
 have q:=J (λw=>Tryz.bits_Len32 (d:Int) w O O);simp only[TG]at q;rw[t]at q l;clear A s t
 go_wp2_with fail
 refine(q.out _).mono ?_;rintro e N ⟨rfl,rfl⟩
 go_wp2
 go_ret
 exact⟨_,Z,JJ (by rw[l.out];omega),j.out⟩
def JK{u v:Value}{X Y:Nat}{w:World}(hu:IsD w u X)(hv:IsD w v Y)(W:(aD X).length<=1073741823)(a0:(aD Y).length<=1073741823):Calls prog 151 #[u,v] w (iB (λ_ r=>r=.int .i64 (fE X Y)) w):=by
 have HC:=J (mj hu W);have HV:=J hv;obtain⟨A0,c0,rfl,_⟩:=hu;obtain⟨B0,e0,rfl,_⟩:=hv
 go_enter func151,ntmps151
 go_wp2_with fail
 refine HC.out.mono ?_;rintro e w1 ⟨v1,rfl,R,s⟩;obtain⟨A1,c1,a,rfl,T,f⟩:=R.open_;have G:=J T;have D:=J s;have y:=J f.out;have a2:=s.size;clear R T s f HC;have E:=J (mj (HV.out.below D.out) a0)
 go_wp2_with fail
 refine E.out.mono ?_;rintro e w2 ⟨v2,rfl,S,d⟩;obtain⟨A2,c2,b,rfl,U,f⟩:=S.open_;have I:=J U;have H:=J (G.out.below d);have x:=J (aL D.out d a2);have z:=J f.out;have a9:w.heap.size<=w2.heap.size:=Q7 a2 d.size;clear S U d f E G;have M:Hid (aG a=X):=by rw[y.out];exact aW X
 have N:Hid (aG b=Y):=by rw[z.out];exact aW Y
 have L:=J (@m5 X Y);have t:=J (@m5 Y X);have b0:a.length<=1073741823:=by rw[y.out];exact W
 have b3:b.length<=1073741823:=by rw[z.out];exact a0
 rw[<-y.out,<-z.out]at L t;by_cases a1:a.length=b.length
 ·have c:=J a1;have g1:((a.length:Int)==(b.length:Int))=true:=by rw[beq_iff_eq];omega
  have g2:((a.length:Int) !=(b.length:Int))=false:=by rw[bne_eq_false_iff_eq];omega
  clear a1
  go_wp2
  go_loopw [5] (λi wr=>∃k:Nat,k<=a.length/\i=.int .i64 ((k:Int)-1)/\(∀(j:Nat) (n:j<a.length) (o:j<b.length),k<=j->a[j]=b[j])/\Below w2.heap.size w2 wr) (λi _=>(intOf i+1).toNat)
  case atStart=>exact⟨a.length,Q3 _,Z,λj n o h=>O,Below.refl _ _⟩
  case round=>
   obtain⟨k,hk,rfl,he,B⟩:=hrel;have m:=J he;have l:=J B;have HF:=J (aL x.out B a9);clear he B;cases k with
   |zero=>
    have a3:=J (show X=Y by rw[<-M.out,<-N.out,Bi a b c.out (λj n o=>m.out j n o O)])
    go_wp2
    go_ret
    exact⟨_,Z,by rw[m7 a3.out];rfl,HF.out⟩
   |succ k=>
    rw[show((k+1:Nat):Int)-1=(k:Int) by omega];obtain⟨b1,o1,rfl,s,P⟩:=(H.out.below l.out).digit (i:=k) O;obtain⟨b2,o2,rfl,d,Q⟩:=(I.out.below l.out).digit (i:=k) (by have:=c.out;omega);have c1:=P k O;have c2:=Q k (by have:=c.out;omega);have C:k<b.length:=by have:=c.out;omega
    have V:k<a.length:=O
    have K:Hid (a[k]'V<b[k]'C->aG a<aG b):=(λh=>zU a b k H.out.ok c.out O (λj n o h'=>m.out j n o O) h);have F:Hid (b[k]'C<a[k]'V->aG b<aG a):=(λh=>zU b a k I.out.ok c.out.symm C (λj n o h'=>(m.out j o n O).symm) h);rw[M.out,N.out]at K F;obtain⟨p,hp⟩:∃p,a[k]'O=p:=⟨_,Z⟩;obtain⟨q,hq⟩:∃q,b[k]=q:=⟨_,Z⟩;have HP:=J hp;have HQ:=J hq;rw[hp]at c1;rw[hq]at c2;clear P Q hp hq;have k0:(0:Int)<=(k:Int):=O
    have k1:(k:Int)<(a.length:Int):=O
    have k2:(k:Int)<(b.length:Int):=O
    rcases Ub p q with g|g|g
    ·have A:=J (K.out (by rw[HP.out,HQ.out];exact g));have t1:decide ((p:Int)<(q:Int))=true:=by simp;omega
     go_wp2
     go_quiet (fail)
     go_wp2
     go_ret
     exact⟨_,Z,by rw[lB A.out];rfl,bH HF.out⟩
    ·subst g
     go_wp2
     go_quiet (fail)
     go_wp2
     go_quiet (fail)
     go_wp2
     go_roundw
     case rel=>
      refine⟨k,O,by go_num,λj n o h=>?_,by first|exact bH (bH l.out)|exact bH l.out⟩;by_cases e:j=k
      ·subst e;rw[HP.out,HQ.out]
      exact m.out j n o O
     case measure=>simp[intOf]
    have A:=J (F.out (by rw[HP.out,HQ.out];exact g));have t1:decide ((p:Int)<(q:Int))=false:=by simp;omega
    have t2:decide ((q:Int)<(p:Int))=true:=by simp;omega
    go_wp2
    go_quiet (fail)
    go_wp2
    go_quiet (fail)
    go_wp2
    go_ret
    exact⟨_,Z,by rw[ke A.out];rfl,by first|exact bH (bH HF.out)|exact bH HF.out⟩
 have g1:((a.length:Int)==(b.length:Int))=false:=by rw[beq_eq_false_iff_ne];omega
 have g2:((a.length:Int) !=(b.length:Int))=true:=by rw[bne_iff_ne];omega
 rcases RE a.length b.length with a5|b4
 ·have A:=J (L.out a5)
  go_wp2
  go_ret
  exact⟨_,Z,by rw[lB A.out];rfl,x.out⟩
 have a4:b.length<a.length:=O
 have A:=J (t.out a4)
 go_wp2
 go_ret
 exact⟨_,Z,by rw[ke A.out];rfl,x.out⟩
def Ou(w:World)(G:Nat)(x y:Value)(wr:World):Prop:=∃a b:Nat,x=.int .u64 a/\y=.int .u64 b/\a<18446744073709551616/\b<18446744073709551616/\Nat.gcd a b=G/\Below w.heap.size w wr
def GR{u v:Value}{X Y:Nat}{w:World}(E:IsD w u X)(F:IsD w v Y)(G:X<18446744073709551616)(H:Y<18446744073709551616):Calls prog 244 #[u,v] w (iB (λW r=>IsD W r (Nat.gcd X Y)) w):=by
 have A:=J (FG E G);have K:=J F;obtain⟨T,V,rfl,_⟩:=E;obtain⟨U,e0,rfl,_⟩:=F
 go_enter func244,ntmps244
 go_wp2_with fail
 refine A.out.mono ?_;rintro e w1 ⟨v1,rfl,s,c⟩;obtain rfl:=s;have g:=J c;have m:=c.size;clear c A;have i:=J (FG (K.out.below g.out) H)
 go_wp2_with fail
 refine i.out.mono ?_;rintro e S ⟨v2,rfl,t,d⟩;obtain rfl:=t;have n:=J (aL g.out d m);have R:w.heap.size<=S.heap.size:=Q7 m d.size;clear d i
 go_wp2
 go_loopw [5,7] (λx y wr=>Ou w (Nat.gcd X Y) x y wr) (λ_ y _=>(intOf y).toNat)
 case atStart=>exact⟨X,Y,Z,Z,G,H,Z,n.out⟩
 case round=>
  obtain⟨a,b,rfl,rfl,M,N,C,f⟩:=hrel;have B:=J C;have h:=J f;have z:=f.size;clear C f;by_cases L:0<b
  ·have P:((b:Int)==0)=false:=by rw[beq_eq_false_iff_ne];omega
   have D:((a:Int)%(b:Int))=((a%b:Nat):Int):=O
   have Q:a%b<b:=RJ _ L
   go_wp2
   go_quiet (fail)
   go_wp2
   go_roundw
   case rel=>exact⟨b,a%b,Z,by first|rfl|(congr 1;simp[Te]),N,O,by rw[<-B.out,TF b,<-Ve,TF],bH h.out⟩
   case measure=>first|(simp[intOf];omega)|(simp[intOf,Te];omega)
  obtain rfl:b=0:=O
  have l:Nat.gcd X Y=a:=by rw[<-B.out,T6]
  have q:=J l;have I:=J (λw=>sx a w M);clear l
  go_wp2_with fail
  refine(I.out _).mono ?_;rintro e w4 ⟨v4,rfl,k,j⟩;have p:=J k;have o:=J (aL h.out j z);clear k j
  go_wp2
  go_ret
  exact⟨_,Z,by rw[q.out];exact p.out,o.out⟩
