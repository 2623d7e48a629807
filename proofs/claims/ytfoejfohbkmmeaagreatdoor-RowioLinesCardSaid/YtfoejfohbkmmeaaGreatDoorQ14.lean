import Derived.Test.YtfoejfohbkmmeaaGreatDoorQ13
import Derived.Test.YtfoejfohbkmmeaaGreatDoorQ00
import Derived.Lib.ReplaceLaws
import Derived.Lib.ItoaNum
import Derived.Lib.ParseIntB
import Derived.Test.YtfoejfohbkmmeaaGreatDoorQ04
set_option maxRecDepth 100000
set_option maxHeartbeats 4000000
namespace Go.Proofs.YtfoejfohbkmmeaaGreatDoor
open Go.RowKit
open Lib renaming hid→J
theorem qV{X a s:Nat}(c:0<a)(h:a*2^s=X)(b:a%2=0):0<a/2/\a/2*2^(s+1)=X:=by
 refine⟨by omega,?_⟩;rw[MM,Mt (2^s) 2,<-Mu,show a/2*2=a by omega,h]
theorem EE{X a s:Nat}(b:0<a)(h:a*2^s=X):s<X:=by
 have d:s<2^s:=Nat.lt_two_pow_self;have c:1*2^s<=a*2^s:=MJ _ b;omega
theorem EF{X a s k:Nat}(b:0<a)(h:a*2^s=X)(d:X<4294967296^k):s<32*k:=by
 have f:1*2^s<=a*2^s:=MJ _ b;have e:(2:Nat)^32=4294967296:=by decide
 have c:2^s<2^(32*k):=by rw[PF,e];omega
 exact(Nat.pow_lt_pow_iff_right (by decide)).1 c
theorem BD{X a s:Nat}(h:a*2^s=X):a<=X:=by
 have:a*1<=a*2^s:=Nw _ (NN (by decide));omega
theorem GU(A B:Option Addr)(ca cb:Nat)(x y:List Nat)(w:World)(hA:IsN w A ca x)(hB:IsN w B cb y)(t7:x.length<=1048576)(u3:y.length<=1048576):
  Calls Tryz.prog 174 #[.slice A x.length ca,.slice B y.length cb] w (NatPost (Nat.gcd (aB x) (aB y)) w):=by
 have HA:=J hA;have HB:=J hB;clear hA hB;obtain⟨X,hX⟩:∃X,aB x=X:=⟨_,rfl⟩;obtain⟨Y,hY⟩:∃Y,aB y=Y:=⟨_,rfl⟩;obtain⟨K,hK⟩:∃K:Nat,K=x.length+y.length:=⟨_,rfl⟩;have v7:K<=2097152:=by omega
 have o2:X<4294967296^K:=by
  rw[<-hX];exact Mp (b4 x HA.out.ok) (MP (by decide) (by omega))
 have k4:Y<4294967296^K:=by
  rw[<-hY];exact Mp (b4 y HB.out.ok) (MP (by decide) (by omega))
 have c0:=J o2;have h9:=J k4;have d3:=J hX;have c9:=J hY;clear o2 k4 hX hY hK
 go_enter Tryz.func174,Tryz.ntmps174
 go_wp2_with fail
 refine(dl A ca x _ HA.out (by omega)).mono ?_;intro e w1 h1;rw[d3.out]at h1;obtain⟨v1,rfl,u,a5⟩:=h1.num (L5 _);have z:=J u;have q6:=J a5;have h8:=a5.size;clear h1 u a5
 go_wp2_with fail
 refine(dl B cb y _ (HB.out.below q6.out) (by omega)).mono ?_;intro e w2 h2;rw[c9.out]at h2;obtain⟨v2,rfl,C,I⟩:=h2.num h8;have a4:=J C;have z:=J (z.out.below I);have i2:=J (ak q6.out I h8);have u0:w.heap.size<=w2.heap.size:=L6 h8 I.size;clear h2 C I;obtain⟨A1,c1,e1,V⟩:=z.out.is;obtain⟨A2,c2,e2,b0⟩:=a4.out.is;subst e1 e2;have w7:(ay X).length<=K:=aR c0.out;have u8:(ay Y).length<=K:=aR h9.out;have z1:(ay X).length=0↔X=0:=bR;have z2:(ay Y).length=0↔Y=0:=bR;have i1:=J z1;have l5:=J z2;clear V b0 z1 z2;by_cases q:X=0
 ·have g1:(((ay X).length:Int)==0)=true:=by rw[beq_iff_eq];have:=i1.out.2 q;omega
  have d1:=J q;clear q
  go_wp2
  go_ret
  exact⟨_,Z,by rw[d3.out,c9.out,d1.out,PP];exact a4.out,i2.out⟩
 by_cases H:Y=0
 ·have g1:(((ay X).length:Int)==0)=false:=by rw[beq_eq_false_iff_ne];intro h;exact q (i1.out.1 (by omega))
  have g2:(((ay Y).length:Int)==0)=true:=by rw[beq_iff_eq];have:=l5.out.2 H;omega
  have i5:=J H;clear H q
  go_wp2
  go_ret
  exact⟨_,Z,by rw[d3.out,c9.out,i5.out,Pa];exact z.out,i2.out⟩
 have g1:(((ay X).length:Int)==0)=false:=by rw[beq_eq_false_iff_ne];intro h;exact q (i1.out.1 (by omega))
 have g2:(((ay Y).length:Int)==0)=false:=by rw[beq_eq_false_iff_ne];intro h;exact H (l5.out.1 (by omega))
 have d1:=J q;have i5:=J H;clear q H
 go_wp2
 go_loopw [5,6,7] (fun x y sh wr=>Kb w X Y x y sh wr) (fun _ _ sh _=>X-(intOf sh).toNat)
 case atStart=>exact⟨X,Y,0,Z,z.out,a4.out,NG d1.out,NG i5.out,by simp,by simp,i2.out⟩
 case round=>
  obtain⟨a,b,s,rfl,p,j,ha,hb,k,f7,D⟩:=hrel;obtain⟨Aa,q9,ea,c4⟩:=p.is;obtain⟨Ab,k5,eb,P⟩:=j.is;subst ea eb;have r5:(ay a).length<=K:=vJ (BD k) c0.out;have q8:(ay b).length<=K:=vJ (BD f7) h9.out;have w0:=EF ha k c0.out;have w9:=EE ha k;obtain⟨ba,oa,da,e1,l0,g0,h7,t8⟩:=mH c4 (by omega);obtain⟨bb,ob,db,e2,m4,g9,h6,v0⟩:=mH P (by omega);subst e1 e2;have c6:=D.size;have c7:=J p;have i9:=J j;have t1:=J c4;have r0:=J P;have c5:=J k;have d0:=J f7;have M:=J D;have S:=J (ou da h7);have Q:=J (ou db h6);clear p j c4 P k f7 D;have p1:bits .and .u32 (da:Int) 1=((a%2:Nat):Int):=by rw[S.out,g0]
  have p2:bits .and .u32 (db:Int) 1=((b%2:Nat):Int):=by rw[Q.out,g9]
  by_cases n1:a%2=0/\b%2=0
  ·obtain⟨r,n⟩:=n1;rw[r]at p1;rw[n]at p2;have N:=J r;have U:=J n;clear r n g0 g9 S Q
   go_wp2_with fail
   refine(BC t1.out (by omega)).mono ?_;intro e w4 L;obtain⟨v4,rfl,d,c⟩:=L.num (w:=w) c6;have v:=J d;have m:=J c;have d2:w.heap.size<=w4.heap.size:=L6 c6 c.size;clear L d c p1 p2 l0 m4
   go_wp2_with fail
   refine(BC (r0.out.below m.out) (by omega)).mono ?_;intro e w5 h5;obtain⟨v5,rfl,l,f⟩:=h5.num (w:=w) d2;have b1:=J l;have l1:=J (v.out.below f);have c3:=J (ak (ak M.out m.out c6) f d2);clear h5 l f
   go_wp2
   go_roundw
   case rel=>exact⟨a/2,b/2,s+1,by go_num,l1.out,b1.out,(qV ha c5.out N.out).1,(qV hb d0.out U.out).1,(qV ha c5.out N.out).2,(qV hb d0.out U.out).2,c3.out⟩
   case measure=>simp[intOf];omega
  have HG:=J (show Nat.gcd a b*2^s=Nat.gcd X Y by rw[<-c5.out,<-d0.out,Nat.gcd_mul_right]);have T:=J (show a%2=1\/b%2=1 by omega);have b3:=J (show a<4294967296^K from NC (BD c5.out) c0.out);have a3:=J (show b<4294967296^K from NC (BD d0.out) h9.out);have q0:(a%2=1)\/(a%2=0/\b%2=1):=by omega
  obtain⟨wo,t0⟩:∃wo:World,wo=wr:=⟨_,rfl⟩;subst t0;clear n1 g0 g9 S Q;rcases q0 with d6|⟨d6,o3⟩
  all_goals
   rw[d6]at p1;try rw[o3]at p2
   go_wp2
   clear p1 p2 l0 m4
   go_loopw [5,6] (fun x y w'=>Kc w (Nat.gcd X Y) s K x y w') (fun x y w'=>ov x w'+ov y w')
   case atStart=>exact⟨a,b,c7.out,i9.out,ha,T.out,HG.out,b3.out,a3.out,M.out⟩
   case round=>
    obtain⟨a,b,p,j,ha,e5,hg,f5,i4,D⟩:=hrel;have c7:=J p;have i9:=J j;have T:=J e5;have HG:=J hg;have b3:=J f5;have a3:=J i4;have M:=J D;have c6:=D.size;have r5:(ay a).length<=K:=aR f5;have q8:(ay b).length<=K:=aR i4;have m9:=J p.num;have p4:=J j.num;obtain⟨Ab,k5,eb,P⟩:=j.is;obtain⟨Aa,q9,ea,c4⟩:=p.is;subst ea eb;clear p j e5 hg f5 i4 D c4 P;by_cases a9:b=0
    ·have w6:((ay b).length:Int)<=0:=by have:=bR.2 a9;omega
     have q5:=J (show a*2^s=Nat.gcd X Y by have:=HG.out;rwa[a9,Pa]at this);have f8:decide (0<((ay b).length:Int))=false:=by rw[decide_eq_false_iff_not];omega
     have g3:decide (0<(ay b).length)=false:=by rw[decide_eq_false_iff_not];omega
     clear a9;obtain⟨wp,f4⟩:∃wp:World,wp=wr:=⟨_,rfl⟩;subst f4
     go_wp2
     go_loopw [5,8] (fun x i w'=>Kf w a s x i w') (fun _ i _=>s-(intOf i).toNat)
     case atStart=>exact⟨0,by omega,Z,by rw[Py,Oh];exact c7.out,M.out⟩
     case round=>
      obtain⟨t,ht,rfl,i3,g4⟩:=hrel;have s5:=J i3;have p7:=J g4;have n2:=g4.size;obtain⟨v3,ct,et,l2⟩:=i3.is;subst et;have s1:=J l2;have u1:(ay (a*2^t)).length<=2*K:=by
       refine aR ?_;have h1:a*2^t<=a*2^s:=Nw _ (MP (by decide) ht);rw[q5.out]at h1;have h2:Nat.gcd X Y<=X:=Nat.gcd_le_left _ (NG d1.out);have h3:4294967296^K<=4294967296^(2*K):=MP (by decide) (by omega);have L:=c0.out;omega
      clear i3 g4 l2;by_cases w3:t<s
      ·go_wp2_with fail
       refine(GT (bit:=0) s1.out (by omega) (by omega)).mono ?_;intro e w4 L;obtain⟨v4,rfl,d,c⟩:=L.num (w:=w) n2;rw[show 2*(a*2^t)+0=a*2^(t+1) by rw[MM,No,Mt 2,Mu]]at d;have v:=J d;have m:=J (ak p7.out c n2);clear L d c
       go_wp2
       go_roundw
       case rel=>exact⟨t+1,by omega,by go_num,v.out,m.out⟩
       case measure=>simp[intOf];omega
      obtain rfl:t=s:=by omega
      go_wp2
      go_ret
      exact⟨_,Z,by rw[d3.out,c9.out,<-q5.out];exact s5.out,p7.out⟩
    have a5:0<b:=by omega
    have v6:0<(ay b).length:=by
     rcases M1 (ay b).length with h|h
     ·exact absurd (bR.1 h) a9
     exact h
    clear a9;obtain⟨g,f9⟩:∃g,Nat.gcd a b=g:=⟨_,rfl⟩;have r1:=J f9;rw[f9]at HG;clear f9;obtain⟨wp,f4⟩:∃wp:World,wp=wr:=⟨_,rfl⟩;subst f4
    go_wp2
    go_loopw [5] (fun x w'=>Kd w g a b x (.slice Ab (ay b).length k5) w') (fun x w'=>ov x w')
    case atStart=>exact⟨a,c7.out,i9.out,ha,L5 _,T.out,r1.out,M.out⟩
    case round=>
     obtain⟨o,u,j,t2,f0,a0,f8,O⟩:=hrel;have z:=J u;have d9:=J j;have q3:=J f8;have e0:=J O;have r7:=J u.num;have f1:=O.size;have t4:(ay o).length<=K:=vJ f0 b3.out;obtain⟨A1,c1,e1,V⟩:=u.is;subst e1;obtain⟨bx,ox,dx,ex,m1,o1,k1,u2⟩:=mH V (by omega);subst ex;have r2:=J V;have k:=ou dx k1;rw[o1]at k;clear u j f8 O V o1;by_cases r:o%2=0
     ·rw[r]at k;have e9:=J (show b%2=1 by omega);have N:=J r;clear r a0
      go_wp2_with fail
      refine(BC r2.out (by omega)).mono ?_;intro e w4 L;obtain⟨v4,rfl,d,c⟩:=L.num (w:=w) f1;have v:=J d;have j3:=J d.num;have p0:=J (d9.out.below c);have m:=J (ak e0.out c f1);clear L d c k m1
      go_wp2
      go_roundw
      case rel=>exact⟨o/2,v.out,p0.out,by have:=N.out;omega,by omega,.inr e9.out,by rw[nf N.out e9.out];exact q3.out,m.out⟩
      case measure=>rw[j3.out,r7.out];omega
     have f6:o%2=1:=by omega
     rw[f6]at k;have m2:=J f6;clear r a0 f6;obtain⟨wq,s6⟩:∃wq:World,wq=wr:=⟨_,rfl⟩;subst s6
     go_wp2
     clear k m1
     go_loopw [6] (fun y w'=>Ke w g b o (.slice (some ⟨bx,ox,none⟩) (ay o).length c1) y w') (fun y w'=>ov y w')
     case atStart=>exact⟨b,z.out,d9.out,a5,L5 _,q3.out,e0.out⟩
     case round=>
      obtain⟨G,R,C,I,e7,g3,a2⟩:=hrel;have d5:=J R;have a4:=J C;have f3:=J g3;have e6:=J a2;have r4:=J C.num;have E:=a2.size;have t5:(ay G).length<=K:=vJ e7 a3.out;obtain⟨A2,c2,e2,b0⟩:=C.is;subst e2;obtain⟨t9,oy,dy,ey,q4,k3,i0,v9⟩:=mH b0 (by omega);subst ey;have k2:=J b0;have e4:=J (show IsN wr (some ⟨bx,ox,none⟩) c1 (ay o) by
       obtain⟨A',c',e,hi⟩:=R.is;injection e with e1 e2 e3
       subst e1 e3;exact hi)
      have W:=ou dy i0;rw[k3]at W;clear R C g3 a2 b0 k3;by_cases n:G%2=0
      ·rw[n]at W;have U:=J n;clear n
       go_wp2_with fail
       refine(BC k2.out (by omega)).mono ?_;intro e w4 L;obtain⟨v4,rfl,d,c⟩:=L.num (w:=w) E;have v:=J d;have j3:=J d.num;have p3:=J (d5.out.below c);have m:=J (ak e6.out c E);clear L d c W q4
       go_wp2
       go_roundw
       case rel=>exact⟨G/2,p3.out,v.out,by have:=U.out;omega,by omega,by rw[rW m2.out U.out];exact f3.out,m.out⟩
       case measure=>rw[j3.out,r4.out];omega
      have k0:G%2=1:=by omega
      rw[k0]at W;have s4:=J k0;clear n k0
      go_wp2_with fail
      refine(I5 e4.out k2.out (by omega) (by omega)).mono ?_;rintro e w4 ⟨he,c⟩;have m:=J c;have d2:=c.size;have F:w.heap.size<=w4.heap.size:=L6 E d2;have s3:=J (d5.out.below c);have s2:=J (a4.out.below c);have d4:=J (e4.out.below c);have d7:=J (k2.out.below c);have f2:=J (ak e6.out c E);clear c W q4;by_cases t3:G<o
      ·rw[iy t3]at he;subst he
       go_wp2_with fail
       refine(Ka d4.out d7.out (by omega) (by omega) (by omega)).mono ?_;rintro e w5 ⟨v5,rfl,b5,f⟩;have l:NumIn w w5 v5 (o-G):=OwnN.base_le b5 F;have b1:=J l;have h0:=J l.num;have m3:=J (s2.out.below f);have r3:=J m3.out.num;have c3:=J (ak f2.out f F);clear b5 l f
       go_wp2
       go_roundw
       case rel=>exact⟨G,o-G,m3.out,b1.out,I,.inl s4.out,by rw[P5 (by omega),Oo,f3.out];exact HG.out,NC e7 a3.out,NC (by omega) b3.out,c3.out⟩
       case measure=>rw[h0.out,r3.out,m9.out,p4.out];omega
      have n0:o<=G:=by omega
      have q7:eu (o:Int) (G:Int)<=0:=by
       rcases MI o G with h|h
       ·rw[iX h];decide
       rw[iz (by omega)];decide
      obtain⟨cm,q2⟩:∃cm,eu (o:Int) (G:Int)=cm:=⟨_,rfl⟩;rw[q2]at he q7;subst he;clear q2
      go_wp2_with fail
      refine(Ka d7.out d4.out (by omega) (by omega) n0).mono ?_;rintro e w5 ⟨v5,rfl,b5,f⟩;have l:NumIn w w5 v5 (G-o):=OwnN.base_le b5 F;have b1:=J l;have h0:=J l.num;have q1:=J (s3.out.below f);have r6:=J q1.out.num;have c3:=J (ak f2.out f F);clear b5 l f
      go_wp2
      go_roundw
      case rel=>exact⟨o,G-o,q1.out,b1.out,t2,.inl m2.out,by rw[P5 n0,f3.out];exact HG.out,NC f0 b3.out,NC (by omega) a3.out,c3.out⟩
      case measure=>rw[h0.out,r6.out,m9.out,p4.out];omega
end Go.Proofs.YtfoejfohbkmmeaaGreatDoor
namespace Go.Proofs.YtfoejfohbkmmeaaGreatDoor
theorem j9(a b:List UInt8):(⟨a.toArray⟩++⟨b.toArray⟩:ByteArray)=⟨(a++b).toArray⟩:=by apply PJ;simp[]
theorem iY(s:ByteArray):(⟨s.data.toList.toArray⟩:ByteArray)=s:=by apply PJ;simp
def rX(old new s:List UInt8):List UInt8:=Lib.replaceK old new (Lib.count s old) s
theorem gM{old new:List UInt8}(s:List UInt8)(h:(old==new)=false):Lib.replaceAll s old new=rX old new s:=by
 simp[Lib.replaceAll,Lib.replace,h,rX,Lib.replaceNum]
theorem BE{old new:List UInt8}(h:old≠ []):rX old new []=[]:=by
 have b:Lib.index [] old= -1:=by cases old with|nil=>exact absurd rfl h|cons a t=>rfl
 rw[rX,Lib.count_miss b];rfl
theorem BF{old new s:List UInt8}(h:old≠ [])(c:old.isPrefixOf s=true):rX old new s=new++rX old new (s.drop old.length):=by
 have a:Lib.index s old=(0:Nat):=Lib.index_first (i:=0) (Mx _) (by simpa[Lib.occAt]using c) (fun _ h=>absurd h (Px _));have b:=Lib.count_hit h a;rw[rX,b,NW,Lib.replaceK_hit old new _ s 0 a];simp[rX]
theorem xg{old new:List UInt8}{c:UInt8}{l:List UInt8}(h:old≠ [])(g:old.isPrefixOf (c::l)=false):rX old new (c::l)=c::rX old new l:=by
 have d:Lib.index (c::l) old=if Lib.index l old== -1 then-1 else Lib.index l old+1:=by rw[Lib.index,g];rfl
 rcases Lib.index_spec l old with⟨b,_⟩|⟨i,b,_⟩
 ·rw[b]at d;have a:Lib.index (c::l) old= -1:=d;rw[rX,rX,Lib.count_miss a,Lib.count_miss b];rfl
 have a:Lib.index (c::l) old=((i+1:Nat):Int):=by
  rw[d,b,if_neg (by simp)];omega
 have e:(c::l).drop (i+1+old.length)=l.drop (i+old.length):=by
  rw[show i+1+old.length=(i+old.length)+1 by omega];rfl
 have f:=Lib.count_hit h a;have j:=Lib.count_hit h b;rw[e]at f;rw[rX,rX,f,j,NW,Lib.replaceK_hit old new _ _ (i+1) a,Lib.replaceK_hit old new _ _ i b,e];simp
def gG:List UInt8->List UInt8
 |[]=>[]
 |c::l=>if c=39 then 39::39::gG l else c::gG l
theorem vL:∀s:List UInt8,rX [39] [39,39] s=gG s
 |[]=>BE (by simp)
 |c::l=>by
  by_cases a:c=39
  ·subst a;rw[BF (by simp) (by simp)];simp[gG,vL l]
  rw[xg (old:=[39]) (c:=c) (l:=l) (by simp) (by rw[List.isPrefixOf];simp[Ne.symm a])];simp[gG,a,vL l]
theorem kr:∀s:List UInt8,rX [39,39] [39] (gG s)=s
 |[]=>BE (by simp)
 |c::l=>by
  by_cases a:c=39
  ·subst a;rw[show gG (39::l)=39::39::gG l by simp[gG]];rw[BF (by simp) (by simp)];simp[kr l]
  rw[show gG (c::l)=c::gG l by simp[gG,a]];rw[xg (old:=[39,39]) (c:=c) (l:=gG l) (by simp) (by rw[List.isPrefixOf];simp[Ne.symm a])];simp[kr l]
theorem iB:∀s:List UInt8,(gG s).length<=2*s.length
 |[]=>by simp[gG]
 |c::l=>by
  have:=iB l;by_cases a:c=39<;>simp[gG,a]<;>omega
theorem GV{a b:List UInt8}(h:gG a=gG b):a=b:=by
 rw[<-kr a,<-kr b,h]
theorem nh(M:Nat):∀(l r:List UInt8) (b a:Nat),Lib.parseUintM M b l=.ok a->Lib.parseUintM M b (l++r)=Lib.parseUintM M a r
 |[],r,b,a,h=>by simp[Lib.parseUintM]at h;subst h;rfl
 |c::l,r,b,a,h=>by
  simp only[Lib.parseUintM,Ng]at h⊢;split at h
  ·rename_i h1;rw[if_pos h1];split at h
   ·cases h
   rename_i h2;rw[if_neg h2];split at h
   ·cases h
   rename_i h3;rw[if_neg h3];exact nh M l r _ a h
  cases h
theorem fi(d:Nat)(h:d<10):(UInt8.ofNat (48+d)).toNat=48+d:=by
 simp[];omega
theorem rY(M:Nat)(a:M<=18446744073709551615):∀(k u:Nat),u<=k->u<=M->Lib.parseUintM M 0 (Lib.decDigits u)=.ok u
 |k,u,hk,hu=>by
  by_cases h:u<10
  ·rw[Lib.decDigits,dif_pos h];simp only[Lib.parseUintM,fi u h];rw[if_pos (by omega),if_neg (by omega),if_neg (by omega)];congr 1;omega
  rw[Lib.decDigits,dif_neg h]
  match k,hk with
  |0,hk=>omega
  |k+1,hk=>
   have b:=rY M a k (u/10) (by omega) (by omega);rw[nh M _ _ _ _ b];have c:u%10<10:=by omega
   simp only[Lib.parseUintM,fi _ c];rw[if_pos (by omega),if_neg (by omega),if_neg (by omega)];congr 1;omega
theorem ow:∀(k u:Nat),u<=k->∃c r,Lib.decDigits u=c::r/\48<=c.toNat/\c.toNat<=57
 |k,u,hk=>by
  by_cases h:u<10
  ·rw[Lib.decDigits,dif_pos h];exact⟨_,_,Z,by rw[fi u h];omega,by rw[fi u h];omega⟩
  rw[Lib.decDigits,dif_neg h]
  match k,hk with
  |0,hk=>omega
  |k+1,hk=>
   obtain⟨c,r,e,b,a⟩:=ow k (u/10) (by omega);exact⟨c,r++[_],by rw[e];rfl,b,a⟩
theorem rZ(u:Nat)(h:u<=18446744073709551615):Lib.parseUintB 64 (Lib.decDigits u)=.ok u:=by
 obtain⟨c,r,e,_,_⟩:=ow u u (L5 _);have a:(2^64-1:Nat)=18446744073709551615:=by decide
 rw[Lib.parseUintB,if_neg (by rw[e];simp),a];exact rY _ (L5 _) u u (L5 _) h
theorem nv(n:Int)(f: -9223372036854775808<=n)(g:n<=9223372036854775807):Lib.parseIntB 64 (Lib.itoa n)=.ok n:=by
 have a:(2^(64-1):Nat)=9223372036854775808:=by decide
 by_cases h:n<0
 ·rw[Lib.itoa,if_pos h];simp only[Lib.parseIntB];rw[if_pos (Or.inr (by decide)),rZ _ (by omega)];have d:(45:UInt8).toNat=45:=by decide
  simp only[a,d];rw[if_neg (by simp),if_neg (by simp;omega),if_pos trivial];congr 1;omega
 rw[Lib.itoa,if_neg h];obtain⟨c,r,e,i,j⟩:=ow n.toNat n.toNat (L5 _);have b:=rZ n.toNat (by omega);rw[e]at b⊢;simp only[Lib.parseIntB];rw[if_neg (by omega),b];simp only[a];rw[if_neg (by omega),if_neg (by omega),if_neg (by omega)];congr 1;omega
theorem EG{a b:Int}(e: -9223372036854775808<=a)(f:a<=9223372036854775807)(d: -9223372036854775808<=b)(g:b<=9223372036854775807)(h:Lib.itoa a=Lib.itoa b):a=b:=by
 have c:=nv a e f;have i:=nv b d g;rw[h,i]at c;injection c with c
 exact c.symm
theorem g8(n:Int):∃c r,Lib.itoa n=c::r/\c≠39:=by
 by_cases h:n<0
 ·exact⟨45,_,by rw[Lib.itoa,if_pos h],by decide⟩
 obtain⟨c,r,e,a,_⟩:=ow n.toNat n.toNat (L5 _);exact⟨c,r,by rw[Lib.itoa,if_neg h,e],fun e=>by subst e;simp at a⟩
theorem ks:∀a b:List UInt8,Lib.compareBytes b a= -Lib.compareBytes a b
 |[],[]=>rfl
 |[],_::_=>rfl
 |_::_,[]=>rfl
 |x::a,y::b=>by
  have e:=ks a b;simp only[Lib.compareBytes,OV];by_cases c:x.toNat<y.toNat
  ·rw[if_neg (by omega),if_pos c,if_pos c];rfl
  by_cases d:y.toNat<x.toNat
  ·rw[if_pos d,if_neg c,if_pos d]
  rw[if_neg d,if_neg c,if_neg c,if_neg d];exact e
theorem iP:∀a b:List UInt8,Lib.compareBytes a b=0↔a=b
 |[],[]=>by simp[Lib.compareBytes]
 |[],_::_=>by simp[Lib.compareBytes]
 |_::_,[]=>by simp[Lib.compareBytes]
 |x::a,y::b=>by
  have e:=iP a b;simp only[Lib.compareBytes,OV];by_cases c:x.toNat<y.toNat
  ·rw[if_pos c];constructor
   ·intro h;omega
   intro h;injection h with h _;subst h;omega
  by_cases d:y.toNat<x.toNat
  ·rw[if_neg c,if_pos d];constructor
   ·intro h;omega
   intro h;injection h with h _;subst h;omega
  rw[if_neg c,if_neg d,e];have:x=y:=O5.1 (by omega);simp[this]
theorem ju:∀a b c:List UInt8,Lib.compareBytes a b<=0->Lib.compareBytes b c<=0->Lib.compareBytes a c<=0
 |[],[],c,_,h=>h
 |[],_::_,[],_,h=>by simp[Lib.compareBytes]at h
 |[],_::_,_::_,_,_=>by simp[Lib.compareBytes]
 |_::_,[],_,h,_=>by simp[Lib.compareBytes]at h
 |_::_,_::_,[],_,h=>by simp[Lib.compareBytes]at h
 |x::a,y::b,z::c,h,k=>by
  have i:=ju a b c;simp only[Lib.compareBytes,OV]at h k⊢;by_cases f:x.toNat<y.toNat
  ·by_cases d:y.toNat<z.toNat
   ·rw[if_pos (by omega)];omega
   by_cases e:z.toNat<y.toNat
   ·rw[if_neg d,if_pos e]at k;omega
   rw[if_pos (by omega)];omega
  by_cases g:y.toNat<x.toNat
  ·rw[if_neg f,if_pos g]at h;omega
  rw[if_neg f,if_neg g]at h;by_cases d:y.toNat<z.toNat
  ·rw[if_pos (by omega)];omega
  by_cases e:z.toNat<y.toNat
  ·rw[if_neg d,if_pos e]at k;omega
  rw[if_neg d,if_neg e]at k;rw[if_neg (by omega),if_neg (by omega)];exact i h k
theorem gl:∀a b:List UInt8,Lib.compareBytes a b= -1\/Lib.compareBytes a b=0\/Lib.compareBytes a b=1
 |[],[]=>by simp[Lib.compareBytes]
 |[],_::_=>by simp[Lib.compareBytes]
 |_::_,[]=>by simp[Lib.compareBytes]
 |x::a,y::b=>by
  have c:=gl a b;simp only[Lib.compareBytes];split
  ·simp
  split
  ·simp
  exact c
end Go.Proofs.YtfoejfohbkmmeaaGreatDoor
namespace Go.Proofs.YtfoejfohbkmmeaaGreatDoor
open Go.RowKit
theorem pE(k g:Nat)(qs:List Nat):(List.replicate (k+1) 0++qs).set k g=List.replicate k 0++g::qs:=by
 rw[Qh,MG,NK _ _ (by simp)];simp
theorem xh(a:List Nat)(k:Nat)(h:k<a.length):aB (a.drop k)=a[k]+4294967296*aB (a.drop (k+1)):=by
 rw[Md h,aB]
end Go.Proofs.YtfoejfohbkmmeaaGreatDoor
