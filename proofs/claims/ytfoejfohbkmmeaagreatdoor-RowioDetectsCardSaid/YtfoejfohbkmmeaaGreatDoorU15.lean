import Derived.Test.YtfoejfohbkmmeaaGreatDoorU14
import Derived.Test.YtfoejfohbkmmeaaGreatDoorU00
import Derived.Lib.ReplaceLaws
import Derived.Lib.ItoaNum
import Derived.Lib.ParseIntB
import Derived.Test.YtfoejfohbkmmeaaGreatDoorU04
set_option maxRecDepth 100000
set_option maxHeartbeats 4000000
namespace Go.Proofs.YtfoejfohbkmmeaaGreatDoor
open Go.RowKit
open Lib renaming hid→J
theorem qV{X a s:Nat}(c:0<a)(h:a*2^s=X)(b:a%2=0):0<a/2/\a/2*2^(s+1)=X:=by
 refine⟨by omega,?_⟩;rw[MM,Mt (2^s) 2,<-Mu,show a/2*2=a by omega,h]
theorem EE{X a s:Nat}(b:0<a)(h:a*2^s=X):s<X:=by
 have d:s<2^s:=Nat.lt_two_pow_self;have c:1*2^s<=a*2^s:=MJ _ b;omega
theorem EF{X a s k:Nat}(c:0<a)(h:a*2^s=X)(d:X<4294967296^k):s<32*k:=by
 have f:1*2^s<=a*2^s:=MJ _ c;have e:(2:Nat)^32=4294967296:=by decide
 have b:2^s<2^(32*k):=by rw[PF,e];omega
 exact(Nat.pow_lt_pow_iff_right (by decide)).1 b
theorem BD{X a s:Nat}(h:a*2^s=X):a<=X:=by
 have:a*1<=a*2^s:=Nw _ (NN (by decide));omega
theorem GU(A B:Option Addr)(ca cb:Nat)(x y:List Nat)(w:World)(hA:IsN w A ca x)(hB:IsN w B cb y)(w3:x.length<=1048576)(v0:y.length<=1048576):
  Calls Tryz.prog 174 #[.slice A x.length ca,.slice B y.length cb] w (NatPost (Nat.gcd (aB x) (aB y)) w):=by
 have HA:=J hA;have HB:=J hB;clear hA hB;obtain⟨X,hX⟩:∃X,aB x=X:=⟨_,rfl⟩;obtain⟨Y,hY⟩:∃Y,aB y=Y:=⟨_,rfl⟩;obtain⟨K,hK⟩:∃K:Nat,K=x.length+y.length:=⟨_,rfl⟩;have u1:K<=2097152:=by omega
 have n1:X<4294967296^K:=by
  rw[<-hX];exact Mp (b4 x HA.out.ok) (MP (by decide) (by omega))
 have m1:Y<4294967296^K:=by
  rw[<-hY];exact Mp (b4 y HB.out.ok) (MP (by decide) (by omega))
 have O:=J n1;have i3:=J m1;have d3:=J hX;have c6:=J hY;clear n1 m1 hX hY hK
 go_enter Tryz.func174,Tryz.ntmps174
 go_wp2_with fail
 refine(dl A ca x _ HA.out (by omega)).mono ?_;intro e w1 h1;rw[d3.out]at h1;obtain⟨v1,rfl,v,a5⟩:=h1.num (L5 _);have u:=J v;have p4:=J a5;have g0:=a5.size;clear h1 v a5
 go_wp2_with fail
 refine(dl B cb y _ (HB.out.below p4.out) (by omega)).mono ?_;intro e w2 h2;rw[c6.out]at h2;obtain⟨v2,rfl,D,H⟩:=h2.num g0;have a3:=J D;have u:=J (u.out.below H);have f7:=J (ak p4.out H g0);have v6:w.heap.size<=w2.heap.size:=L6 g0 H.size;clear h2 D H;obtain⟨A1,c1,e1,b5⟩:=u.out.is;obtain⟨A2,c2,e2,W⟩:=a3.out.is;subst e1 e2;have x0:(ay X).length<=K:=aR O.out;have u8:(ay Y).length<=K:=aR i3.out;have z1:(ay X).length=0↔X=0:=bR;have z2:(ay Y).length=0↔Y=0:=bR;have i5:=J z1;have m2:=J z2;clear b5 W z1 z2;by_cases o:X=0
 ·have g1:(((ay X).length:Int)==0)=true:=by rw[beq_iff_eq];have:=i5.out.2 o;omega
  have c7:=J o;clear o
  go_wp2
  go_ret
  exact⟨_,Z,by rw[d3.out,c6.out,c7.out,PP];exact a3.out,f7.out⟩
 by_cases I:Y=0
 ·have g1:(((ay X).length:Int)==0)=false:=by rw[beq_eq_false_iff_ne];intro h;exact o (i5.out.1 (by omega))
  have g2:(((ay Y).length:Int)==0)=true:=by rw[beq_iff_eq];have:=m2.out.2 I;omega
  have f4:=J I;clear I o
  go_wp2
  go_ret
  exact⟨_,Z,by rw[d3.out,c6.out,f4.out,Pa];exact u.out,f7.out⟩
 have g1:(((ay X).length:Int)==0)=false:=by rw[beq_eq_false_iff_ne];intro h;exact o (i5.out.1 (by omega))
 have g2:(((ay Y).length:Int)==0)=false:=by rw[beq_eq_false_iff_ne];intro h;exact I (m2.out.1 (by omega))
 have c7:=J o;have f4:=J I;clear o I
 go_wp2
 go_loopw [5,6,7] (fun x y sh wr=>Kb w X Y x y sh wr) (fun _ _ sh _=>X-(intOf sh).toNat)
 case atStart=>exact⟨X,Y,0,Z,u.out,a3.out,NG c7.out,NG f4.out,by simp,by simp,f7.out⟩
 case round=>
  obtain⟨a,b,s,rfl,p,j,ha,hb,f,h9,C⟩:=hrel;obtain⟨Aa,r1,ea,c3⟩:=p.is;obtain⟨Ab,q6,eb,T⟩:=j.is;subst ea eb;have r4:(ay a).length<=K:=vJ (BD f) O.out;have s1:(ay b).length<=K:=vJ (BD h9) i3.out;have t9:=EF ha f O.out;have w9:=EE ha f;obtain⟨ba,oa,da,e1,m3,i9,k3,w6⟩:=mH c3 (by omega);obtain⟨bb,ob,db,e2,o3,f3,g3,w7⟩:=mH T (by omega);subst e1 e2;have d1:=C.size;have d0:=J p;have k0:=J j;have t1:=J c3;have t5:=J T;have c9:=J f;have d2:=J h9;have U:=J C;have b0:=J (ou da k3);have M:=J (ou db g3);clear p j c3 T f h9 C;have p1:bits .and .u32 (da:Int) 1=((a%2:Nat):Int):=by rw[b0.out,i9]
  have p2:bits .and .u32 (db:Int) 1=((b%2:Nat):Int):=by rw[M.out,f3]
  by_cases o1:a%2=0/\b%2=0
  ·obtain⟨q,r⟩:=o1;rw[q]at p1;rw[r]at p2;have a9:=J q;have a4:=J r;clear q r i9 f3 b0 M
   go_wp2_with fail
   refine(BC t1.out (by omega)).mono ?_;intro e w4 L;obtain⟨v4,rfl,d,c⟩:=L.num (w:=w) d1;have z:=J d;have m:=J c;have c5:w.heap.size<=w4.heap.size:=L6 d1 c.size;clear L d c p1 p2 m3 o3
   go_wp2_with fail
   refine(BC (t5.out.below m.out) (by omega)).mono ?_;intro e w5 h5;obtain⟨v5,rfl,l,k⟩:=h5.num (w:=w) c5;have P:=J l;have l5:=J (z.out.below k);have N:=J (ak (ak U.out m.out d1) k c5);clear h5 l k
   go_wp2
   go_roundw
   case rel=>exact⟨a/2,b/2,s+1,by go_num,l5.out,P.out,(qV ha c9.out a9.out).1,(qV hb d2.out a4.out).1,(qV ha c9.out a9.out).2,(qV hb d2.out a4.out).2,N.out⟩
   case measure=>simp[intOf];omega
  have HG:=J (show Nat.gcd a b*2^s=Nat.gcd X Y by rw[<-c9.out,<-d2.out,Nat.gcd_mul_right]);have R:=J (show a%2=1\/b%2=1 by omega);have a0:=J (show a<4294967296^K from NC (BD c9.out) O.out);have V:=J (show b<4294967296^K from NC (BD d2.out) i3.out);have l2:(a%2=1)\/(a%2=0/\b%2=1):=by omega
  obtain⟨wo,t0⟩:∃wo:World,wo=wr:=⟨_,rfl⟩;subst t0;clear o1 i9 f3 b0 M;rcases l2 with d9|⟨d9,q5⟩
  all_goals
   rw[d9]at p1;try rw[q5]at p2
   go_wp2
   clear p1 p2 m3 o3
   go_loopw [5,6] (fun x y w'=>Kc w (Nat.gcd X Y) s K x y w') (fun x y w'=>ov x w'+ov y w')
   case atStart=>exact⟨a,b,d0.out,k0.out,ha,R.out,HG.out,a0.out,V.out,U.out⟩
   case round=>
    obtain⟨a,b,p,j,ha,e0,hg,f9,i2,C⟩:=hrel;have d0:=J p;have k0:=J j;have R:=J e0;have HG:=J hg;have a0:=J f9;have V:=J i2;have U:=J C;have d1:=C.size;have r4:(ay a).length<=K:=aR f9;have s1:(ay b).length<=K:=aR i2;have q3:=J p.num;have p0:=J j.num;obtain⟨Ab,q6,eb,T⟩:=j.is;obtain⟨Aa,r1,ea,c3⟩:=p.is;subst ea eb;clear p j e0 hg f9 i2 C c3 T;by_cases c0:b=0
    ·have u0:((ay b).length:Int)<=0:=by have:=bR.2 c0;omega
     have p3:=J (show a*2^s=Nat.gcd X Y by have:=HG.out;rwa[c0,Pa]at this);have h8:decide (0<((ay b).length:Int))=false:=by rw[decide_eq_false_iff_not];omega
     have g4:decide (0<(ay b).length)=false:=by rw[decide_eq_false_iff_not];omega
     clear c0;obtain⟨wp,i4⟩:∃wp:World,wp=wr:=⟨_,rfl⟩;subst i4
     go_wp2
     go_loopw [5,8] (fun x i w'=>Kf w a s x i w') (fun _ i _=>s-(intOf i).toNat)
     case atStart=>exact⟨0,by omega,Z,by rw[Py,Oh];exact d0.out,U.out⟩
     case round=>
      obtain⟨t,ht,rfl,k2,k4⟩:=hrel;have r2:=J k2;have k5:=J k4;have q7:=k4.size;obtain⟨v9,ct,et,q0⟩:=k2.is;subst et;have s3:=J q0;have u2:(ay (a*2^t)).length<=2*K:=by
       refine aR ?_;have h1:a*2^t<=a*2^s:=Nw _ (MP (by decide) ht);rw[p3.out]at h1;have h2:Nat.gcd X Y<=X:=Nat.gcd_le_left _ (NG c7.out);have h3:4294967296^K<=4294967296^(2*K):=MP (by decide) (by omega);have L:=O.out;omega
      clear k2 k4 q0;by_cases u3:t<s
      ·go_wp2_with fail
       refine(GT (bit:=0) s3.out (by omega) (by omega)).mono ?_;intro e w4 L;obtain⟨v4,rfl,d,c⟩:=L.num (w:=w) q7;rw[show 2*(a*2^t)+0=a*2^(t+1) by rw[MM,No,Mt 2,Mu]]at d;have z:=J d;have m:=J (ak k5.out c q7);clear L d c
       go_wp2
       go_roundw
       case rel=>exact⟨t+1,by omega,by go_num,z.out,m.out⟩
       case measure=>simp[intOf];omega
      obtain rfl:t=s:=by omega
      go_wp2
      go_ret
      exact⟨_,Z,by rw[d3.out,c6.out,<-p3.out];exact r2.out,k5.out⟩
    have a5:0<b:=by omega
    have v7:0<(ay b).length:=by
     rcases M1 (ay b).length with h|h
     ·exact absurd (bR.1 h) c0
     exact h
    clear c0;obtain⟨g,j3⟩:∃g,Nat.gcd a b=g:=⟨_,rfl⟩;have r3:=J j3;rw[j3]at HG;clear j3;obtain⟨wp,i4⟩:∃wp:World,wp=wr:=⟨_,rfl⟩;subst i4
    go_wp2
    go_loopw [5] (fun x w'=>Kd w g a b x (.slice Ab (ay b).length q6) w') (fun x w'=>ov x w')
    case atStart=>exact⟨a,d0.out,k0.out,ha,L5 _,R.out,r3.out,U.out⟩
    case round=>
     obtain⟨n,v,j,t4,d7,b1,h8,Q⟩:=hrel;have u:=J v;have f1:=J j;have q4:=J h8;have f2:=J Q;have r0:=J v.num;have d6:=Q.size;have t7:(ay n).length<=K:=vJ d7 a0.out;obtain⟨A1,c1,e1,b5⟩:=v.is;subst e1;obtain⟨bx,ox,dx,ex,n2,q1,f8,x1⟩:=mH b5 (by omega);subst ex;have t2:=J b5;have f:=ou dx f8;rw[q1]at f;clear v j h8 Q b5 q1;by_cases q:n%2=0
     ·rw[q]at f;have e5:=J (show b%2=1 by omega);have a9:=J q;clear q b1
      go_wp2_with fail
      refine(BC t2.out (by omega)).mono ?_;intro e w4 L;obtain⟨v4,rfl,d,c⟩:=L.num (w:=w) d6;have z:=J d;have h7:=J d.num;have q2:=J (f1.out.below c);have m:=J (ak f2.out c d6);clear L d c f n2
      go_wp2
      go_roundw
      case rel=>exact⟨n/2,z.out,q2.out,by have:=a9.out;omega,by omega,.inr e5.out,by rw[nf a9.out e5.out];exact q4.out,m.out⟩
      case measure=>rw[h7.out,r0.out];omega
     have k1:n%2=1:=by omega
     rw[k1]at f;have m4:=J k1;clear q b1 k1;obtain⟨wq,s4⟩:∃wq:World,wq=wr:=⟨_,rfl⟩;subst s4
     go_wp2
     clear f n2
     go_loopw [6] (fun y w'=>Ke w g b n (.slice (some ⟨bx,ox,none⟩) (ay n).length c1) y w') (fun y w'=>ov y w')
     case atStart=>exact⟨b,u.out,f1.out,a5,L5 _,q4.out,f2.out⟩
     case round=>
      obtain⟨E,S,D,H,e7,g4,a2⟩:=hrel;have d4:=J S;have a3:=J D;have f6:=J g4;have e6:=J a2;have s5:=J D.num;have F:=a2.size;have t8:(ay E).length<=K:=vJ e7 V.out;obtain⟨A2,c2,e2,W⟩:=D.is;subst e2;obtain⟨w0,oy,dy,ey,n0,o2,h0,v3⟩:=mH W (by omega);subst ey;have i1:=J W;have d5:=J (show IsN wr (some ⟨bx,ox,none⟩) c1 (ay n) by
       obtain⟨A',c',e,hi⟩:=S.is;injection e with e1 e2 e3
       subst e1 e3;exact hi)
      have b3:=ou dy h0;rw[o2]at b3;clear S D g4 a2 W o2;by_cases r:E%2=0
      ·rw[r]at b3;have a4:=J r;clear r
       go_wp2_with fail
       refine(BC i1.out (by omega)).mono ?_;intro e w4 L;obtain⟨v4,rfl,d,c⟩:=L.num (w:=w) F;have z:=J d;have h7:=J d.num;have p5:=J (d4.out.below c);have m:=J (ak e6.out c F);clear L d c b3 n0
       go_wp2
       go_roundw
       case rel=>exact⟨E/2,p5.out,z.out,by have:=a4.out;omega,by omega,by rw[rW m4.out a4.out];exact f6.out,m.out⟩
       case measure=>rw[h7.out,s5.out];omega
      have i0:E%2=1:=by omega
      rw[i0]at b3;have r6:=J i0;clear r i0
      go_wp2_with fail
      refine(I5 d5.out i1.out (by omega) (by omega)).mono ?_;rintro e w4 ⟨he,c⟩;have m:=J c;have c5:=c.size;have G:w.heap.size<=w4.heap.size:=L6 F c5;have r5:=J (d4.out.below c);have q9:=J (a3.out.below c);have e4:=J (d5.out.below c);have f0:=J (i1.out.below c);have e9:=J (ak e6.out c F);clear c b3 n0;by_cases s2:E<n
      ·rw[iy s2]at he;subst he
       go_wp2_with fail
       refine(Ka e4.out f0.out (by omega) (by omega) (by omega)).mono ?_;rintro e w5 ⟨v5,rfl,c4,k⟩;have l:NumIn w w5 v5 (n-E):=OwnN.base_le c4 G;have P:=J l;have h6:=J l.num;have m9:=J (q9.out.below k);have s6:=J m9.out.num;have N:=J (ak e9.out k G);clear c4 l k
       go_wp2
       go_roundw
       case rel=>exact⟨E,n-E,m9.out,P.out,H,.inl r6.out,by rw[P5 (by omega),Oo,f6.out];exact HG.out,NC e7 V.out,NC (by omega) a0.out,N.out⟩
       case measure=>rw[h6.out,s6.out,q3.out,p0.out];omega
      have l0:n<=E:=by omega
      have p7:eu (n:Int) (E:Int)<=0:=by
       rcases MI n E with h|h
       ·rw[iX h];decide
       rw[iz (by omega)];decide
      obtain⟨cm,q8⟩:∃cm,eu (n:Int) (E:Int)=cm:=⟨_,rfl⟩;rw[q8]at he p7;subst he;clear q8
      go_wp2_with fail
      refine(Ka f0.out e4.out (by omega) (by omega) l0).mono ?_;rintro e w5 ⟨v5,rfl,c4,k⟩;have l:NumIn w w5 v5 (E-n):=OwnN.base_le c4 G;have P:=J l;have h6:=J l.num;have l1:=J (r5.out.below k);have t3:=J l1.out.num;have N:=J (ak e9.out k G);clear c4 l k
      go_wp2
      go_roundw
      case rel=>exact⟨n,E-n,l1.out,P.out,t4,.inl m4.out,by rw[P5 l0,f6.out];exact HG.out,NC d7 a0.out,NC (by omega) V.out,N.out⟩
      case measure=>rw[h6.out,t3.out,q3.out,p0.out];omega
end Go.Proofs.YtfoejfohbkmmeaaGreatDoor
namespace Go.Proofs.YtfoejfohbkmmeaaGreatDoor
theorem j9(a b:List UInt8):(⟨a.toArray⟩++⟨b.toArray⟩:ByteArray)=⟨(a++b).toArray⟩:=by apply PJ;simp[]
theorem iY(s:ByteArray):(⟨s.data.toList.toArray⟩:ByteArray)=s:=by apply PJ;simp
def rX(old new s:List UInt8):List UInt8:=Lib.replaceK old new (Lib.count s old) s
theorem gM{old new:List UInt8}(s:List UInt8)(h:(old==new)=false):Lib.replaceAll s old new=rX old new s:=by
 simp[Lib.replaceAll,Lib.replace,h,rX,Lib.replaceNum]
theorem BE{old new:List UInt8}(h:old≠ []):rX old new []=[]:=by
 have b:Lib.index [] old= -1:=by cases old with|nil=>exact absurd rfl h|cons a t=>rfl
 rw[rX,Lib.count_miss b];rfl
theorem BF{old new s:List UInt8}(h:old≠ [])(b:old.isPrefixOf s=true):rX old new s=new++rX old new (s.drop old.length):=by
 have a:Lib.index s old=(0:Nat):=Lib.index_first (i:=0) (Mx _) (by simpa[Lib.occAt]using b) (fun _ h=>absurd h (Px _));have c:=Lib.count_hit h a;rw[rX,c,NW,Lib.replaceK_hit old new _ s 0 a];simp[rX]
theorem xg{old new:List UInt8}{c:UInt8}{l:List UInt8}(h:old≠ [])(j:old.isPrefixOf (c::l)=false):rX old new (c::l)=c::rX old new l:=by
 have d:Lib.index (c::l) old=if Lib.index l old== -1 then-1 else Lib.index l old+1:=by rw[Lib.index,j];rfl
 rcases Lib.index_spec l old with⟨b,_⟩|⟨i,b,_⟩
 ·rw[b]at d;have a:Lib.index (c::l) old= -1:=d;rw[rX,rX,Lib.count_miss a,Lib.count_miss b];rfl
 have a:Lib.index (c::l) old=((i+1:Nat):Int):=by
  rw[d,b,if_neg (by simp)];omega
 have e:(c::l).drop (i+1+old.length)=l.drop (i+old.length):=by
  rw[show i+1+old.length=(i+old.length)+1 by omega];rfl
 have f:=Lib.count_hit h a;have g:=Lib.count_hit h b;rw[e]at f;rw[rX,rX,f,g,NW,Lib.replaceK_hit old new _ _ (i+1) a,Lib.replaceK_hit old new _ _ i b,e];simp
def gG:List UInt8->List UInt8
 |[]=>[]
 |c::l=>if c=39 then 39::39::gG l else c::gG l
theorem vL:∀s:List UInt8,rX [39] [39,39] s=gG s
 |[]=>BE (by simp)
 |c::l=>by
  by_cases a:c=39
  ·subst a;rw[BF (by simp) (by simp)];simp[gG,vL l]
  rw[xg (old:=[39]) (c:=c) (l:=l) (by simp) (by rw[List.isPrefixOf];simp[Ne.symm a])];simp[gG,a,vL l]
theorem kr:∀s:List UInt8,rX [39,39] [39] (gG s)=s
 |[]=>BE (by simp)
 |c::l=>by
  by_cases a:c=39
  ·subst a;rw[show gG (39::l)=39::39::gG l by simp[gG]];rw[BF (by simp) (by simp)];simp[kr l]
  rw[show gG (c::l)=c::gG l by simp[gG,a]];rw[xg (old:=[39,39]) (c:=c) (l:=gG l) (by simp) (by rw[List.isPrefixOf];simp[Ne.symm a])];simp[kr l]
theorem iB:∀s:List UInt8,(gG s).length<=2*s.length
 |[]=>by simp[gG]
 |c::l=>by
  have:=iB l;by_cases a:c=39<;>simp[gG,a]<;>omega
theorem GV{a b:List UInt8}(h:gG a=gG b):a=b:=by
 rw[<-kr a,<-kr b,h]
theorem nh(M:Nat):∀(l r:List UInt8) (b a:Nat),Lib.parseUintM M b l=.ok a->Lib.parseUintM M b (l++r)=Lib.parseUintM M a r
 |[],r,b,a,h=>by simp[Lib.parseUintM]at h;subst h;rfl
 |c::l,r,b,a,h=>by
  simp only[Lib.parseUintM,Ng]at h⊢;split at h
  ·rename_i h1;rw[if_pos h1];split at h
   ·cases h
   rename_i h2;rw[if_neg h2];split at h
   ·cases h
   rename_i h3;rw[if_neg h3];exact nh M l r _ a h
  cases h
theorem fi(d:Nat)(h:d<10):(UInt8.ofNat (48+d)).toNat=48+d:=by
 simp[];omega
theorem rY(M:Nat)(a:M<=18446744073709551615):∀(k u:Nat),u<=k->u<=M->Lib.parseUintM M 0 (Lib.decDigits u)=.ok u
 |k,u,hk,hu=>by
  by_cases h:u<10
  ·rw[Lib.decDigits,dif_pos h];simp only[Lib.parseUintM,fi u h];rw[if_pos (by omega),if_neg (by omega),if_neg (by omega)];congr 1;omega
  rw[Lib.decDigits,dif_neg h]
  match k,hk with
  |0,hk=>omega
  |k+1,hk=>
   have b:=rY M a k (u/10) (by omega) (by omega);rw[nh M _ _ _ _ b];have c:u%10<10:=by omega
   simp only[Lib.parseUintM,fi _ c];rw[if_pos (by omega),if_neg (by omega),if_neg (by omega)];congr 1;omega
theorem ow:∀(k u:Nat),u<=k->∃c r,Lib.decDigits u=c::r/\48<=c.toNat/\c.toNat<=57
 |k,u,hk=>by
  by_cases h:u<10
  ·rw[Lib.decDigits,dif_pos h];exact⟨_,_,Z,by rw[fi u h];omega,by rw[fi u h];omega⟩
  rw[Lib.decDigits,dif_neg h]
  match k,hk with
  |0,hk=>omega
  |k+1,hk=>
   obtain⟨c,r,e,b,a⟩:=ow k (u/10) (by omega);exact⟨c,r++[_],by rw[e];rfl,b,a⟩
theorem rZ(u:Nat)(h:u<=18446744073709551615):Lib.parseUintB 64 (Lib.decDigits u)=.ok u:=by
 obtain⟨c,r,e,_,_⟩:=ow u u (L5 _);have a:(2^64-1:Nat)=18446744073709551615:=by decide
 rw[Lib.parseUintB,if_neg (by rw[e];simp),a];exact rY _ (L5 _) u u (L5 _) h
theorem nv(n:Int)(g: -9223372036854775808<=n)(i:n<=9223372036854775807):Lib.parseIntB 64 (Lib.itoa n)=.ok n:=by
 have a:(2^(64-1):Nat)=9223372036854775808:=by decide
 by_cases h:n<0
 ·rw[Lib.itoa,if_pos h];simp only[Lib.parseIntB];rw[if_pos (Or.inr (by decide)),rZ _ (by omega)];have d:(45:UInt8).toNat=45:=by decide
  simp only[a,d];rw[if_neg (by simp),if_neg (by simp;omega),if_pos trivial];congr 1;omega
 rw[Lib.itoa,if_neg h];obtain⟨c,r,e,j,f⟩:=ow n.toNat n.toNat (L5 _);have b:=rZ n.toNat (by omega);rw[e]at b⊢;simp only[Lib.parseIntB];rw[if_neg (by omega),b];simp only[a];rw[if_neg (by omega),if_neg (by omega),if_neg (by omega)];congr 1;omega
theorem EG{a b:Int}(e: -9223372036854775808<=a)(g:a<=9223372036854775807)(d: -9223372036854775808<=b)(f:b<=9223372036854775807)(h:Lib.itoa a=Lib.itoa b):a=b:=by
 have c:=nv a e g;have i:=nv b d f;rw[h,i]at c;injection c with c
 exact c.symm
theorem g8(n:Int):∃c r,Lib.itoa n=c::r/\c≠39:=by
 by_cases h:n<0
 ·exact⟨45,_,by rw[Lib.itoa,if_pos h],by decide⟩
 obtain⟨c,r,e,a,_⟩:=ow n.toNat n.toNat (L5 _);exact⟨c,r,by rw[Lib.itoa,if_neg h,e],fun e=>by subst e;simp at a⟩
theorem ks:∀a b:List UInt8,Lib.compareBytes b a= -Lib.compareBytes a b
 |[],[]=>rfl
 |[],_::_=>rfl
 |_::_,[]=>rfl
 |x::a,y::b=>by
  have e:=ks a b;simp only[Lib.compareBytes,OV];by_cases c:x.toNat<y.toNat
  ·rw[if_neg (by omega),if_pos c,if_pos c];rfl
  by_cases d:y.toNat<x.toNat
  ·rw[if_pos d,if_neg c,if_pos d]
  rw[if_neg d,if_neg c,if_neg c,if_neg d];exact e
theorem iP:∀a b:List UInt8,Lib.compareBytes a b=0↔a=b
 |[],[]=>by simp[Lib.compareBytes]
 |[],_::_=>by simp[Lib.compareBytes]
 |_::_,[]=>by simp[Lib.compareBytes]
 |x::a,y::b=>by
  have e:=iP a b;simp only[Lib.compareBytes,OV];by_cases c:x.toNat<y.toNat
  ·rw[if_pos c];constructor
   ·intro h;omega
   intro h;injection h with h _;subst h;omega
  by_cases d:y.toNat<x.toNat
  ·rw[if_neg c,if_pos d];constructor
   ·intro h;omega
   intro h;injection h with h _;subst h;omega
  rw[if_neg c,if_neg d,e];have:x=y:=O5.1 (by omega);simp[this]
theorem ju:∀a b c:List UInt8,Lib.compareBytes a b<=0->Lib.compareBytes b c<=0->Lib.compareBytes a c<=0
 |[],[],c,_,h=>h
 |[],_::_,[],_,h=>by simp[Lib.compareBytes]at h
 |[],_::_,_::_,_,_=>by simp[Lib.compareBytes]
 |_::_,[],_,h,_=>by simp[Lib.compareBytes]at h
 |_::_,_::_,[],_,h=>by simp[Lib.compareBytes]at h
 |x::a,y::b,z::c,h,k=>by
  have i:=ju a b c;simp only[Lib.compareBytes,OV]at h k⊢;by_cases f:x.toNat<y.toNat
  ·by_cases e:y.toNat<z.toNat
   ·rw[if_pos (by omega)];omega
   by_cases d:z.toNat<y.toNat
   ·rw[if_neg e,if_pos d]at k;omega
   rw[if_pos (by omega)];omega
  by_cases g:y.toNat<x.toNat
  ·rw[if_neg f,if_pos g]at h;omega
  rw[if_neg f,if_neg g]at h;by_cases e:y.toNat<z.toNat
  ·rw[if_pos (by omega)];omega
  by_cases d:z.toNat<y.toNat
  ·rw[if_neg e,if_pos d]at k;omega
  rw[if_neg e,if_neg d]at k;rw[if_neg (by omega),if_neg (by omega)];exact i h k
theorem gl:∀a b:List UInt8,Lib.compareBytes a b= -1\/Lib.compareBytes a b=0\/Lib.compareBytes a b=1
 |[],[]=>by simp[Lib.compareBytes]
 |[],_::_=>by simp[Lib.compareBytes]
 |_::_,[]=>by simp[Lib.compareBytes]
 |x::a,y::b=>by
  have c:=gl a b;simp only[Lib.compareBytes];split
  ·simp
  split
  ·simp
  exact c
end Go.Proofs.YtfoejfohbkmmeaaGreatDoor
namespace Go.Proofs.YtfoejfohbkmmeaaGreatDoor
open Go.RowKit
open Lib renaming hid→J
def EH(W0:World)(ds:List Nat)(r i:Value)(wr:World):Prop:=
 ∃(k:Nat) (qs:List Nat),k<=ds.length/\i=.int .i64 ((k:Int)-1)/\qs.length+k=ds.length/\Digs qs/\r=.int .u64 ((aB (ds.drop k)%10:Nat):Int)/\aB qs=aB (ds.drop k)/10/\OwnN wr W0.heap.size (.slice (some ⟨W0.heap.size,0,none⟩) ds.length ds.length) (List.replicate k 0++qs)/\Below W0.heap.size W0 wr
theorem pE(k g:Nat)(qs:List Nat):(List.replicate (k+1) 0++qs).set k g=List.replicate k 0++g::qs:=by
 rw[Qh,MG,NK _ _ (by simp)];simp
theorem xh(a:List Nat)(k:Nat)(h:k<a.length):aB (a.drop k)=a[k]+4294967296*aB (a.drop (k+1)):=by
 rw[Md h,aB]
def ue(n:Nat)(w:World)(e:Ending)(w':World):Prop:=∃v,e=.returned (.tuple #[v,.int .u64 ((n%10:Nat):Int)])/\OwnN w' w.heap.size v (ay (n/10))/\Below w.heap.size w w'
theorem CI(A:Option Addr)(c:Nat)(a:List Nat)(w:World)(h:IsN w A c a)(hl:a.length<=1048576):
  Calls Tryz.prog 169 #[.slice A a.length c,.int .u64 10] w (ue (aB a) w):=by
 have HI:=J h;clear h;obtain⟨W,o,u,y,I⟩:=eF w a.length (by omega);have o:=o .i64 .i64;have P:=J u;have R:=J y;clear u y I
 go_enter Tryz.func169,Tryz.ntmps169
 go_wp2
 clear o
 go_loopw [7,8] (fun r i wr=>EH w a r i wr) (fun _ i _=>(intOf i+1).toNat)
 case atStart=>exact⟨a.length,[],L5 _,Z,by simp,fun d q=>by simp at q,by simp[aB],by simp[aB],by simpa using P.out,R.out⟩
 case round=>
  obtain⟨k,qs,hk,rfl,B,E,rfl,s,f,l⟩:=hrel;have D:=J E;have z:=J s;have H:=J f;have K:=J l;have j:=J B;have v:=l.size;clear E s f l B;cases k with
  |zero=>
   rw[Nx]at*;have f:OwnN wr w.heap.size (.slice (some ⟨w.heap.size,0,none⟩) a.length a.length) qs:=by have:=H.out;simpa using this
   have C:IsN wr (some ⟨w.heap.size,0,none⟩) a.length qs:=by
    obtain⟨A',c',e,hi⟩:=f.is D.out;injection e with e1 X e3
    subst e1 e3;exact hi
   have n:=dl (some ⟨w.heap.size,0,none⟩) a.length qs wr C (by have:=j.out;omega);rw[show qs.length=a.length by have:=j.out;omega,z.out]at n;have S:=J n;obtain⟨m,U⟩:∃m,aB a%10=m:=⟨_,rfl⟩;rw[U];have HM:=J U;clear f C n U
   go_wp2_with fail
   refine S.out.mono ?_;rintro e w5 ⟨v5,rfl,G,t⟩;have Q:=J (G.base_le v);have O:=J (ak K.out t v);clear G t
   go_wp2
   go_ret2
   exact⟨v5,by rw[HM.out];rfl,Q.out,O.out⟩
  |succ k=>
   rw[show((k+1:Nat):Int)-1=(k:Int) by omega];have g:k<a.length:=by omega
   obtain⟨b,off,rfl,hb,Y⟩:=HI.out.digit g;obtain⟨d,q⟩:∃d,a[k]=d:=⟨_,rfl⟩;have V:=(K.out.cell (p:=⟨b,off+k,none⟩) hb).trans (Y k g);rw[q]at V;have a1:d<4294967296:=by rw[<-q];exact HI.out.ok _ (MY g)
   have M:=J (show aB (a.drop k)=d+4294967296*aB (a.drop (k+1)) by rw[xh a k g,q]);obtain⟨r,N⟩:∃r,aB (a.drop (k+1))%10=r:=⟨_,rfl⟩;have a0:r<10:=by omega
   rw[N];have HR:=J N;have a3:=H.out.free k;have a2:=H.out.cell (i:=k) (by simp;omega);clear Y q N
   go_wp2
   go_roundw
   case rel=>
    have e1:=M.out;have X:=z.out;have e3:=HR.out;refine⟨k,(r*4294967296+d)/10::qs,by omega,Z,by have:=j.out;simp;omega,fun x L=>?_,?_,?_,?_,K.out.setCell (p:=⟨w.heap.size,k,none⟩) (L5 _) _⟩
    ·rcases Mi.1 L with rfl|L
     ·omega
     exact D.out x L
    ·congr 1;omega
    ·rw[aB,X];omega
    have F:(List.replicate (k+1) (0:Nat)++qs).length=a.length:=by have:=j.out;simp;omega
    have h1:OwnN wr w.heap.size (.slice (some ⟨w.heap.size,0,none⟩) (List.replicate (k+1) 0++qs).length a.length) (List.replicate (k+1) 0++qs):=by
     rw[F];exact H.out
    have T:=h1.set (i:=k) ((r*4294967296+d)/10);rw[MU,pE,F]at T;have e:(((r*4294967296+d)/10:Nat):Int)=((r:Int)*4294967296+(d:Int))/10:=by omega
    rw[e]at T;exact T
   case measure=>simp[intOf]
theorem I6{wr:World}{A:Option Addr}{c n:Nat}(h:IsN wr A c (ay n))(a:(ay n).length<=1048576):Calls Tryz.prog 169 #[.slice A (ay n).length c,.int .u64 10] wr (ue n wr):=by
 have:=CI A c (ay n) wr h a;rwa[aI]at this
def GW(m:Nat)(t:List UInt8):List UInt8:=if m=0 then t else Lib.decDigits m++t
theorem EI{m:Nat}(h:m≠0)(t:List UInt8):GW m t=GW (m/10) (UInt8.ofNat (48+m%10)::t):=by
 unfold GW;rw[if_neg h];rw[Lib.decDigits];by_cases a:m<10
 ·rw[dif_pos a,if_pos (by omega),NZ a];rfl
 rw[dif_neg a,if_neg (by omega)];simp
def I7(w:World)(D:List UInt8)(x s:Value)(wr:World):Prop:=∃(m:Nat) (t:List UInt8),NumIn w wr x m/\s=.string ⟨t.toArray⟩/\GW m t=D/\(ay m).length<=1048576/\t.length<=D.length/\Below w.heap.size w wr
theorem GX(m:Nat)(t:List UInt8):t.length<=(GW m t).length:=by
 unfold GW;split
 ·exact L5 _
 simp
def mI(l:List UInt8)(w:World)(e:Ending)(w':World):Prop:=e=.returned (.string ⟨l.toArray⟩)/\Below w.heap.size w w'
theorem r7(A:Option Addr)(c:Nat)(b:List Nat)(w:World)(h:IsN w A c b)(hl:b.length<=1048576)(R:(Lib.decDigits (aB b)).length<=1073741824):
  Calls Tryz.prog 100 #[.slice A b.length c] w (mI (Lib.decDigits (aB b)) w):=by
 have S:=J h;clear h;obtain⟨N,I⟩:∃N,aB b=N:=⟨_,rfl⟩;have HN:=J I;rw[I]at R⊢;have a2:(ay N).length<=b.length:=by rw[<-I];exact aR (b4 b S.out.ok)
 clear I
 go_enter Tryz.func100,Tryz.ntmps100
 go_wp2_with fail
 refine(dl A c b _ S.out (by omega)).mono ?_;intro e w1 g;rw[HN.out]at g;obtain⟨v1,rfl,u,k⟩:=g.num (L5 _);have H:=J u;have E:=J k;have a1:=k.size;clear g u k;obtain⟨A1,c1,e1,_⟩:=H.out.is;subst e1;by_cases a:N=0
 ·have g1:(((ay N).length:Int)==0)=true:=by rw[beq_iff_eq];have:=bR.2 a;omega
  have d:=J (show Lib.decDigits N=[48] by rw[a,Lib.decDigits];rfl);clear a
  go_wp2
  go_ret
  exact⟨by rw[d.out];rfl,E.out⟩
 have g1:(((ay N).length:Int)==0)=false:=by rw[beq_eq_false_iff_ne];intro h;exact a (bR.1 (by omega))
 have d:=J (show GW N []=Lib.decDigits N by rw[GW,if_neg a,MA]);clear a;obtain⟨D,l⟩:∃D,Lib.decDigits N=D:=⟨_,rfl⟩;rw[l]at d R;have Q:=J l;clear l
 go_wp2
 go_loopw [3,4] (fun x s wr=>I7 w D x s wr) (fun x _ wr=>ov x wr)
 case atStart=>exact⟨N,[],H.out,Z,d.out,by omega,by simp,E.out⟩
 case round=>
  obtain⟨m,t,f,rfl,B,v,X,n⟩:=hrel;have a0:=J f;have HM:=J f.num;have o:=J B;have G:=J n;have i:=n.size;obtain⟨Am,cm,V,r⟩:=f.is;subst V;have O:=J r;clear f B n r;by_cases a:m=0
  ·have g2:decide (0<((ay m).length:Int))=false:=by rw[decide_eq_false_iff_not];have:=bR.2 a;omega
   have g3:decide (0<(ay m).length)=false:=by rw[decide_eq_false_iff_not];have:=bR.2 a;omega
   have g4:((ay m).length:Int)<=0:=by have:=bR.2 a;omega
   have HT:=J (show t=D by have:=o.out;rwa[GW,if_pos a]at this);clear a
   go_wp2
   go_ret
   exact⟨by rw[Q.out,<-HT.out];rfl,G.out⟩
  have Y:0<(ay m).length:=by
   rcases M1 (ay m).length with h|h
   ·exact absurd (bR.1 h) a
   exact h
  have p:=J (EI a t);have z:m%10<10:=Ni _ (by decide);have K:=J a;clear a
  go_wp2_with fail
  refine(I6 O.out v).mono ?_;rintro e L ⟨v4,T,F,j⟩;have C:NumIn w L v4 (m/10):=OwnN.base_le F i;have y:=J C;have P:=J (ak G.out j i);have M:w.heap.size<=L.heap.size:=L6 i j.size;obtain⟨q,U⟩:∃q,m%10=q:=⟨_,rfl⟩;rw[U]at T z p;subst T;clear F C j U;have W:=D4 (48+(q:Int)) (UInt8.ofNat (48+q)) (by rw[fi q z];omega) L
  go_wp2
  go_roundw
  case rel=>
   refine⟨m/10,UInt8.ofNat (48+q)::t,y.out.below ((Below.refl _ _).alloc (L5 _) _),?_,by rw[<-p.out];exact o.out,L6 (aS (NY _ _)) v,?_,P.out.alloc M _⟩
   ·have:=j9 [UInt8.ofNat (48+q)] t;simpa using this
   have g:=GX (m/10) (UInt8.ofNat (48+q)::t);rw[<-p.out,o.out]at g;exact g
  case measure=>
   have g:=(y.out.below ((Below.refl _ _).alloc (L5 _) (.cells #[.int .u8 (48+(q:Int))] 5))).num;rw[g,HM.out];have:=K.out;omega
end Go.Proofs.YtfoejfohbkmmeaaGreatDoor
