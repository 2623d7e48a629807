import Derived.Test.YtmhcanmapkenbaaGreatDoorA10
set_option maxRecDepth 100000
set_option maxHeartbeats 4000000
set_option linter.defProp false
open Go.Proofs.Tryz
namespace Go.Proofs.YtmhcanmapkenbaaGreatDoor
open Go.RowKit
open Lib renaming hid→J
def pq(j s:Nat):(2:Nat)^(32*j+s)=4294967296^j*2^s:=by
 rw[TY,TZ]
def Jn(a s:Nat)(b:s<32):a%4294967296/2^s%2=a/2^s%2:=by
 have h:(4294967296:Nat)=2^s*2^(32-s):=by rw[<-TY,show s+(32-s)=32 by omega]
 rw[h,Nat.mod_mul_right_div_self,TM];exact⟨2^(32-s-1),by rw[<-Nat.pow_succ',show(32-s-1).succ=32-s by omega]⟩
def pr:∀(l:List Nat) (j:Nat),iF l->l.getD j 0=a8 l/4294967296^j%4294967296
 |[],j,_=>by simp[a8]
 |d::l,0,h=>by
  have:=h d (Qs ..);simp only[List.getD_cons_zero,a8,TN,T0];omega
 |d::l,j+1,h=>by
  have c:=h d (Qs ..);have b:=pr l j (λx a=>h x (QA _ a));simp only[Ta,a8,b];rw[Rw,RR (4294967296^j),<-SU,show(d+4294967296*a8 l)/4294967296=a8 l by omega]
def DT{l:List Nat}{j s d:Nat}(h:iF l)(b:j<l.length)(hd:l[j]=d)(c:s<32):d/2^s%2=a8 l/2^(32*j+s)%2:=by
 have a:=pr l j h;rw[Qp,Qj b,Q2,hd]at a;rw[a,Jn _ _ c,SU,<-pq]
def Jo(l:List Nat)(j d e:Nat)(a:j<l.length)(hd:l[j]=d):a8 (l.set j (d+e))=a8 l+4294967296^j*e:=by
 have f:=kC l j a;have g:=kC (l.set j (d+e)) j (by simpa using a);rw[g,f,hd];have b:(l.set j (d+e)).take j=l.take j:=by rw[SW,List.set_eq_of_length_le];rw[QN];omega
 have c:(l.set j (d+e)).drop (j+1)=l.drop (j+1):=by rw[S8 O]
 rw[b,c,List.getElem_set_self,TK,RS];omega
def rI{l:List Nat}{j s d m:Nat}(h:iF l)(e:j<l.length)(hd:l[j]=d)(g:s<32)(f:a8 l=m*2^(32*j+s+1)):d%2^(s+1)=0:=by
 have a:=pr l j h;rw[Qp,Qj e,Q2,hd]at a;have b:a8 l=4294967296^j*(m*2^(s+1)):=by rw[f,RP,pq,<-Rt,RR m,Rt]
 rw[b,Nat.mul_div_cancel_left _ (Nat.pow_pos I)]at a;rw[a];have c:(4294967296:Nat)=2^(s+1)*2^(31-s):=by rw[<-TY,show s+1+(31-s)=32 by omega]
 rw[TM _ ⟨2^(31-s),c⟩,Nat.mul_mod_left]
def Ms(d s:Nat)(hd:d<4294967296)(e:s<32)(h:d%2^(s+1)=0):bits .or .u32 (d:Int) ((2^s:Nat):Int)=((d+2^s:Nat):Int):=by
 have c:2^s<2^32:=Si I e;rw[u32_or_nat d (2^s) hd (by simpa using c)];have a:d|||2^s=d+2^s:=by
  have:=R5 (i:=s+1) (b:=2^s) (Si I O) (d/2^(s+1));rw[SZ,SK (Tw h)]at this;exact this.symm
 rw[a]
def oh(d:Nat)(hd:d<4294967296):bits .and .u32 (d:Int) 1=((d%2:Nat):Int):=by
 have:=u32_and_nat d 1 hd I;rw[show((1:Nat):Int)=1 from rfl]at this;rw[this,Nat.and_one_is_mod]
def Jp{P Y b:Nat}(a:0<Y)(g:b<=1):(Y<=2*(P%Y)+b->(2*P+b)/Y=2*(P/Y)+1/\(2*P+b)%Y=2*(P%Y)+b-Y)/\(2*(P%Y)+b<Y->(2*P+b)/Y=2*(P/Y)/\(2*P+b)%Y=2*(P%Y)+b):=by
 have c:=Nat.div_add_mod P Y;have f:=R9 P a;generalize P/Y=q at*;generalize P%Y=r at*;subst c;have d:2*(Y*q)=Y*(2*q):=by rw[<-Rt,RR 2 Y,Rt]
 constructor
 ·intro h;have e:2*(Y*q+r)+b=(2*r+b-Y)+Y*(2*q+1):=by rw[RS Y,RS 2];omega
  rw[e,TG _ _ a,To,Sn O,RC O];omega
 intro h;have e:2*(Y*q+r)+b=(2*r+b)+Y*(2*q):=by rw[RS 2];omega
 rw[e,TG _ _ a,To,Sn h,RC h];omega
def Jq(X m:Nat):X/2^m=2*(X/2^(m+1))+X/2^m%2:=by
 rw[Rw,<-SU];omega
def zN(n:Nat):(madeCells (Value.int .u32 0).cells (n*1)).toList=dq (List.replicate n 0):=by
 apply SY
 ·simp[madeCells,dq]
 intro j a b;simp[madeCells,dq,Value.cells,Nat.mod_one]
def uk(w:World)(n:Nat)(k:n<=1073741824):∃w',(∀b a,(Instr.makeSlice 25 (.int b (n:Int)) (.int a (n:Int))).run prog w=.ok (.slice (some ⟨w.heap.size,0,none⟩) n n) w')/\
  OwnN w' w.heap.size (.slice (some ⟨w.heap.size,0,none⟩) n n) (List.replicate n 0)/\Below w.heap.size w w'/\w'.heap.size=w.heap.size+1:=by
 obtain⟨j,c,d,f,g⟩:=info_parts rE;have i:∀b a,(Instr.makeSlice 25 (.int b (n:Int)) (.int a (n:Int))).run prog w=.ok (.slice (some ⟨w.heap.size,0,none⟩) n n) (w.alloc (.cells (madeCells (Value.int .u32 0).cells (n*j.size)) 114)):=λb a=>by
  have:=run_make (P:=prog) w 25 114 j (.int .u32 0) underlying25 c d b a n n O (T1 _) (by rw[g];omega) O;simpa using this
 rw[f]at i;refine⟨_,i,?_,(Below.refl _ _).alloc (Qi _) _,F⟩;have h:=World.ownsRow_lit (base:=w.heap.size) (e:=114) (size:=1) w (madeCells (Value.int .u32 0).cells (n*1)) n (Qi _) (by simp only[maxLen];omega) (size_madeCells _ _);rw[zN]at h;unfold OwnN;rw[TD];exact h
def tR(n:Nat):a8 (List.replicate n 0)=0:=m8 _ (λ_ hd=>(Tf.1 hd).2)
def rJ(n:Nat):iF (List.replicate n 0):=λ_ hd=>by rw[(Tf.1 hd).2];decide
def DivInv(w2:World)(X Y n:Nat)(r i:Value)(wr:World):Prop:=
 ∃(k:Nat) (qd:List Nat),k<=32*n/\i=.int .i64 ((k:Int)-1)/\qd.length=n/\iF qd/\OwnN wr w2.heap.size (.slice (some ⟨w2.heap.size,0,none⟩) n n) qd/\a8 qd=X/2^k/Y*2^k/\OwnN wr (w2.heap.size+1) r (aP (X/2^k%Y))/\Below w2.heap.size w2 wr/\w2.heap.size+1<=wr.heap.size
def vE{a W:World}{X Y n:Nat}{i:Int}(c:X<4294967296^n)(f:OwnN W a.heap.size (.slice (some ⟨a.heap.size,0,none⟩) n n) (List.replicate n 0))(d:Below a.heap.size a W)(g:W.heap.size=a.heap.size+1)(e:i=32*(n:Int)-1):DivInv a X Y n (.slice none 0 0) (.int .i64 i) W:=by
 have b:X/2^(32*n)=0:=Sn (by rw[TZ];exact c);subst e;refine⟨32*n,List.replicate n 0,Qi _,by rw[show((32*n:Nat):Int)-1=32*(n:Int)-1 by omega],TD,rJ n,f,by rw[tR,b];simp,?_,d,O⟩;rw[b];simp;exact OwnN.nil _ _
def Mt{d s:Nat}(hd:d<4294967296)(c:s<32)(h:d%2^(s+1)=0):d+2^s<4294967296:=by
 have a:d|||2^s=d+2^s:=by
  have:=R5 (i:=s+1) (b:=2^s) (Si I O) (d/2^(s+1));rw[SZ,SK (Tw h)]at this;exact this.symm
 rw[<-a];exact Nat.or_lt_two_pow (n:=32) hd (Si I c)
def gY{w:World}{base e size n g:Nat}{v:Value}{xs:List Value}(h:w.ownsRow base e size v n xs)(a:g<base):v.ownBlock≠some g:=λe=>by have:=(h.lt g e).1;omega
def DivInv.set{a g:World}{X Y n m j s q0 D:Nat}{b:List Nat}{C:Value}{z i:Int}(I:m<=32*n)(f:b.length=n)(e:iF b)(x:OwnN g a.heap.size (.slice (some ⟨a.heap.size,0,none⟩) n n) b)(q:a8 b=X/2^(m+1)/Y*2^(m+1))(l:32*j+s=m)(F:s<32)(v:j<b.length)(c:b[j]=q0)
  (y:OwnN g D C (aP (X/2^m%Y))) (t:a.heap.size+1<=D) (A:X/2^m/Y=2*(X/2^(m+1)/Y)+1) (u:Below a.heap.size a g) (B:a.heap.size+1<=g.heap.size) (J:z=((q0+2^s:Nat):Int)) (G:i=(m:Int)-1):
  DivInv a X Y n C (.int .i64 i) (g.setCell ⟨a.heap.size,j,none⟩ (.int .u32 z)):=by
 subst J G;have w:q0%2^(s+1)=0:=rI e v c F (m:=X/2^(m+1)/Y) (by rw[q,l]);have o:q0<4294967296:=by rw[<-c];exact e _ (Rx v)
 refine⟨m,b.set j (q0+2^s),I,Z,by rw[Rr,f],λd hd=>?_,?_,?_,?_,u.setCell (p:=⟨a.heap.size,j,none⟩) (Qi _) _,by simpa[World.setCell]using B⟩
 ·rcases Tq hd with h|h
  ·exact e d h
  rw[h];exact Mt o F w
 ·have r:OwnN g a.heap.size (.slice (some ⟨a.heap.size,0,none⟩) b.length n) b:=by rw[f];exact x
  have E:=r.set (i:=j) (q0+2^s);rw[Rr,f]at E;exact E
 ·rw[Jo b j q0 (2^s) v c,q,A,Rp,<-pq,l,Rw,Nat.one_mul];congr 1;rw[RR (2^m) 2,<-Rt,RR _ 2]
 have r:OwnN g (a.heap.size+1) C (aP (X/2^m%Y)):=y.base_le t;exact ez r (gY r (SB _)) (λk H=>Below.heap_setCell _ _ _ _ H)
def BT(X Y:Nat)(w:World)(e:Ending)(w':World):Prop:=∃q r,e=.returned (.tuple #[q,r,.bool true])/\OwnN w' w.heap.size q (aP (X/Y))/\OwnN w' w.heap.size r (aP (X%Y))/\Below w.heap.size w w'
def zO(A B:Option Addr)(ca cb:Nat)(x y:List Nat)(w:World)(hA:IsN w A ca x)(hB:IsN w B cb y)(s3:x.length<=1048576)(s4:y.length<=1048576)(hy:0<a8 y):
  Calls prog 56 #[.slice A x.length ca,.slice B y.length cb] w (BT (a8 x) (a8 y) w):=by
 have HA:=J hA;have HB:=J hB;clear hA hB;have q9:(aP (a8 x)).length<=x.length:=bP (eP x HA.out.ok);have r0:(aP (a8 y)).length<=y.length:=bP (eP y HB.out.ok);have i8:0<(aP (a8 y)).length:=by
  rcases RW (aP (a8 y)).length with h|h
  ·have:=dK.1 h;omega
  exact h
 go_enter func56,ntmps56
 go_wp2_with fail
 refine(dR A ca x _ HA.out O).mono ?_;intro e w1 h1;obtain⟨A1,c1,rfl,j2,e5⟩:=h1.open_;have h0:=J j2;have g5:=J e5;have n0:=e5.size;clear h1 j2 e5
 go_wp2_with fail
 refine(dR B cb y _ (HB.out.below g5.out) O).mono ?_;intro e w2 h2;obtain⟨A2,c2,rfl,k0,a3⟩:=h2.open_;have c5:=J k0;have u:=J (h0.out.below a3);have o2:=J (aZ g5.out a3 n0);have r3:w.heap.size<=w2.heap.size:=Qu n0 a3.size;clear h2 k0 a3 h0;have U:=J (bS (a8 x));have l:=J (bS (a8 y));obtain⟨E,b5⟩:∃E,aP (a8 x)=E:=⟨_,Z⟩;obtain⟨dy,K⟩:∃dy,aP (a8 y)=dy:=⟨_,Z⟩;have t:=J K;rw[b5]at u q9 U⊢;rw[K]at c5 r0 i8 l⊢;clear b5 K;obtain⟨X,hX⟩:∃X,a8 x=X:=⟨_,Z⟩;obtain⟨Y,hY⟩:∃Y,a8 y=Y:=⟨_,Z⟩;rw[hX]at U;rw[hY]at l hy t;have h7:=J hX;have h9:=J hY;clear hX hY;have b3:X<4294967296^E.length:=by rw[<-U.out];exact eP E u.out.ok
 have q3:=J b3;clear b3;have g1:((dy.length:Int)==0)=false:=by rw[beq_eq_false_iff_ne];omega
 obtain⟨W,f4,l5,i0,o1⟩:=uk w2 E.length O;have f4:=f4 .i64 .i64;have p7:=J l5;have p0:=J i0;have q4:=J o1;clear l5 i0 o1
 go_wp2
 clear f4
 go_loopw [10,11] (λr i wr=>DivInv w2 X Y E.length r i wr) (λ_ i _=>(intOf i+1).toNat)
 case atStart=>exact vE q3.out p7.out p0.out q4.out O
 case round=>
  obtain⟨k,qd,hk,rfl,m3,m2,l6,m4,p,i3,t2⟩:=hrel;have C:=J m3;have z:=J m2;have h5:=J l6;have a1:=J m4;have V:=J p;have c3:=J i3;clear m3 m2 l6 m4 p i3;cases k with
  |zero=>
   have l2:a8 qd=X/Y:=by have:=a1.out;simpa using this
   have p:=V.out;rw[TN,T0]at p;obtain⟨Ar,cr,er,L⟩:=p.is (dA (X%Y));subst er;have v:=J L;have D:=J (bS (X%Y));have r2:(aP (X%Y)).length<=dy.length:=by rw[<-t.out];exact dp (Nat.le_of_lt (R9 _ hy))
   have l0:IsN wr (some ⟨w2.heap.size,0,none⟩) E.length qd:=by
    have h1:=h5.out;obtain⟨A',c',e,hi⟩:=h1.is z.out;injection e with e1 e2 e3
    subst e1 e3;exact hi
   have p1:=J l0;have p3:=J l2;obtain⟨dr,f2⟩:∃dr,aP (X%Y)=dr:=⟨_,Z⟩;rw[f2]at v D r2⊢;have r7:=J f2;have g:w.heap.size<=wr.heap.size:=O
   have g7:=J (o2.out.trans (c3.out.mono r3));clear p L l0 l2 f2;have f5:=dR (some ⟨w2.heap.size,0,none⟩) E.length qd wr p1.out (by have:=C.out;omega);rw[C.out,p3.out]at f5;have p2:=J f5;clear f5
   go_wp2_with fail
   refine p2.out.mono ?_;rintro e w4 ⟨v4,rfl,M,c⟩;have n:=J M;have c0:=J c;have n2:=c.size;clear M c;have g0:=dR Ar cr dr w4 (v.out.below c0.out) O;rw[D.out]at g0;have p4:=J g0;clear g0
   go_wp2_with fail
   refine p4.out.mono ?_;rintro e w5 ⟨v5,rfl,l3,a⟩;have d0:=J l3;have a0:=J (n.out.below a);have T:=J (aZ (aZ g7.out c0.out g) a (Qu g n2));clear l3 a
   go_wp2
   go_ret3
   exact⟨v4,v5,Z,by rw[h7.out,h9.out];exact a0.out.base_le g,by rw[h7.out,h9.out];exact d0.out.base_le O,T.out⟩
  |succ m=>
   rw[show((m+1:Nat):Int)-1=(m:Int) by omega];have hj:m/32<E.length:=O
   obtain⟨j,l1⟩:∃j,m/32=j:=⟨_,Z⟩;obtain⟨s,r4⟩:∃s,m%32=s:=⟨_,Z⟩;have f:s<32:=O
   have f3:32*j+s=m:=O
   rw[l1]at hj;have i1:(m:Int)/32=(j:Int):=O
   have i2:(m:Int)%32=(s:Int):=O
   obtain⟨b,off,rfl,hb,hc⟩:=(u.out.below c3.out).digit hj;obtain⟨d,hd⟩:∃d,E[j]=d:=⟨_,Z⟩;have e7:=hc j hj;rw[hd]at e7;have i4:d<4294967296:=by rw[<-hd];exact u.out.ok _ (Rx hj)
   have b2:=J (DT u.out.ok hj hd f);rw[U.out,f3]at b2;have q8:d/2^s<4294967296:=RA (Su _ _) i4;have G:=oh (d/2^s) q8;rw[Int.natCast_ediv,show((2^s:Nat):Int)=(2:Int)^s by simp,b2.out]at G;have a9:=J G;have H:X/2^m%2<=1:=O
   obtain⟨bit,e6⟩:∃bit,X/2^m%2=bit:=⟨_,Z⟩;rw[e6]at a9 H;have o3:=J e6;clear G e6;have h3:=J f3;clear hd hc l1 r4 f3;have k1:(j:Int)<(E.length:Int):=O
   have k2:(0:Int)<=(j:Int):=O
   have k3:(0:Int)<=(s:Int):=O
   have k4:(s:Int)<32:=O
   obtain⟨R,hR⟩:∃R,X/2^(m+1)%Y=R:=⟨_,Z⟩;have s1:R<Y:=by rw[<-hR];exact R9 _ hy
   have HR:=J hR;rw[hR]at V;clear hR;have q7:(aP R).length<=dy.length:=by rw[<-t.out];exact dp O
   obtain⟨Ar,cr,er,L⟩:=V.out.is (dA R);subst er;have v:=J L;have D:=J (bS R);clear L;obtain⟨dr,b4⟩:∃dr,aP R=dr:=⟨_,Z⟩;rw[b4]at v D q7 V⊢;clear b4;have g:w2.heap.size<=wr.heap.size:=O
   go_wp2_with fail
   rw[a9.out];have f1:=rH Ar cr dr bit wr v.out O H;rw[D.out]at f1;refine f1.mono ?_;intro e w4 h4;obtain⟨v4,rfl,M,c⟩:=h4;have n:=J M;have c0:=J c;have n2:=c.size;have q1:=J (h5.out.below c);have b0:=J (aZ c3.out c g);clear f1 M c;obtain⟨q,e0⟩:∃q,2*R+bit=q:=⟨_,Z⟩;have r5:q<2*Y:=O
   rw[e0]at n;have q2:=J e0;clear e0;have i5:(aP q).length<=dy.length+1:=bP (by
    have h1:=eP dy c5.out.ok;rw[l.out]at h1;rw[Rw];omega)
   obtain⟨A4,c4,e4,k6⟩:=n.out.is (dA q);subst e4;have c9:=J k6;have a2:=J (bS q);clear k6;obtain⟨d4,f0⟩:∃d4,aP q=d4:=⟨_,Z⟩;have g8:=J f0;rw[f0]at c9 a2 i5 n⊢;clear f0;have n1:w2.heap.size<=w4.heap.size:=O
   have h8:=J (c5.out.below b0.out)
   go_wp2_with fail
   have o:=vD A4 A2 c4 c2 d4 dy w4 c9.out h8.out O O;rw[a2.out,l.out]at o;refine o.mono ?_;rintro e w5 ⟨he,a⟩;have T:=J a;have t0:=a.size;have a0:=J (q1.out.below a);have d0:=J (n.out.below a);have b1:=J (aZ b0.out a n1);clear o a;have g3:=Jp (P:=X/2^(m+1)) (Y:=Y) (b:=bit) hy H;have g4:=Jq X m;rw[o3.out]at g4;rw[<-g4,HR.out,q2.out]at g3;have h6:=J g3;clear g3 g4;by_cases i9:Y<=q
   ·obtain⟨Q,S⟩:=h6.out.1 i9;have d1:=J Q;have d3:=J S;clear Q S;have q6:0<=iE (q:Int) (Y:Int):=by
     rcases Rm Y q with h|h
     ·rw[n9 h];decide
     rw[mb O];decide
    obtain⟨cm,o⟩:∃cm,iE (q:Int) (Y:Int)=cm:=⟨_,Z⟩;rw[o]at he q6;subst he;clear o
    go_wp2_with fail
    have g2:=BS A4 A2 c4 c2 d4 dy w5 (c9.out.below T.out) (h8.out.below T.out) O O (by rw[a2.out,l.out];exact i9);rw[a2.out,l.out]at g2;refine g2.mono ?_;rintro e w6 ⟨v6,rfl,l4,a4⟩;have p5:=J l4;have t1:=a4.size;have d2:=J (a0.out.below a4);have g6:=J (aZ b1.out a4 O);clear g2 l4 a4;have a5:j<qd.length:=by have:=C.out;omega
    obtain⟨q0,N⟩:∃q0,qd[j]=q0:=⟨_,Z⟩;have m1:q0<4294967296:=by rw[<-N];exact z.out _ (Rx a5)
    have q5:=d2.out.cell a5;rw[N]at q5;have s2:=d2.out.free j;have r1:q0%2^(s+1)=0:=rI z.out a5 N f (m:=X/2^(m+1)/Y) (by rw[a1.out,h3.out]);have p6:=J (Ms q0 s m1 f r1);have p9:=J N;have r6:2^s<4294967296:=by
     have:2^s<2^32:=Si I f;simpa using this
    clear N e7;have p8:=J (show(2:Int)^s%4294967296=((2^s:Nat):Int) by
     have e:((2^s:Nat):Int)=(2:Int)^s:=F
     rw[<-e];omega)
    go_wp2
    go_roundw
    case rel=>exact DivInv.set (q0:=q0) O C.out z.out d2.out a1.out h3.out f a5 p9.out (by rw[d3.out];exact p5.out) O d1.out g6.out O (by rw[p8.out,p6.out]) Z
    case measure=>simp[intOf]
   obtain⟨Q,S⟩:=h6.out.2 O;have d1:=J Q;have d3:=J S;clear Q S;rw[qx (show q<Y by omega)]at he;subst he;clear e7
   go_wp2
   go_roundw
   case rel=>
    refine⟨m,qd,O,Z,C.out,z.out,a0.out,?_,?_,b1.out,O⟩
    ·rw[a1.out,d1.out,Rw,RR (2^m) 2,<-Rt,RR _ 2]
    rw[d3.out];have:=d0.out;rw[<-g8.out]at this;rw[<-g8.out];exact this.base_le O
   case measure=>simp[intOf]
def rK(v:Value)(w:World):Nat:=
 match v with
 | .slice (some a) n _=>a8 ((List.range n).map λi=>match w.cell? ⟨a.block,a.off+i,none⟩with
  |some (.int _ d)=>d.toNat
  |_=>0)
 |_=>0
def OwnN.num{w:World}{base:Nat}{v:Value}{l:List Nat}(h:OwnN w base v l):rK v w=a8 l:=by
 rcases h.2 with⟨rfl,c⟩|⟨g,cap,cur,rfl,f⟩
 ·have:l=[]:=QI c;subst this;rfl
 show a8 ((List.range l.length).map λi=>match w.cell? ⟨g,0+i,none⟩with
  |some (.int _ d)=>d.toNat
  |_=>0)=a8 l
 congr 1;apply SY
 ·simp
 intro j e a;have b:=h.cell a;simp[b]
def mO{a b:Nat}(e:a%2=0)(d:b%2=1):Nat.gcd (a/2) b=Nat.gcd a b:=by
 have c:Nat.Coprime 2 b:=by
  unfold Nat.Coprime;rw[Nat.gcd_rec,d];decide
 have:=c.gcd_mul_left_cancel (a/2);rw[show 2*(a/2)=a by omega]at this;exact this.symm
def rM{a b:Nat}(c:a%2=1)(d:b%2=0):Nat.gcd a (b/2)=Nat.gcd a b:=by
 rw[TO,mO d c,TO]
def DU{n:Nat}(h:n≠0):∃a:0<(aP n).length,(aP n)[0]%2=n%2:=by
 have e:=iO h;refine⟨by rw[e];simp,?_⟩;have:(aP n)[0]'(by rw[e];simp)=n%4294967296:=by
  rw[List.getElem_of_eq e];rfl
 rw[this];omega
def NumIn(w wr:World)(v:Value)(n:Nat):Prop:=OwnN wr w.heap.size v (aP n)
def NumIn.below{w a w':World}{v:Value}{n:Nat}(h:NumIn w a v n)(b:Below a.heap.size a w'):NumIn w w' v n:=OwnN.below h b
def NumIn.is{w a:World}{v:Value}{n:Nat}(h:NumIn w a v n):∃A c,v=.slice A (aP n).length c/\IsN a A c (aP n):=OwnN.is h (dA n)
def NumIn.num{w a:World}{v:Value}{n:Nat}(h:NumIn w a v n):rK v a=n:=(OwnN.num h).trans (bS n)
def mc{f:World}{A:Option Addr}{c n:Nat}(h:IsN f A c (aP n))(i:n≠0):∃b off d,A=some ⟨b,off,none⟩/\f.cell? ⟨b,off,none⟩=some (.int .u32 (d:Nat))/\d%2=n%2/\d<4294967296/\0<(aP n).length:=by
 obtain⟨a,hd⟩:=DU i;obtain⟨b,off,e,_,g⟩:=h.digit a;exact⟨b,off,(aP n)[0],e,g 0 a,hd,h.ok _ (Rx a),a⟩
def BU{a:World}{A:Option Addr}{c n:Nat}(h:IsN a A c (aP n))(hl:(aP n).length<=1073741822):Calls prog 95 #[.slice A (aP n).length c] a (NatPost (n/2) a):=by
 have:=Ft A c (aP n) a h hl;rwa[bS]at this
def Jr{a:World}{A:Option Addr}{c n bit:Nat}(h:IsN a A c (aP n))(hl:(aP n).length<=1073741822)(b:bit<=1):Calls prog 97 #[.slice A (aP n).length c,.int .u32 bit] a (NatPost (2*n+bit) a):=by
 have:=rH A c (aP n) bit a h hl b;rwa[bS]at this
def Mu{a:World}{A B:Option Addr}{c d m n:Nat}(h:IsN a A c (aP m))(b:IsN a B d (aP n))(hl:(aP m).length<=1073741822)(e:(aP n).length<=1073741822):Calls prog 68 #[.slice A (aP m).length c,.slice B (aP n).length d] a (BQ m n a):=by
 have:=vD A B c d (aP m) (aP n) a h b O O;rwa[bS,bS]at this
def Ot{a:World}{A B:Option Addr}{c d m n:Nat}(h:IsN a A c (aP m))(e:IsN a B d (aP n))(hl:(aP m).length<=1073741822)(f:(aP n).length<=1073741822)(b:n<=m):Calls prog 96 #[.slice A (aP m).length c,.slice B (aP n).length d] a (BR (m-n) a):=by
 have:=BS A B c d (aP m) (aP n) a h e O O (by rw[bS,bS];exact b);rwa[bS,bS]at this
def NatPost.num{n:Nat}{w a:World}{e:Ending}{w':World}(h:NatPost n a e w')(f:w.heap.size<=a.heap.size):∃v,e=.returned v/\NumIn w w' v n/\Below a.heap.size a w':=by
 obtain⟨v,c,d,b⟩:=h;exact⟨v,c,OwnN.base_le d f,b⟩
def vF{n M k:Nat}(h:n<=M)(a:M<4294967296^k):(aP n).length<=k:=bP (RA h a)
def Ou(w:World)(X Y:Nat)(x y sh:Value)(wr:World):Prop:=∃a b s:Nat,sh=.int .i64 s/\NumIn w wr x a/\NumIn w wr y b/\0<a/\0<b/\a*2^s=X/\b*2^s=Y/\Below w.heap.size w wr
def Ov(w:World)(G s k:Nat)(x y:Value)(wr:World):Prop:=∃a b:Nat,NumIn w wr x a/\NumIn w wr y b/\0<a/\(a%2=1\/b%2=1)/\Nat.gcd a b*2^s=G/\a<4294967296^k/\b<4294967296^k/\Below w.heap.size w wr
def Ow(w:World)(g a0 b:Nat)(x y:Value)(wr:World):Prop:=∃a:Nat,NumIn w wr x a/\NumIn w wr y b/\0<a/\a<=a0/\(a%2=1\/b%2=1)/\Nat.gcd a b=g/\Below w.heap.size w wr
def Ox(w:World)(g b0 a:Nat)(x y:Value)(wr:World):Prop:=∃b:Nat,NumIn w wr x a/\NumIn w wr y b/\0<b/\b<=b0/\Nat.gcd a b=g/\Below w.heap.size w wr
def Oy(w:World)(a s:Nat)(x i:Value)(wr:World):Prop:=∃t:Nat,t<=s/\i=.int .i64 t/\NumIn w wr x (a*2^t)/\Below w.heap.size w wr
def qy{X a s:Nat}(b:0<a)(h:a*2^s=X)(c:a%2=0):0<a/2/\a/2*2^(s+1)=X:=by
 refine⟨O,?_⟩;rw[Rw,RR (2^s) 2,<-Rt,show a/2*2=a by omega,h]
def Fu{X a s:Nat}(b:0<a)(h:a*2^s=X):s<X:=by
 have c:s<2^s:=Nat.lt_two_pow_self;have d:1*2^s<=a*2^s:=Ru _ b;omega
def Fv{X a s k:Nat}(c:0<a)(h:a*2^s=X)(f:X<4294967296^k):s<32*k:=by
 have d:1*2^s<=a*2^s:=Ru _ c;have e:(2:Nat)^32=4294967296:=I
 have b:2^s<2^(32*k):=by rw[TZ,e];omega
 exact(Nat.pow_lt_pow_iff_right I).1 b
def BV{X a s:Nat}(h:a*2^s=X):a<=X:=by
 have:a*1<=a*2^s:=SF _ (Nat.pow_pos I);omega
def Js(A B:Option Addr)(ca cb:Nat)(x y:List Nat)(w:World)(hA:IsN w A ca x)(hB:IsN w B cb y)(v3:x.length<=1048576)(v6:y.length<=1048576):
  Calls prog 55 #[.slice A x.length ca,.slice B y.length cb] w (NatPost (Nat.gcd (a8 x) (a8 y)) w):=by
 have HA:=J hA;have HB:=J hB;clear hA hB;obtain⟨X,hX⟩:∃X,a8 x=X:=⟨_,Z⟩;obtain⟨Y,hY⟩:∃Y,a8 y=Y:=⟨_,Z⟩;obtain⟨K,hK⟩:∃K:Nat,K=x.length+y.length:=⟨_,Z⟩;have u6:K<=2097152:=O
 have p5:X<4294967296^K:=by
  rw[<-hX];exact QE (eP x HA.out.ok) (Sk I O)
 have p6:Y<4294967296^K:=by
  rw[<-hY];exact QE (eP y HB.out.ok) (Sk I O)
 have a4:=J p5;have i1:=J p6;have d4:=J hX;have e0:=J hY;clear p5 p6 hX hY hK
 go_enter func55,ntmps55
 go_wp2_with fail
 refine(dR A ca x _ HA.out O).mono ?_;intro e w1 h1;rw[d4.out]at h1;obtain⟨v1,rfl,C,b0⟩:=h1.num (Qi _);have u:=J C;have l6:=J b0;have l4:=b0.size;clear h1 C b0
 go_wp2_with fail
 refine(dR B cb y _ (HB.out.below l6.out) O).mono ?_;intro e w2 h2;rw[e0.out]at h2;obtain⟨v2,rfl,D,L⟩:=h2.num l4;have a0:=J D;have u:=J (u.out.below L);have g8:=J (aZ l6.out L l4);have x1:w.heap.size<=w2.heap.size:=Qu l4 L.size;clear h2 D L;obtain⟨A1,c1,e1,b4⟩:=u.out.is;obtain⟨A2,c2,e2,b5⟩:=a0.out.is;subst e1 e2;have u8:(aP X).length<=K:=bP a4.out;have u9:(aP Y).length<=K:=bP i1.out;have z1:(aP X).length=0↔X=0:=dK;have z2:(aP Y).length=0↔Y=0:=dK;have i2:=J z1;have p3:=J z2;clear b4 b5 z1 z2;by_cases r:X=0
 ·have g1:(((aP X).length:Int)==0)=true:=by rw[beq_iff_eq];have:=i2.out.2 r;omega
  have d3:=J r;clear r
  go_wp2
  go_ret
  exact⟨_,Z,by rw[d4.out,e0.out,d3.out,TU];exact a0.out,g8.out⟩
 by_cases M:Y=0
 ·have g1:(((aP X).length:Int)==0)=false:=by rw[beq_eq_false_iff_ne];intro h;exact r (i2.out.1 O)
  have g2:(((aP Y).length:Int)==0)=true:=by rw[beq_iff_eq];have:=p3.out.2 M;omega
  have i0:=J M;clear M r
  go_wp2
  go_ret
  exact⟨_,Z,by rw[d4.out,e0.out,i0.out,TP];exact u.out,g8.out⟩
 have g1:(((aP X).length:Int)==0)=false:=by rw[beq_eq_false_iff_ne];intro h;exact r (i2.out.1 O)
 have g2:(((aP Y).length:Int)==0)=false:=by rw[beq_eq_false_iff_ne];intro h;exact M (p3.out.1 O)
 have d3:=J r;have i0:=J M;clear r M
 go_wp2
 go_loopw [5,6,7] (λx y sh wr=>Ou w X Y x y sh wr) (λ_ _ sh _=>X-(intOf sh).toNat)
 case atStart=>exact⟨X,Y,0,Z,u.out,a0.out,RN d3.out,RN i0.out,F,F,g8.out⟩
 case round=>
  obtain⟨a,b,s,rfl,q,k,ha,hb,f,i8,z⟩:=hrel;obtain⟨Aa,t2,ea,c0⟩:=q.is;obtain⟨Ab,p4,eb,c3⟩:=k.is;subst ea eb;have t5:(aP a).length<=K:=vF (BV f) a4.out;have t9:(aP b).length<=K:=vF (BV i8) i1.out;have x2:=Fv ha f a4.out;have x3:=Fu ha f;obtain⟨ba,oa,da,e1,p7,i9,j2,v9⟩:=mc c0 O;obtain⟨bb,ob,db,e2,p8,k0,k1,w0⟩:=mc c3 O;subst e1 e2;have e5:=z.size;have d2:=J q;have h9:=J k;have r3:=J c0;have r4:=J c3;have d0:=J f;have d1:=J i8;have U:=J z;have Q:=J (oh da j2);have R:=J (oh db k1);clear q k c0 c3 f i8 z;have p1:bits .and .u32 (da:Int) 1=((a%2:Nat):Int):=by rw[Q.out,i9]
  have p2:bits .and .u32 (db:Int) 1=((b%2:Nat):Int):=by rw[R.out,k0]
  by_cases q5:a%2=0/\b%2=0
  ·obtain⟨o,p⟩:=q5;rw[o]at p1;rw[p]at p2;have V:=J o;have W:=J p;clear o p i9 k0 Q R
   go_wp2_with fail
   refine(BU r3.out O).mono ?_;intro e w4 N;obtain⟨v4,rfl,d,c⟩:=N.num (w:=w) e5;have v:=J d;have m:=J c;have e4:w.heap.size<=w4.heap.size:=Qu e5 c.size;clear N d c p1 p2 p7 p8
   go_wp2_with fail
   refine(BU (r4.out.below m.out) O).mono ?_;intro e w5 h5;obtain⟨v5,rfl,l,j⟩:=h5.num (w:=w) e4;have a2:=J l;have n1:=J (v.out.below j);have S:=J (aZ (aZ U.out m.out e5) j e4);clear h5 l j
   go_wp2
   go_roundw
   case rel=>exact⟨a/2,b/2,s+1,by go_num,n1.out,a2.out,(qy ha d0.out V.out).1,(qy hb d1.out W.out).1,(qy ha d0.out V.out).2,(qy hb d1.out W.out).2,S.out⟩
   case measure=>simp[intOf];omega
  have HG:=J (show Nat.gcd a b*2^s=Nat.gcd X Y by rw[<-d0.out,<-d1.out,Nat.gcd_mul_right]);have a3:=J (show a%2=1\/b%2=1 by omega);have P:=J (show a<4294967296^K from RA (BV d0.out) a4.out);have T:=J (show b<4294967296^K from RA (BV d1.out) i1.out);have q8:(a%2=1)\/(a%2=0/\b%2=1):=O
  obtain⟨wo,u0⟩:∃wo:World,wo=wr:=⟨_,Z⟩;subst u0;clear q5 i9 k0 Q R;rcases q8 with g6|⟨g6,q9⟩
  all_goals
   rw[g6]at p1;try rw[q9]at p2
   go_wp2
   clear p1 p2 p7 p8
   go_loopw [5,6] (λx y w'=>Ov w (Nat.gcd X Y) s K x y w') (λx y w'=>rK x w'+rK y w')
   case atStart=>exact⟨a,b,d2.out,h9.out,ha,a3.out,HG.out,P.out,T.out,U.out⟩
   case round=>
    obtain⟨a,b,q,k,ha,g5,hg,i3,i4,z⟩:=hrel;have d2:=J q;have h9:=J k;have a3:=J g5;have HG:=J hg;have P:=J i3;have T:=J i4;have U:=J z;have e5:=z.size;have t5:(aP a).length<=K:=bP i3;have t9:(aP b).length<=K:=bP i4;have m4:=J q.num;have n0:=J k.num;obtain⟨Ab,p4,eb,c3⟩:=k.is;obtain⟨Aa,t2,ea,c0⟩:=q.is;subst ea eb;clear q k g5 hg i3 i4 z c0 c3;by_cases a9:b=0
    ·have u7:((aP b).length:Int)<=0:=by have:=dK.2 a9;omega
     have m3:=J (show a*2^s=Nat.gcd X Y by have:=HG.out;rwa[a9,TP]at this);have k4:decide (0<((aP b).length:Int))=false:=by rw[decide_eq_false_iff_not];omega
     have k6:decide (0<(aP b).length)=false:=by rw[decide_eq_false_iff_not];omega
     clear a9;obtain⟨wp,l5⟩:∃wp:World,wp=wr:=⟨_,Z⟩;subst l5
     go_wp2
     go_loopw [5,8] (λx i w'=>Oy w a s x i w') (λ_ i _=>s-(intOf i).toNat)
     case atStart=>exact⟨0,O,Z,by rw[TN,TX];exact d2.out,U.out⟩
     case round=>
      obtain⟨t,ht,rfl,l1,i5⟩:=hrel;have s3:=J l1;have m1:=J i5;have r0:=i5.size;obtain⟨u4,ct,et,q6⟩:=l1.is;subst et;have r5:=J q6;have v0:(aP (a*2^t)).length<=2*K:=by
       refine bP ?_;have h1:a*2^t<=a*2^s:=SF _ (Sk I ht);rw[m3.out]at h1;have h2:Nat.gcd X Y<=X:=Nat.gcd_le_left _ (RN d3.out);have h3:4294967296^K<=4294967296^(2*K):=Sk I O;have N:=a4.out;omega
      clear l1 i5 q6;by_cases y0:t<s
      ·go_wp2_with fail
       refine(Jr (bit:=0) r5.out O O).mono ?_;intro e w4 N;obtain⟨v4,rfl,d,c⟩:=N.num (w:=w) r0;rw[show 2*(a*2^t)+0=a*2^(t+1) by rw[Rw,RQ,RR 2,Rt]]at d;have v:=J d;have m:=J (aZ m1.out c r0);clear N d c
       go_wp2
       go_roundw
       case rel=>exact⟨t+1,O,by go_num,v.out,m.out⟩
       case measure=>simp[intOf];omega
      obtain rfl:t=s:=O
      go_wp2
      go_ret
      exact⟨_,Z,by rw[d4.out,e0.out,<-m3.out];exact s3.out,m1.out⟩
    have b0:0<b:=O
    have w3:0<(aP b).length:=by
     rcases RW (aP b).length with h|h
     ·exact absurd (dK.1 h) a9
     exact h
    clear a9;obtain⟨g,l0⟩:∃g,Nat.gcd a b=g:=⟨_,Z⟩;have r1:=J l0;rw[l0]at HG;clear l0;obtain⟨wp,l5⟩:∃wp:World,wp=wr:=⟨_,Z⟩;subst l5
    go_wp2
    go_loopw [5] (λx w'=>Ow w g a b x (.slice Ab (aP b).length p4) w') (λx w'=>rK x w')
    case atStart=>exact⟨a,d2.out,h9.out,ha,Qi _,a3.out,r1.out,U.out⟩
    case round=>
     obtain⟨n,C,k,t3,g3,c9,k4,b1⟩:=hrel;have u:=J C;have g0:=J k;have m2:=J k4;have e7:=J b1;have r6:=J C.num;have g7:=b1.size;have u2:(aP n).length<=K:=vF g3 P.out;obtain⟨A1,c1,e1,b4⟩:=C.is;subst e1;obtain⟨bx,ox,dx,ex,q1,q3,k2,w6⟩:=mc b4 O;subst ex;have r2:=J b4;have f:=oh dx k2;rw[q3]at f;clear C k k4 b1 b4 q3;by_cases o:n%2=0
     ·rw[o]at f;have e6:=J (show b%2=1 by omega);have V:=J o;clear o c9
      go_wp2_with fail
      refine(BU r2.out O).mono ?_;intro e w4 N;obtain⟨v4,rfl,d,c⟩:=N.num (w:=w) g7;have v:=J d;have h7:=J d.num;have o1:=J (g0.out.below c);have m:=J (aZ e7.out c g7);clear N d c f q1
      go_wp2
      go_roundw
      case rel=>exact⟨n/2,v.out,o1.out,by have:=V.out;omega,O,.inr e6.out,by rw[mO V.out e6.out];exact m2.out,m.out⟩
      case measure=>rw[h7.out,r6.out];omega
     have l2:n%2=1:=O
     rw[l2]at f;have o2:=J l2;clear o c9 l2;obtain⟨wq,u1⟩:∃wq:World,wq=wr:=⟨_,Z⟩;subst u1
     go_wp2
     clear f q1
     go_loopw [6] (λy w'=>Ox w g b n (.slice (some ⟨bx,ox,none⟩) (aP n).length c1) y w') (λy w'=>rK y w')
     case atStart=>exact⟨b,u.out,g0.out,b0,Qi _,m2.out,e7.out⟩
     case round=>
      obtain⟨E,c4,D,L,g4,k6,b3⟩:=hrel;have f5:=J c4;have a0:=J D;have h0:=J k6;have f0:=J b3;have r7:=J D.num;have H:=b3.size;have u3:(aP E).length<=K:=vF g4 T.out;obtain⟨A2,c2,e2,b5⟩:=D.is;subst e2;obtain⟨u5,oy,dy,ey,q2,q4,k3,x0⟩:=mc b5 O;subst ey;have h6:=J b5;have f2:=J (show IsN wr (some ⟨bx,ox,none⟩) c1 (aP n) by
       obtain⟨A',c',e,hi⟩:=c4.is;injection e with e1 e2 e3
       subst e1 e3;exact hi)
      have a5:=oh dy k3;rw[q4]at a5;clear c4 D k6 b3 b5 q4;by_cases p:E%2=0
      ·rw[p]at a5;have W:=J p;clear p
       go_wp2_with fail
       refine(BU h6.out O).mono ?_;intro e w4 N;obtain⟨v4,rfl,d,c⟩:=N.num (w:=w) H;have v:=J d;have h7:=J d.num;have n2:=J (f5.out.below c);have m:=J (aZ f0.out c H);clear N d c a5 q2
       go_wp2
       go_roundw
       case rel=>exact⟨E/2,n2.out,v.out,by have:=W.out;omega,O,by rw[rM o2.out W.out];exact h0.out,m.out⟩
       case measure=>rw[h7.out,r7.out];omega
      have l3:E%2=1:=O
      rw[l3]at a5;have s4:=J l3;clear p l3
      go_wp2_with fail
      refine(Mu f2.out h6.out O O).mono ?_;rintro e w4 ⟨he,c⟩;have m:=J c;have e4:=c.size;have G:w.heap.size<=w4.heap.size:=Qu H e4;have t0:=J (f5.out.below c);have t1:=J (a0.out.below c);have f3:=J (f2.out.below c);have f4:=J (h6.out.below c);have f1:=J (aZ f0.out c H);clear c a5 q2;by_cases t4:E<n
      ·rw[n9 t4]at he;subst he
       go_wp2_with fail
       refine(Ot f3.out f4.out O O O).mono ?_;rintro e w5 ⟨v5,rfl,c5,j⟩;have l:NumIn w w5 v5 (n-E):=OwnN.base_le c5 G;have a2:=J l;have h8:=J l.num;have p0:=J (t1.out.below j);have s2:=J p0.out.num;have S:=J (aZ f1.out j G);clear c5 l j
       go_wp2
       go_roundw
       case rel=>exact⟨E,n-E,p0.out,a2.out,L,.inl s4.out,by rw[Tx O,TO,h0.out];exact HG.out,RA g4 T.out,RA O P.out,S.out⟩
       case measure=>rw[h8.out,s2.out,m4.out,n0.out];omega
      have q7:n<=E:=O
      have p9:iE (n:Int) (E:Int)<=0:=by
       rcases Rm n E with h|h
       ·rw[qx h];decide
       rw[mb O];decide
      obtain⟨cm,q0⟩:∃cm,iE (n:Int) (E:Int)=cm:=⟨_,Z⟩;rw[q0]at he p9;subst he;clear q0
      go_wp2_with fail
      refine(Ot f4.out f3.out O O q7).mono ?_;rintro e w5 ⟨v5,rfl,c5,j⟩;have l:NumIn w w5 v5 (E-n):=OwnN.base_le c5 G;have a2:=J l;have h8:=J l.num;have o3:=J (t0.out.below j);have s1:=J o3.out.num;have S:=J (aZ f1.out j G);clear c5 l j
      go_wp2
      go_roundw
      case rel=>exact⟨n,E-n,o3.out,a2.out,t3,.inl o2.out,by rw[Tx q7,h0.out];exact HG.out,RA g3 P.out,RA O T.out,S.out⟩
      case measure=>rw[h8.out,s1.out,m4.out,n0.out];omega
def Fw(W0:World)(ds:List Nat)(r i:Value)(wr:World):Prop:=
 ∃(k:Nat) (qs:List Nat),k<=ds.length/\i=.int .i64 ((k:Int)-1)/\qs.length+k=ds.length/\iF qs/\r=.int .u64 ((a8 (ds.drop k)%10:Nat):Int)/\a8 qs=a8 (ds.drop k)/10/\OwnN wr W0.heap.size (.slice (some ⟨W0.heap.size,0,none⟩) ds.length ds.length) (List.replicate k 0++qs)/\Below W0.heap.size W0 wr
def DV(k g:Nat)(qs:List Nat):(List.replicate (k+1) 0++qs).set k g=List.replicate k 0++g::qs:=by
 rw[List.replicate_succ',Q0,Sd _ _ F];simp
def Fx(ds:List Nat)(k:Nat)(h:k<ds.length):a8 (ds.drop k)=ds[k]+4294967296*a8 (ds.drop (k+1)):=by
 rw[Q3 h,a8]
def ul(n:Nat)(w:World)(e:Ending)(w':World):Prop:=∃v,e=.returned (.tuple #[v,.int .u64 ((n%10:Nat):Int)])/\OwnN w' w.heap.size v (aP (n/10))/\Below w.heap.size w w'
theorem DW (A : Option Addr) (c : Nat) (ds : List Nat) (w : World) (h : IsN w A c ds) (hl : ds.length ≤ 1048576) :
  Calls Tryz.prog 106 #[.slice A ds.length c, .int .u64 10] w (ul (a8 ds) w) := by
 have HI := Lib.hid h
 clear h
 obtain ⟨W, hmk, hoW, hbW, hzW⟩ := uk w ds.length (by omega)
 have hmk := hmk .i64 .i64
 have HOW := Lib.hid hoW
 have HBW := Lib.hid hbW
 clear hoW hbW hzW
 go_enter Tryz.func106, Tryz.ntmps106
 go_wp2
 clear hmk
 go_loopw [7, 8] (fun r i wr => Fw w ds r i wr) (fun _ i _ => (intOf i + 1).toNat)
 case atStart => exact ⟨ds.length, [], Nat.le_refl _, rfl, by simp, fun d hd => by simp at hd, by simp [a8], by simp [a8], by simpa using HOW.out, HBW.out⟩
 case round =>
  obtain ⟨k, qs, hk, rfl, hql, hqd, rfl, hqv, hown, hbw⟩ := hrel
  have HQD := Lib.hid hqd
  have HQV := Lib.hid hqv
  have HO := Lib.hid hown
  have HB := Lib.hid hbw
  have HQL := Lib.hid hql
  have hsr := hbw.size
  clear hqd hqv hown hbw hql
  cases k with
  | zero =>
   rw [List.drop_zero] at *
   have hown : OwnN wr w.heap.size (.slice (some ⟨w.heap.size, 0, none⟩) ds.length ds.length) qs := by have := HO.out; simpa using this
   have hix : IsN wr (some ⟨w.heap.size, 0, none⟩) ds.length qs := by
    obtain ⟨A', c', e, hi⟩ := hown.is HQD.out
    injection e with e1 e2 e3
    subst e1 e3
    exact hi
   have hnm := dR (some ⟨w.heap.size, 0, none⟩) ds.length qs wr hix (by have := HQL.out; omega)
   rw [show qs.length = ds.length by have := HQL.out; omega, HQV.out] at hnm
   have HNM := Lib.hid hnm
   obtain ⟨m, hm⟩ : ∃ m, a8 ds % 10 = m := ⟨_, rfl⟩
   rw [hm]
   have HM := Lib.hid hm
   clear hown hix hnm hm
   go_wp2_with fail
   refine HNM.out.mono ?_
   rintro e w5 ⟨v5, rfl, ho5, hb5⟩
   have HO5 := Lib.hid (ho5.base_le hsr)
   have HB5 := Lib.hid (aZ HB.out hb5 hsr)
   clear ho5 hb5
   go_wp2
   go_ret2
   exact ⟨v5, by rw [HM.out]; rfl, HO5.out, HB5.out⟩
  | succ k =>
   rw [show ((k + 1 : Nat) : Int) - 1 = (k : Int) by omega]
   have hlt : k < ds.length := by omega
   obtain ⟨b, off, rfl, hb, hc⟩ := HI.out.digit hlt
   obtain ⟨d, hd⟩ : ∃ d, ds[k] = d := ⟨_, rfl⟩
   have hce := (HB.out.cell (p := ⟨b, off + k, none⟩) hb).trans (hc k hlt)
   rw [hd] at hce
   have hd32 : d < 4294967296 := by rw [← hd]; exact HI.out.ok _ (List.getElem_mem hlt)
   have HDV := Lib.hid (show a8 (ds.drop k) = d + 4294967296 * a8 (ds.drop (k + 1)) by rw [Fx ds k hlt, hd])
   obtain ⟨r, hr⟩ : ∃ r, a8 (ds.drop (k + 1)) % 10 = r := ⟨_, rfl⟩
   have hr10 : r < 10 := by omega
   rw [hr]
   have HR := Lib.hid hr
   have hfr := HO.out.free k
   have hcz := HO.out.cell (i := k) (by simp; omega)
   clear hc hd hr
   go_wp2
   go_roundw
   case rel =>
    have e1 := HDV.out
    have e2 := HQV.out
    have e3 := HR.out
    refine ⟨k, (r * 4294967296 + d) / 10 :: qs, by omega, rfl, by have := HQL.out; simp; omega, fun x hx => ?_, ?_, ?_, ?_, HB.out.setCell (p := ⟨w.heap.size, k, none⟩) (Nat.le_refl _) _⟩
    ·rcases List.mem_cons.1 hx with rfl | hx
     ·omega
     ·exact HQD.out x hx
    ·congr 1; omega
    ·rw [a8, e2]; omega
    ·have hrl : (List.replicate (k + 1) (0 : Nat) ++ qs).length = ds.length := by have := HQL.out; simp; omega
     have h1 : OwnN wr w.heap.size (.slice (some ⟨w.heap.size, 0, none⟩) (List.replicate (k + 1) 0 ++ qs).length ds.length) (List.replicate (k + 1) 0 ++ qs) := by
      rw [hrl]; exact HO.out
     have h2 := h1.set (i := k) ((r * 4294967296 + d) / 10)
     rw [List.length_set, DV, hrl] at h2
     have e : (((r * 4294967296 + d) / 10 : Nat) : Int) = ((r : Int) * 4294967296 + (d : Int)) / 10 := by omega
     rw [e] at h2
     exact h2
   case measure => simp [intOf]
def Mv{a:World}{A:Option Addr}{c n:Nat}(h:IsN a A c (aP n))(hl:(aP n).length<=1048576):Calls prog 106 #[.slice A (aP n).length c,.int .u64 10] a (ul n a):=by
 have:=DW A c (aP n) a h hl;rwa[bS]at this
def Jt(m:Nat)(t:List UInt8):List UInt8:=if m=0 then t else Lib.decDigits m++t
def Fy{m:Nat}(h:m≠0)(t:List UInt8):Jt m t=Jt (m/10) (UInt8.ofNat (48+m%10)::t):=by
 unfold Jt;rw[if_neg h];rw[Lib.decDigits];by_cases a:m<10
 ·rw[dif_pos a,if_pos O,RC a];rfl
 rw[dif_neg a,if_neg O];simp
def Mw(w:World)(D:List UInt8)(x s:Value)(wr:World):Prop:=∃(m:Nat) (t:List UInt8),NumIn w wr x m/\s=.string ⟨t.toArray⟩/\Jt m t=D/\(aP m).length<=1048576/\t.length<=D.length/\Below w.heap.size w wr
def Ju(m:Nat)(t:List UInt8):t.length<=(Jt m t).length:=by
 unfold Jt;split
 ·exact Qi _
 simp
def md(l:List UInt8)(w:World)(e:Ending)(w':World):Prop:=e=.returned (.string ⟨l.toArray⟩)/\Below w.heap.size w w'
def zP(A:Option Addr)(c:Nat)(ds:List Nat)(w:World)(h:IsN w A c ds)(hl:ds.length<=1048576)(V:(Lib.decDigits (a8 ds)).length<=1073741824):
  Calls prog 67 #[.slice A ds.length c] w (md (Lib.decDigits (a8 ds)) w):=by
 have U:=J h;clear h;obtain⟨N,K⟩:∃N,a8 ds=N:=⟨_,Z⟩;have HN:=J K;rw[K]at V⊢;have a2:(aP N).length<=ds.length:=by rw[<-K];exact bP (eP ds U.out.ok)
 clear K
 go_enter func67,ntmps67
 go_wp2_with fail
 refine(dR A c ds _ U.out O).mono ?_;intro e w1 f;rw[HN.out]at f;obtain⟨v1,rfl,E,k⟩:=f.num (Qi _);have u:=J E;have p:=J k;have a5:=k.size;clear f E k;obtain⟨A1,c1,e1,_⟩:=u.out.is;subst e1;by_cases a:N=0
 ·have g1:(((aP N).length:Int)==0)=true:=by rw[beq_iff_eq];have:=dK.2 a;omega
  have b:=J (show Lib.decDigits N=[48] by rw[a,Lib.decDigits];rfl);clear a
  go_wp2
  go_ret
  exact⟨by rw[b.out];rfl,p.out⟩
 have g1:(((aP N).length:Int)==0)=false:=by rw[beq_eq_false_iff_ne];intro h;exact a (dK.1 O)
 have b:=J (show Jt N []=Lib.decDigits N by rw[Jt,if_neg a,Rn]);clear a;obtain⟨D,j⟩:∃D,Lib.decDigits N=D:=⟨_,Z⟩;rw[j]at b V;have M:=J j;clear j
 go_wp2
 go_loopw [3,4] (λx s T=>Mw w D x s T) (λx _ T=>rK x T)
 case atStart=>exact⟨N,[],u.out,Z,b.out,O,F,p.out⟩
 case round=>
  obtain⟨m,t,d,rfl,z,C,a3,n⟩:=hrel;have a0:=J d;have Y:=J d.num;have g:=J z;have r:=J n;have o:=n.size;obtain⟨Am,cm,em,B⟩:=d.is;subst em;have P:=J B;clear d z n B;by_cases a:m=0
  ·have g2:decide (0<((aP m).length:Int))=false:=by rw[decide_eq_false_iff_not];have:=dK.2 a;omega
   have g3:decide (0<(aP m).length)=false:=by rw[decide_eq_false_iff_not];have:=dK.2 a;omega
   have g4:((aP m).length:Int)<=0:=by have:=dK.2 a;omega
   have HT:=J (show t=D by have:=g.out;rwa[Jt,if_pos a]at this);clear a
   go_wp2
   go_ret
   exact⟨by rw[M.out,<-HT.out];rfl,r.out⟩
  have a4:0<(aP m).length:=by
   rcases RW (aP m).length with h|h
   ·exact absurd (dK.1 h) a
   exact h
  have i:=J (Fy a t);have y:m%10<10:=R9 _ I;have Q:=J a;clear a
  go_wp2_with fail
  refine(Mv P.out C).mono ?_;rintro e S ⟨v4,W,H,l⟩;have G:NumIn w S v4 (m/10):=OwnN.base_le H o;have v:=J G;have L:=J (aZ r.out l o);have R:w.heap.size<=S.heap.size:=Qu o l.size;obtain⟨q,X⟩:∃q,m%10=q:=⟨_,Z⟩;rw[X]at W y i;subst W;clear H G l X;have a1:=EW (48+(q:Int)) (UInt8.ofNat (48+q)) (by rw[ii q y];omega) S
  go_wp2
  go_roundw
  case rel=>
   refine⟨m/10,UInt8.ofNat (48+q)::t,v.out.below ((Below.refl _ _).alloc (Qi _) _),?_,by rw[<-i.out];exact g.out,Qu (dp (Su _ _)) C,?_,L.out.alloc R _⟩
   ·have:=iY [UInt8.ofNat (48+q)] t;simpa using this
   have f:=Ju (m/10) (UInt8.ofNat (48+q)::t);rw[<-i.out,g.out]at f;exact f
  case measure=>
   have f:=(v.out.below ((Below.refl _ _).alloc (Qi _) (.cells #[.int .u8 (48+(q:Int))] 5))).num;rw[f,Y.out];have:=Q.out;omega
