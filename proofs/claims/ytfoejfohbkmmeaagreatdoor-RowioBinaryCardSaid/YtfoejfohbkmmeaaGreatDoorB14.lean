import Derived.Test.YtfoejfohbkmmeaaGreatDoorB13
import Derived.Laws.OwnMore
import Derived.Test.YtfoejfohbkmmeaaGreatDoorB00
import Derived.Test.YtfoejfohbkmmeaaGreatDoorB09
import Derived.Test.YtfoejfohbkmmeaaGreatDoorB03
set_option maxRecDepth 100000
set_option maxHeartbeats 4000000
namespace Go.Proofs.YtfoejfohbkmmeaaGreatDoor
open Go.RowKit
open Lib renaming hid→J
theorem qO(j s:Nat):(2:Nat)^(32*j+s)=4294967296^j*2^s:=by
 rw[PN,QG]
theorem JX(a s:Nat)(b:s<32):a%4294967296/2^s%2=a/2^s%2:=by
 have h:(4294967296:Nat)=2^s*2^(32-s):=by rw[<-PN,show s+(32-s)=32 by omega]
 rw[h,Nat.mod_mul_right_div_self,SI];exact⟨2^(32-s-1),by rw[<-Nat.pow_succ',show(32-s-1).succ=32-s by omega]⟩
theorem qP:∀(l:List Nat) (j:Nat),Digs l->l.getD j 0=aE l/4294967296^j%4294967296
 |[],j,_=>by simp[aE]
 |d::l,0,h=>by
  have:=h d (OR ..);simp only[List.getD_cons_zero,aE,QO,Rp];omega
 |d::l,j+1,h=>by
  have c:=h d (OR ..);have a:=qP l j (fun x b=>h x (OX _ b));simp only[SF,aE,a];rw[OO,OF (4294967296^j),<-PR,show(d+4294967296*aE l)/4294967296=aE l by omega]
theorem EB{l:List Nat}{j s d:Nat}(h:Digs l)(e:j<l.length)(c:l[j]=d)(b:s<32):d/2^s%2=aE l/2^(32*j+s)%2:=by
 have a:=qP l j h;rw[OE,Og e,OW,c]at a;rw[a,JX _ _ b,PR,<-qO]
theorem JY(l:List Nat)(j d e:Nat)(a:j<l.length)(f:l[j]=d):aE (l.set j (d+e))=aE l+4294967296^j*e:=by
 have b:=ma l j a;have g:=ma (l.set j (d+e)) j (by simpa using a);rw[g,b,f];have h:(l.set j (d+e)).take j=l.take j:=by rw[RW,List.set_eq_of_length_le];rw[Ox];omega
 have c:(l.set j (d+e)).drop (j+1)=l.drop (j+1):=by rw[SE (by omega)]
 rw[h,c,List.getElem_set_self,SJ,OU];omega
theorem tv{l:List Nat}{j s d m:Nat}(h:Digs l)(e:j<l.length)(c:l[j]=d)(i:s<32)(f:aE l=m*2^(32*j+s+1)):d%2^(s+1)=0:=by
 have a:=qP l j h;rw[OE,Og e,OW,c]at a;have g:aE l=4294967296^j*(m*2^(s+1)):=by rw[f,P9,qO,<-OL,OF m,OL]
 rw[g,Q3 _ (Pw (by decide))]at a;rw[a];have b:(4294967296:Nat)=2^(s+1)*2^(31-s):=by rw[<-PN,show s+1+(31-s)=32 by omega]
 rw[SI _ ⟨2^(31-s),b⟩,Nat.mul_mod_left]
theorem LT(d s:Nat)(c:d<4294967296)(e:s<32)(h:d%2^(s+1)=0):bits .or .u32 (d:Int) ((2^s:Nat):Int)=((d+2^s:Nat):Int):=by
 have f:2^s<2^32:=Qt (by decide) e;rw[u32_or_nat d (2^s) c (by simpa using f)];have a:d|||2^s=d+2^s:=by
  have:=PU (i:=s+1) (b:=2^s) (Qt (by decide) (by omega)) (d/2^(s+1));rw[Qp,Rs (Sl h)]at this;exact this.symm
 rw[a]
theorem pp(d:Nat)(a:d<4294967296):bits .and .u32 (d:Int) 1=((d%2:Nat):Int):=by
 have:=u32_and_nat d 1 a (by decide);rw[show((1:Nat):Int)=1 from rfl]at this;rw[this,SK]
theorem JZ{P Y b:Nat}(a:0<Y)(d:b<=1):(Y<=2*(P%Y)+b->(2*P+b)/Y=2*(P/Y)+1/\(2*P+b)%Y=2*(P%Y)+b-Y)/\(2*(P%Y)+b<Y->(2*P+b)/Y=2*(P/Y)/\(2*P+b)%Y=2*(P%Y)+b):=by
 have c:=Qv P Y;have g:=Pe P a;generalize P/Y=q at*;generalize P%Y=r at*;subst c;have f:2*(Y*q)=Y*(2*q):=by rw[<-OL,OF 2 Y,OL]
 constructor
 ·intro h;have e:2*(Y*q+r)+b=(2*r+b-Y)+Y*(2*q+1):=by rw[OU Y,OU 2];omega
  rw[e,QX _ _ a,QY,Qg (by omega),OY (by omega)];omega
 intro h;have e:2*(Y*q+r)+b=(2*r+b)+Y*(2*q):=by rw[OU 2];omega
 rw[e,QX _ _ a,QY,Qg h,OY h];omega
theorem J0(X m:Nat):X/2^m=2*(X/2^(m+1))+X/2^m%2:=by
 rw[OO,<-PR];omega
theorem BM(n:Nat):(madeCells (Value.int .u32 0).cells (n*1)).toList=cG (List.replicate n 0):=by
 apply Rl
 ·simp[madeCells,cG]
 intro j b a;simp[madeCells,cG,Value.cells,Sm]
theorem fd(w:World)(n:Nat)(k:n<=1073741824):∃w',(∀a b,(Instr.makeSlice 63 (.int a (n:Int)) (.int b (n:Int))).run Tryz.prog w=.ok (.slice (some ⟨w.heap.size,0,none⟩) n n) w')/\
  OwnN w' w.heap.size (.slice (some ⟨w.heap.size,0,none⟩) n n) (List.replicate n 0)/\Below w.heap.size w w'/\w'.heap.size=w.heap.size+1:=by
 obtain⟨j,g,c,f,d⟩:=info_parts tm;have i:∀a b,(Instr.makeSlice 63 (.int a (n:Int)) (.int b (n:Int))).run Tryz.prog w=.ok (.slice (some ⟨w.heap.size,0,none⟩) n n) (w.alloc (.cells (madeCells (Value.int .u32 0).cells (n*j.size)) 50)):=fun a b=>by
  have:=run_make (P:=Tryz.prog) w 63 50 j (.int .u32 0) Tryz.underlying63 g c a b n n (by omega) (Int.le_refl _) (by rw[d];omega) (by omega);simpa using this
 rw[f]at i;refine⟨_,i,?_,(Below.refl _ _).alloc (Oh _) _,by simp⟩;have h:=World.ownsRow_lit (base:=w.heap.size) (e:=50) (size:=1) w (madeCells (Value.int .u32 0).cells (n*1)) n (Oh _) (by simp only[maxLen];omega) (size_madeCells _ _);rw[BM]at h;unfold OwnN;rw[QE];exact h
theorem kL(n:Nat):aE (List.replicate n 0)=0:=oC _ (fun _ a=>(Rr.1 a).2)
theorem jX(n:Nat):Digs (List.replicate n 0):=fun _ a=>by rw[(Rr.1 a).2];decide
def DivInv(w2:World)(X Y n:Nat)(r i:Value)(wr:World):Prop:=
 ∃(k:Nat) (qd:List Nat),k<=32*n/\i=.int .i64 ((k:Int)-1)/\qd.length=n/\Digs qd/\OwnN wr w2.heap.size (.slice (some ⟨w2.heap.size,0,none⟩) n n) qd/\aE qd=X/2^k/Y*2^k/\OwnN wr (w2.heap.size+1) r (az (X/2^k%Y))/\Below w2.heap.size w2 wr/\w2.heap.size+1<=wr.heap.size
theorem xK{a W:World}{X Y n:Nat}{i:Int}(f:X<4294967296^n)(d:OwnN W a.heap.size (.slice (some ⟨a.heap.size,0,none⟩) n n) (List.replicate n 0))(e:Below a.heap.size a W)(g:W.heap.size=a.heap.size+1)(c:i=32*(n:Int)-1):DivInv a X Y n (.slice none 0 0) (.int .i64 i) W:=by
 have b:X/2^(32*n)=0:=Qg (by rw[QG];exact f);subst c;refine⟨32*n,List.replicate n 0,Oh _,by rw[show((32*n:Nat):Int)-1=32*(n:Int)-1 by omega],QE,jX n,d,by rw[kL,b];simp,?_,e,by omega⟩;rw[b];simp;exact OwnN.nil _ _
theorem LU{d s:Nat}(c:d<4294967296)(e:s<32)(h:d%2^(s+1)=0):d+2^s<4294967296:=by
 have a:d|||2^s=d+2^s:=by
  have:=PU (i:=s+1) (b:=2^s) (Qt (by decide) (by omega)) (d/2^(s+1));rw[Qp,Rs (Sl h)]at this;exact this.symm
 rw[<-a];exact SR (n:=32) c (Qt (by decide) e)
theorem nD{w:World}{base e size n g:Nat}{v:Value}{xs:List Value}(h:w.ownsRow base e size v n xs)(a:g<base):v.ownBlock≠some g:=fun e=>by have:=(h.lt g e).1;omega
theorem DivInv.set{a c:World}{X Y n m j s q0 E:Nat}{b:List Nat}{C:Value}{z i:Int}(J:m<=32*n)(e:b.length=n)(g:Digs b)(v:OwnN c a.heap.size (.slice (some ⟨a.heap.size,0,none⟩) n n) b)(q:aE b=X/2^(m+1)/Y*2^(m+1))(o:32*j+s=m)(F:s<32)(A:j<b.length)(f:b[j]=q0)
  (y:OwnN c E C (az (X/2^m%Y))) (t:a.heap.size+1<=E) (x:X/2^m/Y=2*(X/2^(m+1)/Y)+1) (w:Below a.heap.size a c) (u:a.heap.size+1<=c.heap.size) (K:z=((q0+2^s:Nat):Int)) (G:i=(m:Int)-1):
  DivInv a X Y n C (.int .i64 i) (c.setCell ⟨a.heap.size,j,none⟩ (.int .u32 z)):=by
 subst K G;have B:q0%2^(s+1)=0:=tv g A f F (m:=X/2^(m+1)/Y) (by rw[q,o]);have l:q0<4294967296:=by rw[<-f];exact g _ (Pm A)
 refine⟨m,b.set j (q0+2^s),J,Z,by rw[O4,e],fun d I=>?_,?_,?_,?_,w.setCell (p:=⟨a.heap.size,j,none⟩) (Oh _) _,by simpa[World.setCell]using u⟩
 ·rcases QW I with h|h
  ·exact g d h
  rw[h];exact LU l F B
 ·have r:OwnN c a.heap.size (.slice (some ⟨a.heap.size,0,none⟩) b.length n) b:=by rw[e];exact v
  have D:=r.set (i:=j) (q0+2^s);rw[O4,e]at D;exact D
 ·rw[JY b j q0 (2^s) A f,q,x,Pf,<-qO,o,OO,QF];congr 1;rw[OF (2^m) 2,<-OL,OF _ 2]
 have r:OwnN c (a.heap.size+1) C (az (X/2^m%Y)):=y.base_le t;exact fI r (nD r (Rm _)) (fun k H=>Below.heap_setCell _ _ _ _ H)
def Dz(X Y:Nat)(w:World)(e:Ending)(w':World):Prop:=∃q r,e=.returned (.tuple #[q,r,.bool true])/\OwnN w' w.heap.size q (az (X/Y))/\OwnN w' w.heap.size r (az (X%Y))/\Below w.heap.size w w'
theorem BN(A B:Option Addr)(ca cb:Nat)(x y:List Nat)(w:World)(hA:IsN w A ca x)(hB:IsN w B cb y)(t5:x.length<=1048576)(s4:y.length<=1048576)(hy:0<aE y):
  Calls Tryz.prog 175 #[.slice A x.length ca,.slice B y.length cb] w (Dz (aE x) (aE y) w):=by
 have HA:=J hA;have HB:=J hB;clear hA hB;have p3:(az (aE x)).length<=x.length:=bk (cf x HA.out.ok);have q7:(az (aE y)).length<=y.length:=bk (cf y HB.out.ok);have m2:0<(az (aE y)).length:=by
  rcases Pg (az (aE y)).length with h|h
  ·have:=b6.1 h;omega
  exact h
 go_enter Tryz.func175,Tryz.ntmps175
 go_wp2_with fail
 refine(ep A ca x _ HA.out (by omega)).mono ?_;intro e w1 h1;obtain⟨A1,c1,rfl,g0,f3⟩:=h1.open_;have h5:=J g0;have h0:=J f3;have h9:=f3.size;clear h1 g0 f3
 go_wp2_with fail
 refine(ep B cb y _ (HB.out.below h0.out) (by omega)).mono ?_;intro e w2 h2;obtain⟨A2,c2,rfl,l7,T⟩:=h2.open_;have e9:=J l7;have t:=J (h5.out.below T);have q2:=J (aF h0.out T h9);have r2:w.heap.size<=w2.heap.size:=Oq h9 T.size;clear h2 l7 T h5;have a1:=J (aS (aE x));have l:=J (aS (aE y));obtain⟨F,b1⟩:∃F,az (aE x)=F:=⟨_,rfl⟩;obtain⟨O,L⟩:∃O,az (aE y)=O:=⟨_,rfl⟩;have E:=J L;rw[b1]at t p3 a1⊢;rw[L]at e9 q7 m2 l⊢;clear b1 L;obtain⟨X,hX⟩:∃X,aE x=X:=⟨_,rfl⟩;obtain⟨Y,hY⟩:∃Y,aE y=Y:=⟨_,rfl⟩;rw[hX]at a1;rw[hY]at l hy E;have l2:=J hX;have h7:=J hY;clear hX hY;have b3:X<4294967296^F.length:=by rw[<-a1.out];exact cf F t.out.ok
 have q8:=J b3;clear b3;have g1:((O.length:Int)==0)=false:=by rw[beq_eq_false_iff_ne];omega
 obtain⟨W,e7,h8,m1,m4⟩:=fd w2 F.length (by omega);have e7:=e7 .i64 .i64;have n1:=J h8;have s1:=J m1;have p2:=J m4;clear h8 m1 m4
 go_wp2
 clear e7
 go_loopw [10,11] (fun r i wr=>DivInv w2 X Y F.length r i wr) (fun _ i _=>(intOf i+1).toNat)
 case atStart=>exact xK q8.out n1.out s1.out p2.out (by omega)
 case round=>
  obtain⟨k,qd,hk,rfl,i0,n0,f9,i4,o,g2,t4⟩:=hrel;have N:=J i0;have z:=J n0;have l9:=J f9;have a2:=J i4;have a3:=J o;have e6:=J g2;clear i0 n0 f9 i4 o g2;cases k with
  |zero=>
   have g3:aE qd=X/Y:=by have:=a2.out;simpa using this
   have o:=a3.out;rw[QO,Rp]at o;obtain⟨Ar,cr,er,G⟩:=o.is (cE (X%Y));subst er;have u:=J G;have K:=J (aS (X%Y));have p1:(az (X%Y)).length<=O.length:=by rw[<-E.out];exact bi (SL (Pe _ hy))
   have h3:IsN wr (some ⟨w2.heap.size,0,none⟩) F.length qd:=by
    have h1:=l9.out;obtain⟨A',c',e,hi⟩:=h1.is z.out;injection e with e1 e2 e3
    subst e1 e3;exact hi
   have q1:=J h3;have q9:=J g3;obtain⟨dr,f7⟩:∃dr,az (X%Y)=dr:=⟨_,rfl⟩;rw[f7]at u K p1⊢;have s5:=J f7;have f:w.heap.size<=wr.heap.size:=by omega
   have l0:=J (q2.out.trans (e6.out.mono r2));clear o G h3 g3 f7;have b5:=ep (some ⟨w2.heap.size,0,none⟩) F.length qd wr q1.out (by have:=N.out;omega);rw[N.out,q9.out]at b5;have q5:=J b5;clear b5
   go_wp2_with fail
   refine q5.out.mono ?_;rintro e w4 ⟨v4,rfl,M,c⟩;have n:=J M;have f2:=J c;have g4:=c.size;clear M c;have e8:=ep Ar cr dr w4 (u.out.below f2.out) (by omega);rw[K.out]at e8;have o1:=J e8;clear e8
   go_wp2_with fail
   refine o1.out.mono ?_;rintro e w5 ⟨v5,rfl,l1,a⟩;have d1:=J l1;have a0:=J (n.out.below a);have V:=J (aF (aF l0.out f2.out f) a (Oq f g4));clear l1 a
   go_wp2
   go_ret3
   exact⟨v4,v5,Z,by rw[l2.out,h7.out];exact a0.out.base_le f,by rw[l2.out,h7.out];exact d1.out.base_le (by omega),V.out⟩
  |succ m=>
   rw[show((m+1:Nat):Int)-1=(m:Int) by omega];have hj:m/32<F.length:=by omega
   obtain⟨j,l3⟩:∃j,m/32=j:=⟨_,rfl⟩;obtain⟨s,p0⟩:∃s,m%32=s:=⟨_,rfl⟩;have g:s<32:=by omega
   have c9:32*j+s=m:=by omega
   rw[l3]at hj;have i1:(m:Int)/32=(j:Int):=by omega
   have i2:(m:Int)%32=(s:Int):=by omega
   obtain⟨b,off,rfl,hb,hc⟩:=(t.out.below e6.out).digit hj;obtain⟨d,hd⟩:∃d,F[j]=d:=⟨_,rfl⟩;have f6:=hc j hj;rw[hd]at f6;have h6:d<4294967296:=by rw[<-hd];exact t.out.ok _ (Pm hj)
   have a4:=J (EB t.out.ok hj hd g);rw[a1.out,c9]at a4;have r0:d/2^s<4294967296:=PP (Ql _ _) h6;have I:=pp (d/2^s) r0;rw[Sb,show((2^s:Nat):Int)=(2:Int)^s by simp,a4.out]at I;have a5:=J I;have D:X/2^m%2<=1:=by omega
   obtain⟨bit,f1⟩:∃bit,X/2^m%2=bit:=⟨_,rfl⟩;rw[f1]at a5 D;have r4:=J f1;clear I f1;have m3:=J c9;clear hd hc l3 p0 c9;have k1:(j:Int)<(F.length:Int):=by omega
   have k2:(0:Int)<=(j:Int):=by omega
   have k3:(0:Int)<=(s:Int):=by omega
   have k4:(s:Int)<32:=by omega
   obtain⟨R,hR⟩:∃R,X/2^(m+1)%Y=R:=⟨_,rfl⟩;have t3:R<Y:=by rw[<-hR];exact Pe _ hy
   have HR:=J hR;rw[hR]at a3;clear hR;have FQ:(az R).length<=O.length:=by rw[<-E.out];exact bi (by omega)
   obtain⟨Ar,cr,er,G⟩:=a3.out.is (cE R);subst er;have u:=J G;have K:=J (aS R);clear G;obtain⟨dr,a9⟩:∃dr,az R=dr:=⟨_,rfl⟩;rw[a9]at u K FQ a3⊢;clear a9;have f:w2.heap.size<=wr.heap.size:=by omega
   go_wp2_with fail
   rw[a5.out];have d2:=tu Ar cr dr bit wr u.out (by omega) D;rw[K.out]at d2;refine d2.mono ?_;intro e w4 h4;obtain⟨v4,rfl,M,c⟩:=h4;have n:=J M;have f2:=J c;have g4:=c.size;have r3:=J (l9.out.below c);have b2:=J (aF e6.out c f);clear d2 M c;obtain⟨q,c5⟩:∃q,2*R+bit=q:=⟨_,rfl⟩;have s2:q<2*Y:=by omega
   rw[c5]at n;have r1:=J c5;clear c5;have i5:(az q).length<=O.length+1:=bk (by
    have h1:=cf O e9.out.ok;rw[l.out]at h1;rw[OO];omega)
   obtain⟨A4,c4,e4,l8⟩:=n.out.is (cE q);subst e4;have c3:=J l8;have S:=J (aS q);clear l8;obtain⟨d4,e0⟩:∃d4,az q=d4:=⟨_,rfl⟩;have f8:=J e0;rw[e0]at c3 S i5 n⊢;clear e0;have l4:w2.heap.size<=w4.heap.size:=by omega
   have i3:=J (e9.out.below b2.out)
   go_wp2_with fail
   have p:=sg A4 A2 c4 c2 d4 O w4 c3.out i3.out (by omega) (by omega);rw[S.out,l.out]at p;refine p.mono ?_;rintro e w5 ⟨he,a⟩;have V:=J a;have t0:=a.size;have a0:=J (r3.out.below a);have d1:=J (n.out.below a);have b0:=J (aF b2.out a l4);clear p a;have b4:=JZ (P:=X/2^(m+1)) (Y:=Y) (b:=bit) hy D;have f0:=J0 X m;rw[r4.out]at f0;rw[<-f0,HR.out,r1.out]at b4;have i9:=J b4;clear b4 f0;by_cases l6:Y<=q
   ·obtain⟨v,H⟩:=i9.out.1 l6;have e5:=J v;have c0:=J H;clear v H;have o3:0<=fz (q:Int) (Y:Int):=by
     rcases OS Y q with h|h
     ·rw[jv h];decide
     rw[mb (by omega)];decide
    obtain⟨cm,p⟩:∃cm,fz (q:Int) (Y:Int)=cm:=⟨_,rfl⟩;rw[p]at he o3;subst he;clear p
    go_wp2_with fail
    have d3:=xJ A4 A2 c4 c2 d4 O w5 (c3.out.below V.out) (i3.out.below V.out) (by omega) (by omega) (by rw[S.out,l.out];exact l6);rw[S.out,l.out]at d3;refine d3.mono ?_;rintro e w6 ⟨v6,rfl,k0,U⟩;have n2:=J k0;have t1:=U.size;have d0:=J (a0.out.below U);have k5:=J (aF b0.out U (by omega));clear d3 k0 U;have Q:j<qd.length:=by have:=N.out;omega
    obtain⟨q0,C⟩:∃q0,qd[j]=q0:=⟨_,rfl⟩;have l5:q0<4294967296:=by rw[<-C];exact z.out _ (Pm Q)
    have q6:=d0.out.cell Q;rw[C]at q6;have t2:=d0.out.free j;have q4:q0%2^(s+1)=0:=tv z.out Q C g (m:=X/2^(m+1)/Y) (by rw[a2.out,m3.out]);have p4:=J (LT q0 s l5 g q4);have o2:=J C;have s3:2^s<4294967296:=by
     have:2^s<2^32:=Qt (by decide) g;simpa using this
    clear C f6;have q3:=J (show(2:Int)^s%4294967296=((2^s:Nat):Int) by
     have e:((2^s:Nat):Int)=(2:Int)^s:=by simp
     rw[<-e];omega)
    go_wp2
    go_roundw
    case rel=>exact DivInv.set (q0:=q0) (by omega) N.out z.out d0.out a2.out m3.out g Q o2.out (by rw[c0.out];exact n2.out) (by omega) e5.out k5.out (by omega) (by rw[q3.out,p4.out]) Z
    case measure=>simp[intOf]
   obtain⟨v,H⟩:=i9.out.2 (by omega);have e5:=J v;have c0:=J H;clear v H;rw[ku (show q<Y by omega)]at he;subst he;clear f6
   go_wp2
   go_roundw
   case rel=>
    refine⟨m,qd,by omega,Z,N.out,z.out,a0.out,?_,?_,b0.out,by omega⟩
    ·rw[a2.out,e5.out,OO,OF (2^m) 2,<-OL,OF _ 2]
    rw[c0.out];have:=d1.out;rw[<-f8.out]at this;rw[<-f8.out];exact this.base_le (by omega)
   case measure=>simp[intOf]
def rx(v:Value)(w:World):Nat:=
 match v with
 | .slice (some a) n _=>aE ((List.range n).map fun i=>match w.cell? ⟨a.block,a.off+i,none⟩with
  |some (.int _ d)=>d.toNat
  |_=>0)
 |_=>0
theorem OwnN.num{w:World}{base:Nat}{v:Value}{l:List Nat}(h:OwnN w base v l):rx v w=aE l:=by
 rcases h.2 with⟨rfl,c⟩|⟨g,e,cur,rfl,k⟩
 ·have:l=[]:=OB c;subst this;rfl
 show aE ((List.range l.length).map fun i=>match w.cell? ⟨g,0+i,none⟩with
  |some (.int _ d)=>d.toNat
  |_=>0)=aE l
 congr 1;apply Rl
 ·simp
 intro j f b;have a:=h.cell b;simp[a]
theorem oe{a b:Nat}(e:a%2=0)(d:b%2=1):Nat.gcd (a/2) b=Nat.gcd a b:=by
 have c:Nat.Coprime 2 b:=by
  unfold Nat.Coprime;rw[Sn,d];decide
 have:=c.gcd_mul_left_cancel (a/2);rw[show 2*(a/2)=a by omega]at this;exact this.symm
theorem tw{a b:Nat}(c:a%2=1)(d:b%2=0):Nat.gcd a (b/2)=Nat.gcd a b:=by
 rw[QH,oe d c,QH]
theorem EC{n:Nat}(h:n≠0):∃a:0<(az n).length,(az n)[0]%2=n%2:=by
 have e:=eO h;refine⟨by rw[e];simp,?_⟩;have:(az n)[0]'(by rw[e];simp)=n%4294967296:=by
  rw[List.getElem_of_eq e];rfl
 rw[this];omega
def NumIn(w wr:World)(v:Value)(n:Nat):Prop:=OwnN wr w.heap.size v (az n)
theorem NumIn.below{w wr w':World}{v:Value}{n:Nat}(h:NumIn w wr v n)(a:Below wr.heap.size wr w'):NumIn w w' v n:=OwnN.below h a
theorem NumIn.is{w wr:World}{v:Value}{n:Nat}(h:NumIn w wr v n):∃A c,v=.slice A (az n).length c/\IsN wr A c (az n):=OwnN.is h (cE n)
theorem NumIn.num{w wr:World}{v:Value}{n:Nat}(h:NumIn w wr v n):rx v wr=n:=(OwnN.num h).trans (aS n)
theorem nE{wr:World}{A:Option Addr}{c n:Nat}(h:IsN wr A c (az n))(f:n≠0):∃b off d,A=some ⟨b,off,none⟩/\wr.cell? ⟨b,off,none⟩=some (.int .u32 (d:Nat))/\d%2=n%2/\d<4294967296/\0<(az n).length:=by
 obtain⟨a,i⟩:=EC f;obtain⟨b,off,e,_,g⟩:=h.digit a;exact⟨b,off,(az n)[0],e,g 0 a,i,h.ok _ (Pm a),a⟩
theorem DA{wr:World}{A:Option Addr}{c n:Nat}(h:IsN wr A c (az n))(a:(az n).length<=1073741822):Calls Tryz.prog 225 #[.slice A (az n).length c] wr (NatPost (n/2) wr):=by
 have:=GS A c (az n) wr h a;rwa[aS]at this
theorem J1{wr:World}{A:Option Addr}{c n bit:Nat}(h:IsN wr A c (az n))(a:(az n).length<=1073741822)(b:bit<=1):Calls Tryz.prog 226 #[.slice A (az n).length c,.int .u32 bit] wr (NatPost (2*n+bit) wr):=by
 have:=tu A c (az n) bit wr h a b;rwa[aS]at this
theorem NV{wr:World}{A B:Option Addr}{c d m n:Nat}(h:IsN wr A c (az m))(b:IsN wr B d (az n))(e:(az m).length<=1073741822)(a:(az n).length<=1073741822):Calls Tryz.prog 101 #[.slice A (az m).length c,.slice B (az n).length d] wr (Dx m n wr):=by
 have:=sg A B c d (az m) (az n) wr h b (by omega) (by omega);rwa[aS,aS]at this
theorem MS{wr:World}{A B:Option Addr}{c d m n:Nat}(h:IsN wr A c (az m))(e:IsN wr B d (az n))(f:(az m).length<=1073741822)(b:(az n).length<=1073741822)(a:n<=m):Calls Tryz.prog 217 #[.slice A (az m).length c,.slice B (az n).length d] wr (Dy (m-n) wr):=by
 have:=xJ A B c d (az m) (az n) wr h e (by omega) (by omega) (by rw[aS,aS];exact a);rwa[aS,aS]at this
theorem NatPost.num{n:Nat}{w wr:World}{e:Ending}{w':World}(h:NatPost n wr e w')(c:w.heap.size<=wr.heap.size):∃v,e=.returned v/\NumIn w w' v n/\Below wr.heap.size wr w':=by
 obtain⟨v,a,b,d⟩:=h;exact⟨v,a,OwnN.base_le b c,d⟩
theorem xL{n M k:Nat}(h:n<=M)(a:M<4294967296^k):(az n).length<=k:=bk (PP h a)
def MT(w:World)(X Y:Nat)(x y sh:Value)(wr:World):Prop:=∃a b s:Nat,sh=.int .i64 s/\NumIn w wr x a/\NumIn w wr y b/\0<a/\0<b/\a*2^s=X/\b*2^s=Y/\Below w.heap.size w wr
def MU(w:World)(G s k:Nat)(x y:Value)(wr:World):Prop:=∃a b:Nat,NumIn w wr x a/\NumIn w wr y b/\0<a/\(a%2=1\/b%2=1)/\Nat.gcd a b*2^s=G/\a<4294967296^k/\b<4294967296^k/\Below w.heap.size w wr
def MV(w:World)(g a0 b:Nat)(x y:Value)(wr:World):Prop:=∃a:Nat,NumIn w wr x a/\NumIn w wr y b/\0<a/\a<=a0/\(a%2=1\/b%2=1)/\Nat.gcd a b=g/\Below w.heap.size w wr
def MW(w:World)(g b0 a:Nat)(x y:Value)(wr:World):Prop:=∃b:Nat,NumIn w wr x a/\NumIn w wr y b/\0<b/\b<=b0/\Nat.gcd a b=g/\Below w.heap.size w wr
def MX(w:World)(a s:Nat)(x i:Value)(wr:World):Prop:=∃t:Nat,t<=s/\i=.int .i64 t/\NumIn w wr x (a*2^t)/\Below w.heap.size w wr
theorem si{X a s:Nat}(c:0<a)(h:a*2^s=X)(b:a%2=0):0<a/2/\a/2*2^(s+1)=X:=by
 refine⟨by omega,?_⟩;rw[OO,OF (2^s) 2,<-OL,show a/2*2=a by omega,h]
theorem GT{X a s:Nat}(b:0<a)(h:a*2^s=X):s<X:=by
 have d:s<2^s:=Nat.lt_two_pow_self;have c:1*2^s<=a*2^s:=OT _ b;omega
theorem GU{X a s k:Nat}(c:0<a)(h:a*2^s=X)(f:X<4294967296^k):s<32*k:=by
 have d:1*2^s<=a*2^s:=OT _ c;have e:(2:Nat)^32=4294967296:=by decide
 have b:2^s<2^(32*k):=by rw[QG,e];omega
 exact(Sc (by decide)).1 b
theorem DB{X a s:Nat}(h:a*2^s=X):a<=X:=by
 have:a*1<=a*2^s:=PL _ (Pw (by decide));omega
theorem J2(A B:Option Addr)(ca cb:Nat)(x y:List Nat)(w:World)(hA:IsN w A ca x)(hB:IsN w B cb y)(y0:x.length<=1048576)(v0:y.length<=1048576):
  Calls Tryz.prog 174 #[.slice A x.length ca,.slice B y.length cb] w (NatPost (Nat.gcd (aE x) (aE y)) w):=by
 have HA:=J hA;have HB:=J hB;clear hA hB;obtain⟨X,hX⟩:∃X,aE x=X:=⟨_,rfl⟩;obtain⟨Y,hY⟩:∃Y,aE y=Y:=⟨_,rfl⟩;obtain⟨K,hK⟩:∃K:Nat,K=x.length+y.length:=⟨_,rfl⟩;have x1:K<=2097152:=by omega
 have m3:X<4294967296^K:=by
  rw[<-hX];exact Oz (cf x HA.out.ok) (OQ (by decide) (by omega))
 have o3:Y<4294967296^K:=by
  rw[<-hY];exact Oz (cf y HB.out.ok) (OQ (by decide) (by omega))
 have a4:=J m3;have k1:=J o3;have d2:=J hX;have d0:=J hY;clear m3 o3 hX hY hK
 go_enter Tryz.func174,Tryz.ntmps174
 go_wp2_with fail
 refine(ep A ca x _ HA.out (by omega)).mono ?_;intro e w1 h1;rw[d2.out]at h1;obtain⟨v1,rfl,v,c3⟩:=h1.num (Oh _);have u:=J v;have m1:=J c3;have i0:=c3.size;clear h1 v c3
 go_wp2_with fail
 refine(ep B cb y _ (HB.out.below m1.out) (by omega)).mono ?_;intro e w2 h2;rw[d0.out]at h2;obtain⟨v2,rfl,z,I⟩:=h2.num i0;have O:=J z;have u:=J (u.out.below I);have i2:=J (aF m1.out I i0);have x2:w.heap.size<=w2.heap.size:=Oq i0 I.size;clear h2 z I;obtain⟨A1,c1,e1,P⟩:=u.out.is;obtain⟨A2,c2,e2,b5⟩:=O.out.is;subst e1 e2;have w6:(az X).length<=K:=bk a4.out;have w3:(az Y).length<=K:=bk k1.out;have z1:(az X).length=0↔X=0:=b6;have z2:(az Y).length=0↔Y=0:=b6;have i5:=J z1;have r0:=J z2;clear P b5 z1 z2;by_cases n:X=0
 ·have g1:(((az X).length:Int)==0)=true:=by rw[beq_iff_eq];have:=i5.out.2 n;omega
  have d3:=J n;clear n
  go_wp2
  go_ret
  exact⟨_,Z,by rw[d2.out,d0.out,d3.out,Rx];exact O.out,i2.out⟩
 by_cases H:Y=0
 ·have g1:(((az X).length:Int)==0)=false:=by rw[beq_eq_false_iff_ne];intro h;exact n (i5.out.1 (by omega))
  have g2:(((az Y).length:Int)==0)=true:=by rw[beq_iff_eq];have:=r0.out.2 H;omega
  have i9:=J H;clear H n
  go_wp2
  go_ret
  exact⟨_,Z,by rw[d2.out,d0.out,i9.out,Rt];exact u.out,i2.out⟩
 have g1:(((az X).length:Int)==0)=false:=by rw[beq_eq_false_iff_ne];intro h;exact n (i5.out.1 (by omega))
 have g2:(((az Y).length:Int)==0)=false:=by rw[beq_eq_false_iff_ne];intro h;exact H (r0.out.1 (by omega))
 have d3:=J n;have i9:=J H;clear n H
 go_wp2
 go_loopw [5,6,7] (fun x y sh wr=>MT w X Y x y sh wr) (fun _ _ sh _=>X-(intOf sh).toNat)
 case atStart=>exact⟨X,Y,0,Z,u.out,O.out,Pc d3.out,Pc i9.out,by simp,by simp,i2.out⟩
 case round=>
  obtain⟨a,b,s,rfl,p,k,ha,hb,f,i1,D⟩:=hrel;obtain⟨Aa,s5,ea,b0⟩:=p.is;obtain⟨Ab,l6,eb,N⟩:=k.is;subst ea eb;have u2:(az a).length<=K:=xL (DB f) a4.out;have t5:(az b).length<=K:=xL (DB i1) k1.out;have x0:=GU ha f a4.out;have w7:=GT ha f;obtain⟨ba,oa,da,e1,l9,g3,h9,y3⟩:=nE b0 (by omega);obtain⟨bb,ob,db,e2,q8,i3,h8,v6⟩:=nE N (by omega);subst e1 e2;have d4:=D.size;have c4:=J p;have l4:=J k;have r4:=J b0;have u1:=J N;have c9:=J f;have d1:=J i1;have c0:=J D;have a5:=J (pp da h9);have a3:=J (pp db h8);clear p k b0 N f i1 D;have p1:bits .and .u32 (da:Int) 1=((a%2:Nat):Int):=by rw[a5.out,g3]
  have p2:bits .and .u32 (db:Int) 1=((b%2:Nat):Int):=by rw[a3.out,i3]
  by_cases q0:a%2=0/\b%2=0
  ·obtain⟨q,r⟩:=q0;rw[q]at p1;rw[r]at p2;have W:=J q;have b4:=J r;clear q r g3 i3 a5 a3
   go_wp2_with fail
   refine(DA r4.out (by omega)).mono ?_;intro e w4 L;obtain⟨v4,rfl,d,c⟩:=L.num (w:=w) d4;have C:=J d;have m:=J c;have c5:w.heap.size<=w4.heap.size:=Oq d4 c.size;clear L d c p1 p2 l9 q8
   go_wp2_with fail
   refine(DA (u1.out.below m.out) (by omega)).mono ?_;intro e w5 h5;obtain⟨v5,rfl,l,j⟩:=h5.num (w:=w) c5;have a2:=J l;have m4:=J (C.out.below j);have a0:=J (aF (aF c0.out m.out d4) j c5);clear h5 l j
   go_wp2
   go_roundw
   case rel=>exact⟨a/2,b/2,s+1,by go_num,m4.out,a2.out,(si ha c9.out W.out).1,(si hb d1.out b4.out).1,(si ha c9.out W.out).2,(si hb d1.out b4.out).2,a0.out⟩
   case measure=>simp[intOf];omega
  have HG:=J (show Nat.gcd a b*2^s=Nat.gcd X Y by rw[<-c9.out,<-d1.out,Nat.gcd_mul_right]);have R:=J (show a%2=1\/b%2=1 by omega);have Q:=J (show a<4294967296^K from PP (DB c9.out) a4.out);have S:=J (show b<4294967296^K from PP (DB d1.out) k1.out);have q3:(a%2=1)\/(a%2=0/\b%2=1):=by omega
  obtain⟨wo,s4⟩:∃wo:World,wo=wr:=⟨_,rfl⟩;subst s4;clear q0 g3 i3 a5 a3;rcases q3 with e5|⟨e5,q1⟩
  all_goals
   rw[e5]at p1;try rw[q1]at p2
   go_wp2
   clear p1 p2 l9 q8
   go_loopw [5,6] (fun x y w'=>MU w (Nat.gcd X Y) s K x y w') (fun x y w'=>rx x w'+rx y w')
   case atStart=>exact⟨a,b,c4.out,l4.out,ha,R.out,HG.out,Q.out,S.out,c0.out⟩
   case round=>
    obtain⟨a,b,p,k,ha,f2,hg,f9,k4,D⟩:=hrel;have c4:=J p;have l4:=J k;have R:=J f2;have HG:=J hg;have Q:=J f9;have S:=J k4;have c0:=J D;have d4:=D.size;have u2:(az a).length<=K:=bk f9;have t5:(az b).length<=K:=bk k4;have r1:=J p.num;have o1:=J k.num;obtain⟨Ab,l6,eb,N⟩:=k.is;obtain⟨Aa,s5,ea,b0⟩:=p.is;subst ea eb;clear p k f2 hg f9 k4 D b0 N;by_cases U:b=0
    ·have v3:((az b).length:Int)<=0:=by have:=b6.2 U;omega
     have p3:=J (show a*2^s=Nat.gcd X Y by have:=HG.out;rwa[U,Rt]at this);have l1:decide (0<((az b).length:Int))=false:=by rw[decide_eq_false_iff_not];omega
     have k2:decide (0<(az b).length)=false:=by rw[decide_eq_false_iff_not];omega
     clear U;obtain⟨wp,l0⟩:∃wp:World,wp=wr:=⟨_,rfl⟩;subst l0
     go_wp2
     go_loopw [5,8] (fun x i w'=>MX w a s x i w') (fun _ i _=>s-(intOf i).toNat)
     case atStart=>exact⟨0,by omega,Z,by rw[QO,Qc];exact c4.out,c0.out⟩
     case round=>
      obtain⟨t,ht,rfl,k5,l2⟩:=hrel;have r2:=J k5;have q9:=J l2;have l5:=l2.size;obtain⟨v9,ct,et,q6⟩:=k5.is;subst et;have t1:=J q6;have v8:(az (a*2^t)).length<=2*K:=by
       refine bk ?_;have h1:a*2^t<=a*2^s:=PL _ (OQ (by decide) ht);rw[p3.out]at h1;have h2:Nat.gcd X Y<=X:=Sg _ (Pc d3.out);have h3:4294967296^K<=4294967296^(2*K):=OQ (by decide) (by omega);have L:=a4.out;omega
      clear k5 l2 q6;by_cases y2:t<s
      ·go_wp2_with fail
       refine(J1 (bit:=0) t1.out (by omega) (by omega)).mono ?_;intro e w4 L;obtain⟨v4,rfl,d,c⟩:=L.num (w:=w) l5;rw[show 2*(a*2^t)+0=a*2^(t+1) by rw[OO,PI,OF 2,OL]]at d;have C:=J d;have m:=J (aF q9.out c l5);clear L d c
       go_wp2
       go_roundw
       case rel=>exact⟨t+1,by omega,by go_num,C.out,m.out⟩
       case measure=>simp[intOf];omega
      obtain rfl:t=s:=by omega
      go_wp2
      go_ret
      exact⟨_,Z,by rw[d2.out,d0.out,<-p3.out];exact r2.out,q9.out⟩
    have c3:0<b:=by omega
    have u8:0<(az b).length:=by
     rcases Pg (az b).length with h|h
     ·exact absurd (b6.1 h) U
     exact h
    clear U;obtain⟨g,h7⟩:∃g,Nat.gcd a b=g:=⟨_,rfl⟩;have t3:=J h7;rw[h7]at HG;clear h7;obtain⟨wp,l0⟩:∃wp:World,wp=wr:=⟨_,rfl⟩;subst l0
    go_wp2
    go_loopw [5] (fun x w'=>MV w g a b x (.slice Ab (az b).length l6) w') (fun x w'=>rx x w')
    case atStart=>exact⟨a,c4.out,l4.out,ha,Oh _,R.out,t3.out,c0.out⟩
    case round=>
     obtain⟨o,v,k,t8,f0,b1,l1,T⟩:=hrel;have u:=J v;have f8:=J k;have l8:=J l1;have e8:=J T;have s1:=J v.num;have f1:=T.size;have u3:(az o).length<=K:=xL f0 Q.out;obtain⟨A1,c1,e1,P⟩:=v.is;subst e1;obtain⟨bx,ox,dx,ex,n0,n1,k0,w8⟩:=nE P (by omega);subst ex;have r3:=J P;have f:=pp dx k0;rw[n1]at f;clear v k l1 T P n1;by_cases q:o%2=0
     ·rw[q]at f;have f6:=J (show b%2=1 by omega);have W:=J q;clear q b1
      go_wp2_with fail
      refine(DA r3.out (by omega)).mono ?_;intro e w4 L;obtain⟨v4,rfl,d,c⟩:=L.num (w:=w) f1;have C:=J d;have i4:=J d.num;have q7:=J (f8.out.below c);have m:=J (aF e8.out c f1);clear L d c f n0
      go_wp2
      go_roundw
      case rel=>exact⟨o/2,C.out,q7.out,by have:=W.out;omega,by omega,.inr f6.out,by rw[oe W.out f6.out];exact l8.out,m.out⟩
      case measure=>rw[i4.out,s1.out];omega
     have g0:o%2=1:=by omega
     rw[g0]at f;have l7:=J g0;clear q b1 g0;obtain⟨wq,t2⟩:∃wq:World,wq=wr:=⟨_,rfl⟩;subst t2
     go_wp2
     clear f n0
     go_loopw [6] (fun y w'=>MW w g b o (.slice (some ⟨bx,ox,none⟩) (az o).length c1) y w') (fun y w'=>rx y w')
     case atStart=>exact⟨b,u.out,f8.out,c3,Oh _,l8.out,e8.out⟩
     case round=>
      obtain⟨G,b3,z,I,e0,k2,M⟩:=hrel;have e7:=J b3;have O:=J z;have g4:=J k2;have e6:=J M;have s2:=J z.num;have F:=M.size;have u4:(az G).length<=K:=xL e0 S.out;obtain⟨A2,c2,e2,b5⟩:=z.is;subst e2;obtain⟨y1,oy,dy,ey,n2,p0,h6,w0⟩:=nE b5 (by omega);subst ey;have k3:=J b5;have e9:=J (show IsN wr (some ⟨bx,ox,none⟩) c1 (az o) by
       obtain⟨A',c',e,hi⟩:=b3.is;injection e with e1 e2 e3
       subst e1 e3;exact hi)
      have V:=pp dy h6;rw[p0]at V;clear b3 z k2 M b5 p0;by_cases r:G%2=0
      ·rw[r]at V;have b4:=J r;clear r
       go_wp2_with fail
       refine(DA k3.out (by omega)).mono ?_;intro e w4 L;obtain⟨v4,rfl,d,c⟩:=L.num (w:=w) F;have C:=J d;have i4:=J d.num;have q2:=J (e7.out.below c);have m:=J (aF e6.out c F);clear L d c V n2
       go_wp2
       go_roundw
       case rel=>exact⟨G/2,q2.out,C.out,by have:=b4.out;omega,by omega,by rw[tw l7.out b4.out];exact g4.out,m.out⟩
       case measure=>rw[i4.out,s2.out];omega
      have h0:G%2=1:=by omega
      rw[h0]at V;have t7:=J h0;clear r h0
      go_wp2_with fail
      refine(NV e9.out k3.out (by omega) (by omega)).mono ?_;rintro e w4 ⟨he,c⟩;have m:=J c;have c5:=c.size;have E:w.heap.size<=w4.heap.size:=Oq F c5;have s3:=J (e7.out.below c);have t4:=J (O.out.below c);have f7:=J (e9.out.below c);have e4:=J (k3.out.below c);have f3:=J (aF e6.out c F);clear c V n2;by_cases t9:G<o
      ·rw[jv t9]at he;subst he
       go_wp2_with fail
       refine(MS f7.out e4.out (by omega) (by omega) (by omega)).mono ?_;rintro e w5 ⟨v5,rfl,a9,j⟩;have l:NumIn w w5 v5 (o-G):=OwnN.base_le a9 E;have a2:=J l;have l3:=J l.num;have p4:=J (t4.out.below j);have u0:=J p4.out.num;have a0:=J (aF f3.out j E);clear a9 l j
       go_wp2
       go_roundw
       case rel=>exact⟨G,o-G,p4.out,a2.out,I,.inl t7.out,by rw[So (by omega),QH,g4.out];exact HG.out,PP e0 S.out,PP (by omega) Q.out,a0.out⟩
       case measure=>rw[l3.out,u0.out,r1.out,o1.out];omega
      have o2:o<=G:=by omega
      have m2:fz (o:Int) (G:Int)<=0:=by
       rcases OS o G with h|h
       ·rw[ku h];decide
       rw[mb (by omega)];decide
      obtain⟨cm,q5⟩:∃cm,fz (o:Int) (G:Int)=cm:=⟨_,rfl⟩;rw[q5]at he m2;subst he;clear q5
      go_wp2_with fail
      refine(MS e4.out f7.out (by omega) (by omega) o2).mono ?_;rintro e w5 ⟨v5,rfl,a9,j⟩;have l:NumIn w w5 v5 (G-o):=OwnN.base_le a9 E;have a2:=J l;have l3:=J l.num;have q4:=J (s3.out.below j);have t0:=J q4.out.num;have a0:=J (aF f3.out j E);clear a9 l j
      go_wp2
      go_roundw
      case rel=>exact⟨o,G-o,q4.out,a2.out,t8,.inl l7.out,by rw[So o2,g4.out];exact HG.out,PP f0 Q.out,PP (by omega) S.out,a0.out⟩
      case measure=>rw[l3.out,t0.out,r1.out,o1.out];omega
theorem vJ(k g:Nat)(qs:List Nat):(List.replicate (k+1) 0++qs).set k g=List.replicate k 0++g::qs:=by
 rw[List.replicate_succ',O0,P5 _ _ (by simp)];simp
theorem GV(a:List Nat)(k:Nat)(h:k<a.length):aE (a.drop k)=a[k]+4294967296*aE (a.drop (k+1)):=by
 rw[Ow h,aE]
theorem qQ(n:Nat)(w:World)(x:n<18446744073709551616):Calls Tryz.prog 102 #[.int .u64 n] w (NatPost n w):=by
 have p:aE [n%4294967296,n/4294967296]=n:=by simp only[aE];omega
 have f:Digs [n%4294967296,n/4294967296]:=fun d f=>by
  simp only[OC,O8,or_false]at f;rcases f with rfl|rfl<;>omega
 obtain⟨W,o,a,b,l⟩:=xe w 50 #[.int .u32 ((n:Int)%4294967296),.int .u32 ((n:Int)/4294967296)];have m:IsN W (some ⟨w.heap.size,0,none⟩) 2 [n%4294967296,n/4294967296]:=by
  refine⟨fun _=>⟨w.heap.size,0,Z,by omega,fun j u t=>?_⟩,fun e=>(by cases e),by simp,by omega,f⟩;rw[Pk,b.cell j,<-t];simp[cG]
 have g:=J (ep (some ⟨w.heap.size,0,none⟩) 2 [n%4294967296,n/4294967296] W m (by simp));rw[p]at g;have v:=J o;have r:=J a;have q:=a.size;clear p f m o a b l
 go_enter Tryz.func102,Tryz.ntmps102
 go_wp2_with fail
 rw[v.out];refine g.out.mono ?_;rintro e y ⟨s,rfl,c,h⟩;have i:=J (c.base_le q);have k:=J (r.out.trans (h.mono q));clear c h
 go_wp2
 go_ret
 exact⟨s,Z,i.out,k.out⟩
theorem MY{P:Program}{f:FuncId}{w:World}{n:Nat}{x:Int}(h:x=(n:Int))(a:Calls P f #[.int .u64 (n:Int)] w (NatPost n w)):Calls P f #[.int .u64 x] w (NatPost n w):=by subst h;exact a
theorem GW(n:Int)(w:World)(k: -9223372036854775808<=n)(j:n<=9223372036854775807):Calls Tryz.prog 162 #[.int .i64 n] w (NatPost n.natAbs w):=by
 have g:=J (fun w=>qQ n.natAbs w (by omega));by_cases l:n<0
 ·go_enter Tryz.func162,Tryz.ntmps162
  go_wp2_with fail
  refine(MY (n:=n.natAbs) (by omega) (g.out _)).mono ?_;rintro e h ⟨f,rfl,a,b⟩;have d:=J a;have c:=J b;clear a b
  go_wp2
  go_ret
  exact⟨f,Z,d.out,c.out⟩
 have i:0<=n:=by omega
 go_enter Tryz.func162,Tryz.ntmps162
 go_wp2_with fail
 refine(MY (n:=n.natAbs) (by omega) (g.out _)).mono ?_;rintro e h ⟨f,rfl,a,b⟩;have d:=J a;have c:=J b;clear a b
 go_wp2
 go_ret
 exact⟨f,Z,d.out,c.out⟩
theorem NW{wr:World}{A B:Option Addr}{c d m n:Nat}(h:IsN wr A c (az m))(b:IsN wr B d (az n))(e:(az m).length<=1048576)(a:(az n).length<=1048576):Calls Tryz.prog 174 #[.slice A (az m).length c,.slice B (az n).length d] wr (NatPost (Nat.gcd m n) wr):=by
 have:=J2 A B c d (az m) (az n) wr h b (by omega) (by omega);rwa[aS,aS]at this
theorem MZ{wr:World}{A B:Option Addr}{c d m n:Nat}(h:IsN wr A c (az m))(e:IsN wr B d (az n))(f:(az m).length<=1048576)(b:(az n).length<=1048576)(a:0<n):Calls Tryz.prog 175 #[.slice A (az m).length c,.slice B (az n).length d] wr (Dz m n wr):=by
 have:=BN A B c d (az m) (az n) wr h e (by omega) (by omega) (by rw[aS];exact a);rwa[aS,aS]at this
def IsD(W:World)(v:Value)(n:Nat):Prop:=∃A c,v=.slice A (az n).length c/\IsN W A c (az n)
theorem IsD.below{W W':World}{v:Value}{n:Nat}(h:IsD W v n)(b:Below W.heap.size W W'):IsD W' v n:=by
 obtain⟨A,c,e,a⟩:=h;exact⟨A,c,e,a.below b⟩
def tx(ng:Bool)(N D:Nat)(w:World)(e:Ending)(w':World):Prop:=∃vn vd,e=.returned (.agg #[.bool ng,vn,vd])/\OwnN w' w.heap.size vn (az N)/\OwnN w' w.heap.size vd (az D)/\Below w.heap.size w w'
theorem zh(l:Bool)(A B:Option Addr)(ca cb X Y:Nat)(w:World)(hA:IsN w A ca (az X))(hB:IsN w B cb (az Y))(u:(az X).length<=1048576)(n:(az Y).length<=1048576)(hY:0<Y):
  Calls Tryz.prog 110 #[.bool l,.slice A (az X).length ca,.slice B (az Y).length cb] w (tx (l&&decide (X≠0)) (X/Nat.gcd X Y) (Y/Nat.gcd X Y) w):=by
 have HA:=J hA;have HB:=J hB;clear hA hB;obtain⟨W,hW,z,O,e7⟩:=xe w 65 #[.bool false,.slice none 0 0,.slice none 0 0];have HW:=J hW;have D:=J z;have b0:=J O;have U:=z.size;have b3:w.heap.size<W.heap.size:=by omega
 clear hW z O e7;have G:0<Nat.gcd X Y:=Nat.gcd_pos_of_pos_right _ hY;have e6:Nat.gcd X Y<=Y:=Nat.gcd_le_right _ hY;have a3:X/Nat.gcd X Y=0↔X=0:=by
  constructor
  ·intro h;have i:=Rs (Nat.gcd_dvd_left X Y);rw[h]at i;omega
  intro h;rw[h];simp
 have a4:Y/Nat.gcd X Y≠0:=by
  intro h;have i:=Rs (Nat.gcd_dvd_right X Y);rw[h]at i;omega
 have f6:(az (X/Nat.gcd X Y)).length<=1048576:=Oq (bi (Ql _ _)) u;have a0:(az (Nat.gcd X Y)).length<=1048576:=Oq (bi e6) n;generalize hg:Nat.gcd X Y=g at*;have p:=J a3;have d4:=J a4;have Q:=J hg;clear a3 a4 hg
 go_enter Tryz.func110,Tryz.ntmps110
 go_wp2_with fail
 rw[HW.out];refine(NW (HA.out.below D.out) (HB.out.below D.out) u n).mono ?_;intro e w1 i;rw[Q.out]at i;obtain⟨A1,c1,rfl,H,f⟩:=i.open_;have F:=J H;have N:=J (aF D.out f U);have S:w.heap.size<=w1.heap.size:=Oq U f.size;have L:w.heap.size<w1.heap.size:=Oz b3 f.size;have I:=J (b0.out.below f b0.out.lt);clear i H f
 go_wp2_with fail
 refine(MZ (HA.out.below N.out) F.out u a0 G).mono ?_;rintro e w2 ⟨q2,r2,rfl,r,b2,a⟩;obtain⟨A2,c2,e2,a5⟩:=r.is (cE _);subst e2;have f0:=J a5;have T:=J (aF N.out a S);have a2:w.heap.size<=w2.heap.size:=Oq S a.size;have M:=J (I.out.below a I.out.lt);have R:=J (F.out.below a);have c5:=J (r.base_le (Ry L));have E:w.heap.size<w2.heap.size:=Oz L a.size;clear r b2 a5 a
 go_wp2_with fail
 refine(MZ (HB.out.below T.out) R.out n a0 G).mono ?_;rintro e w3 ⟨q3,r3,rfl,q,c0,c⟩;obtain⟨A3,c3,e3,a9⟩:=q.is (cE _);subst e3;have e8:=J a9;have a1:=J (aF T.out c a2);have e1:w.heap.size<=w3.heap.size:=Oq a2 c.size;have k:=J (M.out.below c M.out.lt);have m:=J (c5.out.below c);have P:=J (q.base_le (Ry E));have b5:w.heap.size<w3.heap.size:=Oz E c.size;clear q c0 a9 c;have e9:(((az (Y/g)).length:Int)==0)=false:=by rw[beq_eq_false_iff_ne];intro h;exact d4.out (b6.1 (by omega))
 by_cases b:X=0
 ·have d:=J b;have g1:(((az (X/g)).length:Int)==0)=true:=by rw[beq_iff_eq];have:=b6.2 (p.out.2 b);omega
  clear b
  go_wp2_with fail
  refine(qQ 1 _ (by omega)).mono ?_;rintro e w4 ⟨v4,rfl,C,x⟩;have V:=J (C.base_le (Ry b5));have e0:=J (aF a1.out x e1);have K:=J (k.out.below x k.out.lt);obtain⟨y,t,d3,f1,f2,f3⟩:=K.out.three;obtain⟨A4,c4,e4,_⟩:=C.is (cE 1);subst e4;clear C x
  go_wp2
  clear y t d3 f1 f2 f3;obtain⟨w6,h6,o,s,e5,j⟩:=eZ K.out (.bool false) (.slice none 0 0) (.slice A4 (az 1).length c4);rw[h6];obtain⟨d0,y,t,_,_,_⟩:=o.three;have c9:OwnN w6 (w.heap.size+1) (.slice A4 (az 1).length c4) (az 1):=fI V.out (nD V.out (Rm _)) j;refine bodyPost_ret (v:=.agg #[.bool false,.slice none 0 0,.slice A4 (az 1).length c4]) (by simp[results,Tryz.results110,go_sem,d0,y,t]) Z ⟨.slice none 0 0,.slice A4 (az 1).length c4,by rw[d.out];simp,?_,?_,e0.out.trans s⟩
  ·rw[p.out.2 d.out];exact OwnN.nil _ _
  have e:Y/g=1:=by
   have i:=Q.out;rw[d.out,Rx]at i;rw[<-i];exact Nat.div_self hY
  rw[e];exact c9.base_le (SU _)
 have d:=J b;have g1:(((az (X/g)).length:Int)==0)=false:=by rw[beq_eq_false_iff_ne];intro h;exact b (p.out.1 (b6.1 (by omega)))
 clear b;obtain⟨y,t,d3,f1,f2,f3⟩:=k.out.three
 go_wp2
 clear y t d3 f1 f2 f3;obtain⟨w6,h6,o,s,e5,j⟩:=eZ k.out (.bool l) (.slice A2 (az (X/g)).length c2) (.slice A3 (az (Y/g)).length c3);rw[h6];obtain⟨d0,y,t,_,_,_⟩:=o.three;have b4:OwnN w6 (w.heap.size+1) (.slice A2 (az (X/g)).length c2) (az (X/g)):=fI m.out (nD m.out (Rm _)) j;have b1:OwnN w6 (w.heap.size+1) (.slice A3 (az (Y/g)).length c3) (az (Y/g)):=fI P.out (nD P.out (Rm _)) j;refine bodyPost_ret (v:=.agg #[.bool l,.slice A2 (az (X/g)).length c2,.slice A3 (az (Y/g)).length c3]) (by simp[results,Tryz.results110,go_sem,d0,y,t]) Z ⟨_,_,?_,b4.base_le (SU _),b1.base_le (SU _),a1.out.trans s⟩;have hx:=d.out;simp[hx]
theorem xM(a:Bool)(A B:Option Addr)(q r X Y:Nat)(w:World)(O:IsN w A q (az X))(R:IsN w B r (az Y))(z:(az X).length<=1048576)(t:(az Y).length<=1048576)(hY:0<Y):
  Calls Tryz.prog 48 #[.agg #[.bool a,.slice A (az X).length q,.slice B (az Y).length r]] w (tx (a&&decide (X≠0)) (X/Nat.gcd X Y) (Y/Nat.gcd X Y) w):=by
 have HA:=J O;have S:=J R;clear O R;obtain⟨W,K,f,u,b,H⟩:=yo w 65 65 #[.bool a,.slice A (az X).length q,.slice B (az Y).length r] #[.bool false,.slice none 0 0,.slice none 0 0];have HW:=J K;have h:=J f;have o:=J b;have d:=f.size;have m:w.heap.size+1<W.heap.size:=by omega
 clear K f u b H;have D:=J (zh a A B q r X Y W (HA.out.below h.out) (S.out.below h.out) z t hY)
 go_enter Tryz.func48,Tryz.ntmps48
 go_wp2_with fail
 rw[HW.out];refine D.out.mono ?_;rintro e w1 ⟨vn,vd,rfl,c,g,i⟩;obtain⟨L,N,en,_⟩:=c.is (cE _);obtain⟨P,Q,ed,_⟩:=g.is (cE _);subst en ed;have k:=J c;have p:=J g;have E:=J (aF h.out i d);have n:=J (o.out.below i o.out.lt);obtain⟨C,s,U,f1,f2,T⟩:=n.out.three;clear c g i
 go_wp2
 clear C s U f1 f2 T;obtain⟨w6,I,y,F,a0,j⟩:=eZ n.out (.bool (a&&decide (X≠0))) (.slice L (az (X/Nat.gcd X Y)).length N) (.slice P (az (Y/Nat.gcd X Y)).length Q);first
  |rw[I]
  |(have M:=I;simp only[ne_eq,decide_not]at M;rw[M])
 obtain⟨V,C,s,_,_,_⟩:=y.three;have G:=fI k.out (nD k.out m) j;have x:=fI p.out (nD p.out m) j;exact bodyPost_ret (v:=.agg #[.bool (a&&decide (X≠0)),.slice L (az (X/Nat.gcd X Y)).length N,.slice P (az (Y/Nat.gcd X Y)).length Q]) (by simp[results,Tryz.results48,go_sem,V,C,s]) Z ⟨_,_,Z,OwnN.base_le (l:=az (X/Nat.gcd X Y)) G d,OwnN.base_le (l:=az (Y/Nat.gcd X Y)) x d,E.out.trans (F.mono (by omega))⟩
end Go.Proofs.YtfoejfohbkmmeaaGreatDoor
