import Derived.Test.YtfoejfohbkmmeaaGreatDoorP11
import Derived.Laws.OwnMore
import Derived.Test.YtfoejfohbkmmeaaGreatDoorP00
set_option maxRecDepth 100000
set_option maxHeartbeats 4000000
namespace Go.Proofs.YtfoejfohbkmmeaaGreatDoor
open Go.RowKit
open Lib renaming hid→J
theorem p9(j s:Nat):(2:Nat)^(32*j+s)=4294967296^j*2^s:=by
 rw[NZ,PD]
theorem Hz(a s:Nat)(b:s<32):a%4294967296/2^s%2=a/2^s%2:=by
 have h:(4294967296:Nat)=2^s*2^(32-s):=by rw[<-NZ,show s+(32-s)=32 by omega]
 rw[h,Nat.mod_mul_right_div_self,Qo];exact⟨2^(32-s-1),by rw[<-Nat.pow_succ',show(32-s-1).succ=32-s by omega]⟩
theorem qa:∀(l:List Nat) (j:Nat),Digs l->l.getD j 0=ay l/4294967296^j%4294967296
 |[],j,_=>by simp[ay]
 |d::l,0,h=>by
  have:=h d (Ml ..);simp only[List.getD_cons_zero,ay,Py,P0];omega
 |d::l,j+1,h=>by
  have c:=h d (Ml ..);have b:=qa l j (fun x a=>h x (Ms _ a));simp only[List.getD_cons_succ,ay,b];rw[MH,Mt (4294967296^j),<-Oy,show(d+4294967296*ay l)/4294967296=ay l by omega]
theorem De{l:List Nat}{j s d:Nat}(h:Digs l)(c:j<l.length)(b:l[j]=d)(e:s<32):d/2^s%2=ay l/2^(32*j+s)%2:=by
 have a:=qa l j h;rw[Mk,L3 c,MG,b]at a;rw[a,Hz _ _ e,Oy,<-p9]
theorem HH(l:List Nat)(j d e:Nat)(a:j<l.length)(b:l[j]=d):ay (l.set j (d+e))=ay l+4294967296^j*e:=by
 have h:=lG l j a;have c:=lG (l.set j (d+e)) j (by simpa using a);rw[c,h,b];have f:(l.set j (d+e)).take j=l.take j:=by rw[Pn,List.set_eq_of_length_le];rw[Mf];omega
 have g:(l.set j (d+e)).drop (j+1)=l.drop (j+1):=by rw[Qj (by omega)]
 rw[f,g,List.getElem_set_self,Qp,MB];omega
theorem sj{l:List Nat}{j s d m:Nat}(h:Digs l)(g:j<l.length)(b:l[j]=d)(i:s<32)(c:ay l=m*2^(32*j+s+1)):d%2^(s+1)=0:=by
 have a:=qa l j h;rw[Mk,L3 g,MG,b]at a;have e:ay l=4294967296^j*(m*2^(s+1)):=by rw[c,N5,p9,<-Mu,Mt m,Mu]
 rw[e,Pe _ (NF (by decide))]at a;rw[a];have f:(4294967296:Nat)=2^(s+1)*2^(31-s):=by rw[<-NZ,show s+1+(31-s)=32 by omega]
 rw[Qo _ ⟨2^(31-s),f⟩,Nat.mul_mod_left]
theorem JG(d s:Nat)(a:d<4294967296)(f:s<32)(h:d%2^(s+1)=0):bits .or .u32 (d:Int) ((2^s:Nat):Int)=((d+2^s:Nat):Int):=by
 have c:2^s<2^32:=N7 (by decide) f;rw[u32_or_nat d (2^s) a (by simpa using c)];have e:d|||2^s=d+2^s:=by
  have:=NE (i:=s+1) (b:=2^s) (N7 (by decide) (by omega)) (d/2^(s+1));rw[Og,O8 (P1 h)]at this;exact this.symm
 rw[e]
theorem oW(d:Nat)(a:d<4294967296):bits .and .u32 (d:Int) 1=((d%2:Nat):Int):=by
 have:=u32_and_nat d 1 a (by decide);rw[show((1:Nat):Int)=1 from rfl]at this;rw[this,Nat.and_one_is_mod]
theorem HK{P Y b:Nat}(a:0<Y)(g:b<=1):(Y<=2*(P%Y)+b->(2*P+b)/Y=2*(P/Y)+1/\(2*P+b)%Y=2*(P%Y)+b-Y)/\(2*(P%Y)+b<Y->(2*P+b)/Y=2*(P/Y)/\(2*P+b)%Y=2*(P%Y)+b):=by
 have c:=Oa P Y;have d:=Ni P a;generalize P/Y=q at*;generalize P%Y=r at*;subst c;have f:2*(Y*q)=Y*(2*q):=by rw[<-Mu,Mt 2 Y,Mu]
 constructor
 ·intro h;have e:2*(Y*q+r)+b=(2*r+b-Y)+Y*(2*q+1):=by rw[MB Y,MB 2];omega
  rw[e,Pz _ _ a,O6,N3 (by omega),ND (by omega)];omega
 intro h;have e:2*(Y*q+r)+b=(2*r+b)+Y*(2*q):=by rw[MB 2];omega
 rw[e,Pz _ _ a,O6,N3 h,ND h];omega
theorem H0(X m:Nat):X/2^m=2*(X/2^(m+1))+X/2^m%2:=by
 rw[MH,<-Oy];omega
theorem z7(n:Nat):(madeCells (Value.int .u32 0).cells (n*1)).toList=cA (List.replicate n 0):=by
 apply OX
 ·simp[madeCells,cA]
 intro j b a;simp[madeCells,cA,Value.cells,Nat.mod_one]
theorem eO(w:World)(n:Nat)(k:n<=1073741824):∃w',(∀b a,(Instr.makeSlice 63 (.int b (n:Int)) (.int a (n:Int))).run Tryz.prog w=.ok (.slice (some ⟨w.heap.size,0,none⟩) n n) w')/\
  OwnN w' w.heap.size (.slice (some ⟨w.heap.size,0,none⟩) n n) (List.replicate n 0)/\Below w.heap.size w w'/\w'.heap.size=w.heap.size+1:=by
 obtain⟨j,d,c,g,f⟩:=info_parts sd;have i:∀b a,(Instr.makeSlice 63 (.int b (n:Int)) (.int a (n:Int))).run Tryz.prog w=.ok (.slice (some ⟨w.heap.size,0,none⟩) n n) (w.alloc (.cells (madeCells (Value.int .u32 0).cells (n*j.size)) 50)):=fun b a=>by
  have:=run_make (P:=Tryz.prog) w 63 50 j (.int .u32 0) Tryz.underlying63 d c b a n n (by omega) (Int.le_refl _) (by rw[f];omega) (by omega);simpa using this
 rw[g]at i;refine⟨_,i,?_,(Below.refl _ _).alloc (L4 _) _,by simp⟩;have h:=World.ownsRow_lit (base:=w.heap.size) (e:=50) (size:=1) w (madeCells (Value.int .u32 0).cells (n*1)) n (L4 _) (by simp only[maxLen];omega) (size_madeCells _ _);rw[z7]at h;unfold OwnN;rw[OU];exact h
theorem kz(n:Nat):ay (List.replicate n 0)=0:=nX _ (fun _ a=>(OA.1 a).2)
theorem jS(n:Nat):Digs (List.replicate n 0):=fun _ a=>by rw[(OA.1 a).2];decide
def DivInv(w2:World)(X Y n:Nat)(r i:Value)(wr:World):Prop:=
 ∃(k:Nat) (qd:List Nat),k<=32*n/\i=.int .i64 ((k:Int)-1)/\qd.length=n/\Digs qd/\OwnN wr w2.heap.size (.slice (some ⟨w2.heap.size,0,none⟩) n n) qd/\ay qd=X/2^k/Y*2^k/\OwnN wr (w2.heap.size+1) r (ax (X/2^k%Y))/\Below w2.heap.size w2 wr/\w2.heap.size+1<=wr.heap.size
theorem ww{a W:World}{X Y n:Nat}{i:Int}(d:X<4294967296^n)(e:OwnN W a.heap.size (.slice (some ⟨a.heap.size,0,none⟩) n n) (List.replicate n 0))(c:Below a.heap.size a W)(g:W.heap.size=a.heap.size+1)(f:i=32*(n:Int)-1):DivInv a X Y n (.slice none 0 0) (.int .i64 i) W:=by
 have b:X/2^(32*n)=0:=N3 (by rw[PD];exact d);subst f;refine⟨32*n,List.replicate n 0,L4 _,by rw[show((32*n:Nat):Int)-1=32*(n:Int)-1 by omega],OU,jS n,e,by rw[kz,b];simp,?_,c,by omega⟩;rw[b];simp;exact OwnN.nil _ _
theorem JH{d s:Nat}(a:d<4294967296)(e:s<32)(h:d%2^(s+1)=0):d+2^s<4294967296:=by
 have c:d|||2^s=d+2^s:=by
  have:=NE (i:=s+1) (b:=2^s) (N7 (by decide) (by omega)) (d/2^(s+1));rw[Og,O8 (P1 h)]at this;exact this.symm
 rw[<-c];exact Nat.or_lt_two_pow (n:=32) a (N7 (by decide) e)
theorem iR{w:World}{base e size n g:Nat}{v:Value}{xs:List Value}(h:w.ownsRow base e size v n xs)(a:g<base):v.ownBlock≠some g:=fun e=>by have:=(h.lt g e).1;omega
theorem DivInv.set{a f:World}{X Y n m j s q0 E:Nat}{b:List Nat}{x:Value}{z i:Int}(I:m<=32*n)(e:b.length=n)(c:Digs b)(t:OwnN f a.heap.size (.slice (some ⟨a.heap.size,0,none⟩) n n) b)(l:ay b=X/2^(m+1)/Y*2^(m+1))(q:32*j+s=m)(F:s<32)(v:j<b.length)(g:b[j]=q0)
  (C:OwnN f E x (ax (X/2^m%Y))) (A:a.heap.size+1<=E) (B:X/2^m/Y=2*(X/2^(m+1)/Y)+1) (u:Below a.heap.size a f) (w:a.heap.size+1<=f.heap.size) (H:z=((q0+2^s:Nat):Int)) (K:i=(m:Int)-1):
  DivInv a X Y n x (.int .i64 i) (f.setCell ⟨a.heap.size,j,none⟩ (.int .u32 z)):=by
 subst H K;have y:q0%2^(s+1)=0:=sj c v g F (m:=X/2^(m+1)/Y) (by rw[l,q]);have o:q0<4294967296:=by rw[<-g];exact c _ (M7 v)
 refine⟨m,b.set j (q0+2^s),I,Z,by rw[MJ,e],fun d G=>?_,?_,?_,?_,u.setCell (p:=⟨a.heap.size,j,none⟩) (L4 _) _,by simpa[World.setCell]using w⟩
 ·rcases Ok G with h|h
  ·exact c d h
  rw[h];exact JH o F y
 ·have r:OwnN f a.heap.size (.slice (some ⟨a.heap.size,0,none⟩) b.length n) b:=by rw[e];exact t
  have D:=r.set (i:=j) (q0+2^s);rw[MJ,e]at D;exact D
 ·rw[HH b j q0 (2^s) v g,l,B,M5,<-p9,q,MH,Ol];congr 1;rw[Mt (2^m) 2,<-Mu,Mt _ 2]
 have r:OwnN f (a.heap.size+1) x (ax (X/2^m%Y)):=C.base_le A;exact fc r (iR r (OY _)) (fun k J=>Below.heap_setCell _ _ _ _ J)
def BZ(X Y:Nat)(w:World)(e:Ending)(w':World):Prop:=∃q r,e=.returned (.tuple #[q,r,.bool true])/\OwnN w' w.heap.size q (ax (X/Y))/\OwnN w' w.heap.size r (ax (X%Y))/\Below w.heap.size w w'
theorem z8(A B:Option Addr)(ca cb:Nat)(x y:List Nat)(w:World)(hA:IsN w A ca x)(hB:IsN w B cb y)(t7:x.length<=1048576)(u8:y.length<=1048576)(hy:0<ay y):
  Calls Tryz.prog 175 #[.slice A x.length ca,.slice B y.length cb] w (BZ (ay x) (ay y) w):=by
 have HA:=J hA;have HB:=J hB;clear hA hB;have p3:(ax (ay x)).length<=x.length:=a8 (b8 x HA.out.ok);have q4:(ax (ay y)).length<=y.length:=a8 (b8 y HB.out.ok);have h9:0<(ax (ay y)).length:=by
  rcases M1 (ax (ay y)).length with h|h
  ·have:=bR.1 h;omega
  exact h
 go_enter Tryz.func175,Tryz.ntmps175
 go_wp2_with fail
 refine(dN A ca x _ HA.out (by omega)).mono ?_;intro e w1 h1;obtain⟨A1,c1,rfl,n0,c3⟩:=h1.open_;have i9:=J n0;have m4:=J c3;have g0:=c3.size;clear h1 n0 c3
 go_wp2_with fail
 refine(dN B cb y _ (HB.out.below m4.out) (by omega)).mono ?_;intro e w2 h2;obtain⟨A2,c2,rfl,i5,a2⟩:=h2.open_;have d1:=J i5;have L:=J (i9.out.below a2);have s5:=J (aE m4.out a2 g0);have s3:w.heap.size<=w2.heap.size:=Ma g0 a2.size;clear h2 i5 a2 i9;have S:=J (aO (ay x));have n:=J (aO (ay y));obtain⟨I,b0⟩:∃I,ax (ay x)=I:=⟨_,rfl⟩;obtain⟨dy,C⟩:∃dy,ax (ay y)=dy:=⟨_,rfl⟩;have G:=J C;rw[b0]at L p3 S⊢;rw[C]at d1 q4 h9 n⊢;clear b0 C;obtain⟨X,hX⟩:∃X,ay x=X:=⟨_,rfl⟩;obtain⟨Y,hY⟩:∃Y,ay y=Y:=⟨_,rfl⟩;rw[hX]at S;rw[hY]at n hy G;have k0:=J hX;have j2:=J hY;clear hX hY;have a5:X<4294967296^I.length:=by rw[<-S.out];exact b8 I L.out.ok
 have p4:=J a5;clear a5;have g1:((dy.length:Int)==0)=false:=by rw[beq_eq_false_iff_ne];omega
 obtain⟨W,d2,m3,o1,h7⟩:=eO w2 I.length (by omega);have d2:=d2 .i64 .i64;have q3:=J m3;have q2:=J o1;have s9:=J h7;clear m3 o1 h7
 go_wp2
 clear d2
 go_loopw [10,11] (fun r i wr=>DivInv w2 X Y I.length r i wr) (fun _ i _=>(intOf i+1).toNat)
 case atStart=>exact ww p4.out q3.out q2.out s9.out (by omega)
 case round=>
  obtain⟨k,qd,hk,rfl,h8,f9,l2,h6,l,m2,u0⟩:=hrel;have D:=J h8;have N:=J f9;have h5:=J l2;have O:=J h6;have T:=J l;have c9:=J m2;clear h8 f9 l2 h6 l m2;cases k with
  |zero=>
   have i0:ay qd=X/Y:=by have:=O.out;simpa using this
   have l:=T.out;rw[Py,P0]at l;obtain⟨Ar,cr,er,M⟩:=l.is (bZ (X%Y));subst er;have v:=J M;have H:=J (aO (X%Y));have t0:(ax (X%Y)).length<=dy.length:=by rw[<-G.out];exact a7 (Qq (Ni _ hy))
   have o2:IsN wr (some ⟨w2.heap.size,0,none⟩) I.length qd:=by
    have h1:=h5.out;obtain⟨A',c',e,hi⟩:=h1.is N.out;injection e with e1 e2 e3
    subst e1 e3;exact hi
   have q9:=J o2;have q1:=J i0;obtain⟨dr,c0⟩:∃dr,ax (X%Y)=dr:=⟨_,rfl⟩;rw[c0]at v H t0⊢;have t8:=J c0;have f:w.heap.size<=wr.heap.size:=by omega
   have l5:=J (s5.out.trans (c9.out.mono s3));clear l M o2 i0 c0;have e6:=dN (some ⟨w2.heap.size,0,none⟩) I.length qd wr q9.out (by have:=D.out;omega);rw[D.out,q1.out]at e6;have r0:=J e6;clear e6
   go_wp2_with fail
   refine r0.out.mono ?_;rintro e w4 ⟨v4,rfl,u,c⟩;have p:=J u;have d0:=J c;have h3:=c.size;clear u c;have f1:=dN Ar cr dr w4 (v.out.below d0.out) (by omega);rw[H.out]at f1;have r4:=J f1;clear f1
   go_wp2_with fail
   refine r4.out.mono ?_;rintro e w5 ⟨v5,rfl,h0,a⟩;have e7:=J h0;have a1:=J (p.out.below a);have V:=J (aE (aE l5.out d0.out f) a (Ma f h3));clear h0 a
   go_wp2
   go_ret3
   exact⟨v4,v5,Z,by rw[k0.out,j2.out];exact a1.out.base_le f,by rw[k0.out,j2.out];exact e7.out.base_le (by omega),V.out⟩
  |succ m=>
   rw[show((m+1:Nat):Int)-1=(m:Int) by omega];have hj:m/32<I.length:=by omega
   obtain⟨j,g3⟩:∃j,m/32=j:=⟨_,rfl⟩;obtain⟨s,q8⟩:∃s,m%32=s:=⟨_,rfl⟩;have g:s<32:=by omega
   have b5:32*j+s=m:=by omega
   rw[g3]at hj;have i1:(m:Int)/32=(j:Int):=by omega
   have i2:(m:Int)%32=(s:Int):=by omega
   obtain⟨b,off,rfl,hb,hc⟩:=(L.out.below c9.out).digit hj;obtain⟨d,hd⟩:∃d,I[j]=d:=⟨_,rfl⟩;have f2:=hc j hj;rw[hd]at f2;have m1:d<4294967296:=by rw[<-hd];exact L.out.ok _ (M7 hj)
   have a9:=J (De L.out.ok hj hd g);rw[S.out,b5]at a9;have s2:d/2^s<4294967296:=NC (NT _ _) m1;have F:=oW (d/2^s) s2;rw[Int.natCast_ediv,show((2^s:Nat):Int)=(2:Int)^s by simp,a9.out]at F;have a3:=J F;have E:X/2^m%2<=1:=by omega
   obtain⟨bit,e9⟩:∃bit,X/2^m%2=bit:=⟨_,rfl⟩;rw[e9]at a3 E;have r2:=J e9;clear F e9;have p0:=J b5;clear hd hc g3 q8 b5;have k1:(j:Int)<(I.length:Int):=by omega
   have k2:(0:Int)<=(j:Int):=by omega
   have k3:(0:Int)<=(s:Int):=by omega
   have k4:(s:Int)<32:=by omega
   obtain⟨R,hR⟩:∃R,X/2^(m+1)%Y=R:=⟨_,rfl⟩;have u1:R<Y:=by rw[<-hR];exact Ni _ hy
   have HR:=J hR;rw[hR]at T;clear hR;have s4:(ax R).length<=dy.length:=by rw[<-G.out];exact a7 (by omega)
   obtain⟨Ar,cr,er,M⟩:=T.out.is (bZ R);subst er;have v:=J M;have H:=J (aO R);clear M;obtain⟨dr,b2⟩:∃dr,ax R=dr:=⟨_,rfl⟩;rw[b2]at v H s4 T⊢;clear b2;have f:w2.heap.size<=wr.heap.size:=by omega
   go_wp2_with fail
   rw[a3.out];have f7:=si Ar cr dr bit wr v.out (by omega) E;rw[H.out]at f7;refine f7.mono ?_;intro e w4 h4;obtain⟨v4,rfl,u,c⟩:=h4;have p:=J u;have d0:=J c;have h3:=c.size;have s1:=J (h5.out.below c);have b1:=J (aE c9.out c f);clear f7 u c;obtain⟨q,f4⟩:∃q,2*R+bit=q:=⟨_,rfl⟩;have t3:q<2*Y:=by omega
   rw[f4]at p;have r3:=J f4;clear f4;have n2:(ax q).length<=dy.length+1:=a8 (by
    have h1:=b8 dy d1.out.ok;rw[n.out]at h1;rw[MH];omega)
   obtain⟨A4,c4,e4,i3⟩:=p.out.is (bZ q);subst e4;have e0:=J i3;have U:=J (aO q);clear i3;obtain⟨d4,c5⟩:∃d4,ax q=d4:=⟨_,rfl⟩;have g4:=J c5;rw[c5]at e0 U n2 p⊢;clear c5;have f8:w2.heap.size<=w4.heap.size:=by omega
   have p1:=J (d1.out.below b1.out)
   go_wp2_with fail
   have o:=rA A4 A2 c4 c2 d4 dy w4 e0.out p1.out (by omega) (by omega);rw[U.out,n.out]at o;refine o.mono ?_;rintro e w5 ⟨he,a⟩;have V:=J a;have t9:=a.size;have a1:=J (s1.out.below a);have e7:=J (p.out.below a);have a4:=J (aE b1.out a f8);clear o a;have f3:=HK (P:=X/2^(m+1)) (Y:=Y) (b:=bit) hy E;have b3:=H0 X m;rw[r2.out]at b3;rw[<-b3,HR.out,r3.out]at f3;have o3:=J f3;clear f3 b3;by_cases l1:Y<=q
   ·obtain⟨t,z⟩:=o3.out.1 l1;have d3:=J t;have f5:=J z;clear t z;have q5:0<=eo (q:Int) (Y:Int):=by
     rcases MA Y q with h|h
     ·rw[jt h];decide
     rw[ju (by omega)];decide
    obtain⟨cm,o⟩:∃cm,eo (q:Int) (Y:Int)=cm:=⟨_,rfl⟩;rw[o]at he q5;subst he;clear o
    go_wp2_with fail
    have e5:=wv A4 A2 c4 c2 d4 dy w5 (e0.out.below V.out) (p1.out.below V.out) (by omega) (by omega) (by rw[U.out,n.out];exact l1);rw[U.out,n.out]at e5;refine e5.mono ?_;rintro e w6 ⟨v6,rfl,n1,Q⟩;have t2:=J n1;have t5:=Q.size;have f0:=J (a1.out.below Q);have i4:=J (aE a4.out Q (by omega));clear e5 n1 Q;have a0:j<qd.length:=by have:=D.out;omega
    obtain⟨q0,K⟩:∃q0,qd[j]=q0:=⟨_,rfl⟩;have g2:q0<4294967296:=by rw[<-K];exact N.out _ (M7 a0)
    have p2:=f0.out.cell a0;rw[K]at p2;have u2:=f0.out.free j;have q7:q0%2^(s+1)=0:=sj N.out a0 K g (m:=X/2^(m+1)/Y) (by rw[O.out,p0.out]);have t1:=J (JG q0 s g2 g q7);have q6:=J K;have t4:2^s<4294967296:=by
     have:2^s<2^32:=N7 (by decide) g;simpa using this
    clear K f2;have r1:=J (show(2:Int)^s%4294967296=((2^s:Nat):Int) by
     have e:((2^s:Nat):Int)=(2:Int)^s:=by simp
     rw[<-e];omega)
    go_wp2
    go_roundw
    case rel=>exact DivInv.set (q0:=q0) (by omega) D.out N.out f0.out O.out p0.out g a0 q6.out (by rw[f5.out];exact t2.out) (by omega) d3.out i4.out (by omega) (by rw[r1.out,t1.out]) Z
    case measure=>simp[intOf]
   obtain⟨t,z⟩:=o3.out.2 (by omega);have d3:=J t;have f5:=J z;clear t z;rw[km (show q<Y by omega)]at he;subst he;clear f2
   go_wp2
   go_roundw
   case rel=>
    refine⟨m,qd,by omega,Z,D.out,N.out,a1.out,?_,?_,a4.out,by omega⟩
    ·rw[O.out,d3.out,MH,Mt (2^m) 2,<-Mu,Mt _ 2]
    rw[f5.out];have:=e7.out;rw[<-g4.out]at this;rw[<-g4.out];exact this.base_le (by omega)
   case measure=>simp[intOf]
def oX(v:Value)(w:World):Nat:=
 match v with
 | .slice (some a) n _=>ay ((List.range n).map fun i=>match w.cell? ⟨a.block,a.off+i,none⟩with
  |some (.int _ d)=>d.toNat
  |_=>0)
 |_=>0
theorem OwnN.num{w:World}{base:Nat}{v:Value}{l:List Nat}(h:OwnN w base v l):oX v w=ay l:=by
 rcases h.2 with⟨rfl,c⟩|⟨g,a,cur,rfl,f⟩
 ·have:l=[]:=Mr c;subst this;rfl
 show ay ((List.range l.length).map fun i=>match w.cell? ⟨g,0+i,none⟩with
  |some (.int _ d)=>d.toNat
  |_=>0)=ay l
 congr 1;apply OX
 ·simp
 intro j k b;have e:=h.cell b;simp[e]
theorem nJ{a b:Nat}(e:a%2=0)(d:b%2=1):Nat.gcd (a/2) b=Nat.gcd a b:=by
 have c:Nat.Coprime 2 b:=by
  unfold Nat.Coprime;rw[P2,d];decide
 have:=c.gcd_mul_left_cancel (a/2);rw[show 2*(a/2)=a by omega]at this;exact this.symm
theorem sk{a b:Nat}(c:a%2=1)(d:b%2=0):Nat.gcd a (b/2)=Nat.gcd a b:=by
 rw[Ot,nJ d c,Ot]
theorem Df{n:Nat}(h:n≠0):∃a:0<(ax n).length,(ax n)[0]%2=n%2:=by
 have e:=fg h;refine⟨by rw[e];simp,?_⟩;have:(ax n)[0]'(by rw[e];simp)=n%4294967296:=by
  rw[List.getElem_of_eq e];rfl
 rw[this];omega
def NumIn(w wr:World)(v:Value)(n:Nat):Prop:=OwnN wr w.heap.size v (ax n)
theorem NumIn.below{w wr w':World}{v:Value}{n:Nat}(h:NumIn w wr v n)(a:Below wr.heap.size wr w'):NumIn w w' v n:=OwnN.below h a
theorem NumIn.is{w wr:World}{v:Value}{n:Nat}(h:NumIn w wr v n):∃A c,v=.slice A (ax n).length c/\IsN wr A c (ax n):=OwnN.is h (bZ n)
theorem NumIn.num{w wr:World}{v:Value}{n:Nat}(h:NumIn w wr v n):oX v wr=n:=(OwnN.num h).trans (aO n)
theorem m5{wr:World}{A:Option Addr}{c n:Nat}(h:IsN wr A c (ax n))(i:n≠0):∃b off d,A=some ⟨b,off,none⟩/\wr.cell? ⟨b,off,none⟩=some (.int .u32 (d:Nat))/\d%2=n%2/\d<4294967296/\0<(ax n).length:=by
 obtain⟨a,g⟩:=Df i;obtain⟨b,off,e,_,f⟩:=h.digit a;exact⟨b,off,(ax n)[0],e,f 0 a,g,h.ok _ (M7 a),a⟩
theorem B1{wr:World}{A:Option Addr}{c n:Nat}(h:IsN wr A c (ax n))(a:(ax n).length<=1073741822):Calls Tryz.prog 225 #[.slice A (ax n).length c] wr (NatPost (n/2) wr):=by
 have:=Fe A c (ax n) wr h a;rwa[aO]at this
theorem H1{wr:World}{A:Option Addr}{c n bit:Nat}(h:IsN wr A c (ax n))(a:(ax n).length<=1073741822)(b:bit<=1):Calls Tryz.prog 226 #[.slice A (ax n).length c,.int .u32 bit] wr (NatPost (2*n+bit) wr):=by
 have:=si A c (ax n) bit wr h a b;rwa[aO]at this
theorem JI{wr:World}{A B:Option Addr}{c d m n:Nat}(h:IsN wr A c (ax m))(b:IsN wr B d (ax n))(e:(ax m).length<=1073741822)(a:(ax n).length<=1073741822):Calls Tryz.prog 101 #[.slice A (ax m).length c,.slice B (ax n).length d] wr (BX m n wr):=by
 have:=rA A B c d (ax m) (ax n) wr h b (by omega) (by omega);rwa[aO,aO]at this
theorem KI{wr:World}{A B:Option Addr}{c d m n:Nat}(h:IsN wr A c (ax m))(e:IsN wr B d (ax n))(f:(ax m).length<=1073741822)(b:(ax n).length<=1073741822)(a:n<=m):Calls Tryz.prog 217 #[.slice A (ax m).length c,.slice B (ax n).length d] wr (BY (m-n) wr):=by
 have:=wv A B c d (ax m) (ax n) wr h e (by omega) (by omega) (by rw[aO,aO];exact a);rwa[aO,aO]at this
theorem NatPost.num{n:Nat}{w wr:World}{e:Ending}{w':World}(h:NatPost n wr e w')(c:w.heap.size<=wr.heap.size):∃v,e=.returned v/\NumIn w w' v n/\Below wr.heap.size wr w':=by
 obtain⟨v,d,b,a⟩:=h;exact⟨v,d,OwnN.base_le b c,a⟩
theorem wy{n M k:Nat}(h:n<=M)(a:M<4294967296^k):(ax n).length<=k:=a8 (NC h a)
def KJ(w:World)(X Y:Nat)(x y sh:Value)(wr:World):Prop:=∃a b s:Nat,sh=.int .i64 s/\NumIn w wr x a/\NumIn w wr y b/\0<a/\0<b/\a*2^s=X/\b*2^s=Y/\Below w.heap.size w wr
def KK(w:World)(G s k:Nat)(x y:Value)(wr:World):Prop:=∃a b:Nat,NumIn w wr x a/\NumIn w wr y b/\0<a/\(a%2=1\/b%2=1)/\Nat.gcd a b*2^s=G/\a<4294967296^k/\b<4294967296^k/\Below w.heap.size w wr
def KL(w:World)(g a0 b:Nat)(x y:Value)(wr:World):Prop:=∃a:Nat,NumIn w wr x a/\NumIn w wr y b/\0<a/\a<=a0/\(a%2=1\/b%2=1)/\Nat.gcd a b=g/\Below w.heap.size w wr
def KM(w:World)(g b0 a:Nat)(x y:Value)(wr:World):Prop:=∃b:Nat,NumIn w wr x a/\NumIn w wr y b/\0<b/\b<=b0/\Nat.gcd a b=g/\Below w.heap.size w wr
def KN(w:World)(a s:Nat)(x i:Value)(wr:World):Prop:=∃t:Nat,t<=s/\i=.int .i64 t/\NumIn w wr x (a*2^t)/\Below w.heap.size w wr
theorem rB{X a s:Nat}(b:0<a)(h:a*2^s=X)(c:a%2=0):0<a/2/\a/2*2^(s+1)=X:=by
 refine⟨by omega,?_⟩;rw[MH,Mt (2^s) 2,<-Mu,show a/2*2=a by omega,h]
theorem Ff{X a s:Nat}(b:0<a)(h:a*2^s=X):s<X:=by
 have d:s<2^s:=Nat.lt_two_pow_self;have c:1*2^s<=a*2^s:=ML _ b;omega
theorem Fg{X a s k:Nat}(b:0<a)(h:a*2^s=X)(f:X<4294967296^k):s<32*k:=by
 have d:1*2^s<=a*2^s:=ML _ b;have e:(2:Nat)^32=4294967296:=by decide
 have c:2^s<2^(32*k):=by rw[PD,e];omega
 exact(Nat.pow_lt_pow_iff_right (by decide)).1 c
theorem B2{X a s:Nat}(h:a*2^s=X):a<=X:=by
 have:a*1<=a*2^s:=Nl _ (NF (by decide));omega
theorem H2(A B:Option Addr)(ca cb:Nat)(x y:List Nat)(w:World)(hA:IsN w A ca x)(hB:IsN w B cb y)(x3:x.length<=1048576)(z5:y.length<=1048576):
  Calls Tryz.prog 174 #[.slice A x.length ca,.slice B y.length cb] w (NatPost (Nat.gcd (ay x) (ay y)) w):=by
 have HA:=J hA;have HB:=J hB;clear hA hB;obtain⟨X,hX⟩:∃X,ay x=X:=⟨_,rfl⟩;obtain⟨Y,hY⟩:∃Y,ay y=Y:=⟨_,rfl⟩;obtain⟨K,hK⟩:∃K:Nat,K=x.length+y.length:=⟨_,rfl⟩;have y5:K<=2097152:=by omega
 have q4:X<4294967296^K:=by
  rw[<-hX];exact Mj (b8 x HA.out.ok) (MR (by decide) (by omega))
 have r1:Y<4294967296^K:=by
  rw[<-hY];exact Mj (b8 y HB.out.ok) (MR (by decide) (by omega))
 have N:=J q4;have h7:=J r1;have d3:=J hX;have d2:=J hY;clear q4 r1 hX hY hK
 go_enter Tryz.func174,Tryz.ntmps174
 go_wp2_with fail
 refine(dN A ca x _ HA.out (by omega)).mono ?_;intro e w1 h1;rw[d3.out]at h1;obtain⟨v1,rfl,v,R⟩:=h1.num (L4 _);have z:=J v;have s4:=J R;have h6:=R.size;clear h1 v R
 go_wp2_with fail
 refine(dN B cb y _ (HB.out.below s4.out) (by omega)).mono ?_;intro e w2 h2;rw[d2.out]at h2;obtain⟨v2,rfl,u,I⟩:=h2.num h6;have W:=J u;have z:=J (z.out.below I);have k3:=J (aE s4.out I h6);have y6:w.heap.size<=w2.heap.size:=Ma h6 I.size;clear h2 u I;obtain⟨A1,c1,e1,c0⟩:=z.out.is;obtain⟨A2,c2,e2,b0⟩:=W.out.is;subst e1 e2;have y4:(ax X).length<=K:=a8 N.out;have x4:(ax Y).length<=K:=a8 h7.out;have z1:(ax X).length=0↔X=0:=bR;have z2:(ax Y).length=0↔Y=0:=bR;have g3:=J z1;have q9:=J z2;clear c0 b0 z1 z2;by_cases o:X=0
 ·have g1:(((ax X).length:Int)==0)=true:=by rw[beq_iff_eq];have:=g3.out.2 o;omega
  have d0:=J o;clear o
  go_wp2
  go_ret
  exact⟨_,Z,by rw[d3.out,d2.out,d0.out,PN];exact W.out,k3.out⟩
 by_cases H:Y=0
 ·have g1:(((ax X).length:Int)==0)=false:=by rw[beq_eq_false_iff_ne];intro h;exact o (g3.out.1 (by omega))
  have g2:(((ax Y).length:Int)==0)=true:=by rw[beq_iff_eq];have:=q9.out.2 H;omega
  have i0:=J H;clear H o
  go_wp2
  go_ret
  exact⟨_,Z,by rw[d3.out,d2.out,i0.out,O9];exact z.out,k3.out⟩
 have g1:(((ax X).length:Int)==0)=false:=by rw[beq_eq_false_iff_ne];intro h;exact o (g3.out.1 (by omega))
 have g2:(((ax Y).length:Int)==0)=false:=by rw[beq_eq_false_iff_ne];intro h;exact H (q9.out.1 (by omega))
 have d0:=J o;have i0:=J H;clear o H
 go_wp2
 go_loopw [5,6,7] (fun x y sh wr=>KJ w X Y x y sh wr) (fun _ _ sh _=>X-(intOf sh).toNat)
 case atStart=>exact⟨X,Y,0,Z,z.out,W.out,MS d0.out,MS i0.out,by simp,by simp,k3.out⟩
 case round=>
  obtain⟨a,b,s,rfl,r,j,ha,hb,f,l2,C⟩:=hrel;obtain⟨Aa,u8,ea,b1⟩:=r.is;obtain⟨Ab,q2,eb,c3⟩:=j.is;subst ea eb;have u2:(ax a).length<=K:=wy (B2 f) N.out;have t8:(ax b).length<=K:=wy (B2 l2) h7.out;have y3:=Fg ha f N.out;have x1:=Ff ha f;obtain⟨ba,oa,da,e1,m4,k4,i2,y0⟩:=m5 b1 (by omega);obtain⟨bb,ob,db,e2,n2,m2,g4,z3⟩:=m5 c3 (by omega);subst e1 e2;have d1:=C.size;have d4:=J r;have l5:=J j;have t1:=J b1;have t5:=J c3;have c9:=J f;have e0:=J l2;have T:=J C;have O:=J (oW da i2);have b3:=J (oW db g4);clear r j b1 c3 f l2 C;have p1:bits .and .u32 (da:Int) 1=((a%2:Nat):Int):=by rw[O.out,k4]
  have p2:bits .and .u32 (db:Int) 1=((b%2:Nat):Int):=by rw[b3.out,m2]
  by_cases o2:a%2=0/\b%2=0
  ·obtain⟨n,q⟩:=o2;rw[n]at p1;rw[q]at p2;have Q:=J n;have a9:=J q;clear n q k4 m2 O b3
   go_wp2_with fail
   refine(B1 t1.out (by omega)).mono ?_;intro e w4 L;obtain⟨v4,rfl,d,c⟩:=L.num (w:=w) d1;have D:=J d;have m:=J c;have c5:w.heap.size<=w4.heap.size:=Ma d1 c.size;clear L d c p1 p2 m4 n2
   go_wp2_with fail
   refine(B1 (t5.out.below m.out) (by omega)).mono ?_;intro e w5 h5;obtain⟨v5,rfl,l,k⟩:=h5.num (w:=w) c5;have P:=J l;have q3:=J (D.out.below k);have a4:=J (aE (aE T.out m.out d1) k c5);clear h5 l k
   go_wp2
   go_roundw
   case rel=>exact⟨a/2,b/2,s+1,by go_num,q3.out,P.out,(rB ha c9.out Q.out).1,(rB hb e0.out a9.out).1,(rB ha c9.out Q.out).2,(rB hb e0.out a9.out).2,a4.out⟩
   case measure=>simp[intOf];omega
  have HG:=J (show Nat.gcd a b*2^s=Nat.gcd X Y by rw[<-c9.out,<-e0.out,Nat.gcd_mul_right]);have a0:=J (show a%2=1\/b%2=1 by omega);have M:=J (show a<4294967296^K from NC (B2 c9.out) N.out);have U:=J (show b<4294967296^K from NC (B2 e0.out) h7.out);have q7:(a%2=1)\/(a%2=0/\b%2=1):=by omega
  obtain⟨wo,v3⟩:∃wo:World,wo=wr:=⟨_,rfl⟩;subst v3;clear o2 k4 m2 O b3;rcases q7 with f1|⟨f1,p0⟩
  all_goals
   rw[f1]at p1;try rw[p0]at p2
   go_wp2
   clear p1 p2 m4 n2
   go_loopw [5,6] (fun x y w'=>KK w (Nat.gcd X Y) s K x y w') (fun x y w'=>oX x w'+oX y w')
   case atStart=>exact⟨a,b,d4.out,l5.out,ha,a0.out,HG.out,M.out,U.out,T.out⟩
   case round=>
    obtain⟨a,b,r,j,ha,f5,hg,i5,h8,C⟩:=hrel;have d4:=J r;have l5:=J j;have a0:=J f5;have HG:=J hg;have M:=J i5;have U:=J h8;have T:=J C;have d1:=C.size;have u2:(ax a).length<=K:=a8 i5;have t8:(ax b).length<=K:=a8 h8;have r3:=J r.num;have o3:=J j.num;obtain⟨Ab,q2,eb,c3⟩:=j.is;obtain⟨Aa,u8,ea,b1⟩:=r.is;subst ea eb;clear r j f5 hg i5 h8 C b1 c3;by_cases a2:b=0
    ·have y8:((ax b).length:Int)<=0:=by have:=bR.2 a2;omega
     have n0:=J (show a*2^s=Nat.gcd X Y by have:=HG.out;rwa[a2,O9]at this);have i4:decide (0<((ax b).length:Int))=false:=by rw[decide_eq_false_iff_not];omega
     have i9:decide (0<(ax b).length)=false:=by rw[decide_eq_false_iff_not];omega
     clear a2;obtain⟨wp,j2⟩:∃wp:World,wp=wr:=⟨_,rfl⟩;subst j2
     go_wp2
     go_loopw [5,8] (fun x i w'=>KN w a s x i w') (fun _ i _=>s-(intOf i).toNat)
     case atStart=>exact⟨0,by omega,Z,by rw[Py,NQ];exact d4.out,T.out⟩
     case round=>
      obtain⟨t,ht,rfl,m1,k1⟩:=hrel;have u1:=J m1;have q0:=J k1;have s3:=k1.size;obtain⟨y2,ct,et,r0⟩:=m1.is;subst et;have t7:=J r0;have y7:(ax (a*2^t)).length<=2*K:=by
       refine a8 ?_;have h1:a*2^t<=a*2^s:=Nl _ (MR (by decide) ht);rw[n0.out]at h1;have h2:Nat.gcd X Y<=X:=PX _ (MS d0.out);have h3:4294967296^K<=4294967296^(2*K):=MR (by decide) (by omega);have L:=N.out;omega
      clear m1 k1 r0;by_cases z0:t<s
      ·go_wp2_with fail
       refine(H1 (bit:=0) t7.out (by omega) (by omega)).mono ?_;intro e w4 L;obtain⟨v4,rfl,d,c⟩:=L.num (w:=w) s3;rw[show 2*(a*2^t)+0=a*2^(t+1) by rw[MH,Nk,Mt 2,Mu]]at d;have D:=J d;have m:=J (aE q0.out c s3);clear L d c
       go_wp2
       go_roundw
       case rel=>exact⟨t+1,by omega,by go_num,D.out,m.out⟩
       case measure=>simp[intOf];omega
      obtain rfl:t=s:=by omega
      go_wp2
      go_ret
      exact⟨_,Z,by rw[d3.out,d2.out,<-n0.out];exact u1.out,q0.out⟩
    have R:0<b:=by omega
    have z9:0<(ax b).length:=by
     rcases M1 (ax b).length with h|h
     ·exact absurd (bR.1 h) a2
     exact h
    clear a2;obtain⟨g,k0⟩:∃g,Nat.gcd a b=g:=⟨_,rfl⟩;have t0:=J k0;rw[k0]at HG;clear k0;obtain⟨wp,j2⟩:∃wp:World,wp=wr:=⟨_,rfl⟩;subst j2
    go_wp2
    go_loopw [5] (fun x w'=>KL w g a b x (.slice Ab (ax b).length q2) w') (fun x w'=>oX x w')
    case atStart=>exact⟨a,d4.out,l5.out,ha,L4 _,a0.out,t0.out,T.out⟩
    case round=>
     obtain⟨p,v,j,t4,f4,V,i4,a5⟩:=hrel;have z:=J v;have f0:=J j;have q6:=J i4;have e6:=J a5;have t3:=J v.num;have f3:=a5.size;have w6:(ax p).length<=K:=wy f4 M.out;obtain⟨A1,c1,e1,c0⟩:=v.is;subst e1;obtain⟨bx,ox,dx,ex,r2,n1,h9,y1⟩:=m5 c0 (by omega);subst ex;have w0:=J c0;have f:=oW dx h9;rw[n1]at f;clear v j i4 a5 c0 n1;by_cases n:p%2=0
     ·rw[n]at f;have e9:=J (show b%2=1 by omega);have Q:=J n;clear n V
      go_wp2_with fail
      refine(B1 w0.out (by omega)).mono ?_;intro e w4 L;obtain⟨v4,rfl,d,c⟩:=L.num (w:=w) f3;have D:=J d;have m3:=J d.num;have s2:=J (f0.out.below c);have m:=J (aE e6.out c f3);clear L d c f r2
      go_wp2
      go_roundw
      case rel=>exact⟨p/2,D.out,s2.out,by have:=Q.out;omega,by omega,.inr e9.out,by rw[nJ Q.out e9.out];exact q6.out,m.out⟩
      case measure=>rw[m3.out,t3.out];omega
     have g0:p%2=1:=by omega
     rw[g0]at f;have q8:=J g0;clear n V g0;obtain⟨wq,u0⟩:∃wq:World,wq=wr:=⟨_,rfl⟩;subst u0
     go_wp2
     clear f r2
     go_loopw [6] (fun y w'=>KM w g b p (.slice (some ⟨bx,ox,none⟩) (ax p).length c1) y w') (fun y w'=>oX y w')
     case atStart=>exact⟨b,z.out,f0.out,R,L4 _,q6.out,e6.out⟩
     case round=>
      obtain⟨F,a3,u,I,f7,i9,b5⟩:=hrel;have e4:=J a3;have W:=J u;have l1:=J i9;have f9:=J b5;have v0:=J u.num;have E:=b5.size;have x0:(ax F).length<=K:=wy f7 U.out;obtain⟨A2,c2,e2,b0⟩:=u.is;subst e2;obtain⟨x2,oy,dy,ey,r4,p3,h0,z4⟩:=m5 b0 (by omega);subst ey;have i3:=J b0;have e7:=J (show IsN wr (some ⟨bx,ox,none⟩) c1 (ax p) by
       obtain⟨A',c',e,hi⟩:=a3.is;injection e with e1 e2 e3
       subst e1 e3;exact hi)
      have c4:=oW dy h0;rw[p3]at c4;clear a3 u i9 b5 b0 p3;by_cases q:F%2=0
      ·rw[q]at c4;have a9:=J q;clear q
       go_wp2_with fail
       refine(B1 i3.out (by omega)).mono ?_;intro e w4 L;obtain⟨v4,rfl,d,c⟩:=L.num (w:=w) E;have D:=J d;have m3:=J d.num;have s1:=J (e4.out.below c);have m:=J (aE f9.out c E);clear L d c c4 r4
       go_wp2
       go_roundw
       case rel=>exact⟨F/2,s1.out,D.out,by have:=a9.out;omega,by omega,by rw[sk q8.out a9.out];exact l1.out,m.out⟩
       case measure=>rw[m3.out,v0.out];omega
      have k2:F%2=1:=by omega
      rw[k2]at c4;have s9:=J k2;clear q k2
      go_wp2_with fail
      refine(JI e7.out i3.out (by omega) (by omega)).mono ?_;rintro e w4 ⟨he,c⟩;have m:=J c;have c5:=c.size;have G:w.heap.size<=w4.heap.size:=Ma E c5;have v6:=J (e4.out.below c);have w3:=J (W.out.below c);have f8:=J (e7.out.below c);have e5:=J (i3.out.below c);have f2:=J (aE f9.out c E);clear c c4 r4;by_cases v9:F<p
      ·rw[jt v9]at he;subst he
       go_wp2_with fail
       refine(KI f8.out e5.out (by omega) (by omega) (by omega)).mono ?_;rintro e w5 ⟨v5,rfl,S,k⟩;have l:NumIn w w5 v5 (p-F):=OwnN.base_le S G;have P:=J l;have i1:=J l.num;have q1:=J (w3.out.below k);have t2:=J q1.out.num;have a4:=J (aE f2.out k G);clear S l k
       go_wp2
       go_roundw
       case rel=>exact⟨F,p-F,q1.out,P.out,I,.inl s9.out,by rw[P3 (by omega),Ot,l1.out];exact HG.out,NC f7 U.out,NC (by omega) M.out,a4.out⟩
       case measure=>rw[i1.out,t2.out,r3.out,o3.out];omega
      have q5:p<=F:=by omega
      have p4:eo (p:Int) (F:Int)<=0:=by
       rcases MA p F with h|h
       ·rw[km h];decide
       rw[ju (by omega)];decide
      obtain⟨cm,s5⟩:∃cm,eo (p:Int) (F:Int)=cm:=⟨_,rfl⟩;rw[s5]at he p4;subst he;clear s5
      go_wp2_with fail
      refine(KI e5.out f8.out (by omega) (by omega) q5).mono ?_;rintro e w5 ⟨v5,rfl,S,k⟩;have l:NumIn w w5 v5 (F-p):=OwnN.base_le S G;have P:=J l;have i1:=J l.num;have o1:=J (v6.out.below k);have t9:=J o1.out.num;have a4:=J (aE f2.out k G);clear S l k
      go_wp2
      go_roundw
      case rel=>exact⟨p,F-p,o1.out,P.out,t4,.inl q8.out,by rw[P3 q5,l1.out];exact HG.out,NC f4 M.out,NC (by omega) U.out,a4.out⟩
      case measure=>rw[i1.out,t9.out,r3.out,o3.out];omega
end Go.Proofs.YtfoejfohbkmmeaaGreatDoor
