import Derived.Test.YtfoejfohbkmmeaaGreatDoorK38
set_option maxRecDepth 100000
set_option maxHeartbeats 8000000
set_option linter.defProp false
open Go.Proofs.Tryz
namespace Go.Proofs.YtfoejfohbkmmeaaGreatDoor
open Go.RowKit
open Lib renaming hid→J
def C3(t:Nat):(4294967296:Nat)^t=256^(4*t):=by
 have h:(4294967296:Nat)=256^4:=I
 rw[h,<-Tu]
def ID{l:List UInt8}{i:Nat}(b:i<=l.length):cI (l.take i)=cI l/256^(l.length-i):=by
 have h:=oJ (l.take i) (l.drop i);rw[R3,Rm]at h;have a:=iq (l.drop i);rw[Rm]at a;rw[h,Rk,U9 (Sh I),S5 a,SB]
def IE{l:List UInt8}{k:Nat}:cI (l.drop k)=cI l%256^(l.length-k):=by
 have h:=oJ (l.take k) (l.drop k);rw[R3,Rm]at h;have a:=iq (l.drop k);rw[Rm]at a;rw[h,Rk,UJ,RC a]
def LL{l:List UInt8}{t i k:Nat}(f:i+4*t=l.length)(g:k=i-4):cI ((l.drop k).take (i-k))=cI l/4294967296^t%4294967296:=by
 have b:(l.take i).length=i:=by rw[Rb];omega
 have c:cI (l.take i)=cI l/256^(4*t):=by rw[ID O,show l.length-i=4*t by omega]
 rw[<-Uq,IE,b,c,C3];have a:cI l/256^(4*t)<256^i:=by rw[<-c];have:=iq (l.take i);rwa[b]at this
 by_cases e:4<=i
 ·rw[show i-k=4 by omega]
 have d:(256:Nat)^i<=4294967296:=Q7 (Rx I (show i<=4 by omega)) I;rw[show i-k=i by omega,RC a,RC (Rh a d)]
def IF(t v:Nat):iu (t+1) v=iu t v++[v/4294967296^t%4294967296]:=by
 unfold iu;rw[List.range_succ,Sn];simp only[Sb,TD]
def LM{l:List UInt8}{t:Nat}(h:l.length<=4*t):aG (iu t (cI l))=cI l:=by
 rw[zb,C3];exact RC (Rh (iq l) (Rx I h))
def Nu(t v:Nat):Digs (iu t v):=λd a=>by
 unfold iu at a;obtain⟨q,_,rfl⟩:=Sv.1 a;exact RJ _ I
def IG{l:List UInt8}{k m:Nat}{c:UInt8}(h:l[k+m]? =some c):cI ((l.drop k).take (m+1))=cI ((l.drop k).take m)*256+c.toNat:=by
 have a:(l.drop k)[m]? =some c:=by rw[Si];exact h
 rw[List.take_add_one,a,Option.toList_some,jH]
def Pa{l:List UInt8}{k m:Nat}(a:m<=3):cI ((l.drop k).take m)<16777216:=Rh (iq _) (Q7 (Rx I (Q7 (List.length_take_le _ _) a)) I)
def pq{ty:TypeId}{w a:World}{G:Nat->Prop}{g:Nat}{us:List Value}{s c:Rdr}{n:Nat}{v:Value}(h:dU s=(n,c))(f:w.grownBy a (some g))(d:IsBlk a g ty us.toArray)(i:PT a G us c.cells)(e:us.all bR=true)(j:PT a G [v] [aY n]):∃v' b,Ending.returned v=.returned v'/\w.grownBy a (some g)/\IsBlk a g ty b.toArray/\PT a G b (dU s).2.cells/\b.all bR=true/\PT a G [v'] [aY (dU s).1]:=by
 rw[h];exact⟨v,us,Z,f,d,i,e,j⟩
def QW(w:World)(l:List UInt8)(L:Nat)(v i:Value)(w':World):Prop:=∃t,4*t<=L+3/\i=.int .i64 ((L:Int)-4*(t:Int))/\OwnN w' w.heap.size v (iu t (cI l))/\Below w.heap.size w w'
def QX(l:List UInt8)(k0 i:Nat)(w:World)(d k:Value)(w':World):Prop:=∃m,k0+m<=i/\k=.int .i64 ((k0+m:Nat):Int)/\d=.int .u32 ((cI ((l.drop k0).take m):Nat):Int)/\Below w.heap.size w w'
def Gp(s:Rdr)(hl:s.rest.length<=1073741824):CtM 135 104 s.cells [] (dU s).2.cells (aY (dU s).1):=⟨⟨_,func135,Z,Z⟩,λG w g us vs hE hG hg S c3 b5 hp=>by
 cases hp;obtain⟨q,hq⟩:∃q,bM 8192 s=q:=⟨_,Z⟩;have c4:=ie 8192 s;rw[hq]at c4;have hB:=(r5 s 8192 hl I).2;rw[hq]at hB;have hB:=J hB
 go_enter func135,ntmps135
 go_wp2_with fail
 refine(hB.out G w g us [.int .i64 (8192:Nat)] hE hG hg S c3 b5 (.sc _ .nil)).mono ?_;rintro e A ⟨v1,e5,rfl,g1,b1,p1,n1,r1⟩;have c1:=qh b1 p1;obtain⟨A1,cp,rfl,Q,H,b4,e8⟩:=I8 r1;have HP:=J (show∀n,dU s=(n,q.2)->∀v,PT A G [v] [aY n]->∃v' a9,Ending.returned v=.returned v'/\w.grownBy A (some g)/\IsBlk A g 104 a9.toArray/\PT A G a9 (dU s).2.cells/\a9.all bR=true/\PT A G [v'] [aY (dU s).1]from λn hn v hv=>pq hn g1 b1 p1 n1 hv);have o:=J g1;have X:=J p1;have f:=J b1;have u:=J n1;have e1:=J r1;have c9:=J Q;have HE:=J hE;have W:=J hG;clear g1 p1 b1 n1 hB r1 Q hE hG c3 S b5;by_cases he:q.2.err=0;rotate_left
 ·have f7:((q.2.err:Int)==0)=false:=by simp;omega
  have f8:((q.2.err:Int) !=0)=true:=by simp;omega
  have hU:dU s=(0,q.2):=by unfold dU;rw[hq,if_pos he]
  go_wp2
  go_ret
  exact HP.out 0 hU _ (bS _ _)
 have c1:A.cell? ⟨g,1,none⟩=some (.int .i64 0):=by rw[c1,he];rfl
 obtain⟨L,N⟩:∃L,q.1.length=L:=⟨_,Z⟩;rw[N]at b4 c4 H e1;have HL:=J N;by_cases Y:L=0
 ·have hU:dU s=(0,q.2):=by
   unfold dU;rw[hq,if_neg O,Rj (N.trans Y)]
  subst Y;rw[N];clear H b4 N
  go_wp2
  go_loopw [4,5] (λv i wr=>v=.slice none 0 0/\i=.int .i64 0/\wr=A) (λ_ _ _=>0)
  case atStart=>exact⟨Z,Z,Z⟩
  case round=>
   obtain⟨rfl,rfl,rfl⟩:=hrel
   go_wp2_with fail
   refine(dZ none 0 [] _ ⟨At.nil _ _ _,λ_=>⟨Z,Z⟩,Q3 _,I,λd hd=>by cases hd⟩ I).mono ?_;rintro e w3 ⟨v3,rfl,y,j⟩;have HQ:=J (pq hU (jp o.out (sX j)) (f.out.below j f.out.lt) (X.out.later j) u.out (fe (n:=0) (OkG.later (OkG.grown W.out o.out f.out u.out) j) y.isD));clear y j
   go_wp2
   go_ret
   exact HQ.out
 obtain⟨c,tl,a4⟩:∃c t,q.1=c::t:=by
  cases h:q.1 with
  |nil=>rw[h]at N;exact absurd N.symm Y
  |cons c t=>exact⟨c,t,Z⟩
 obtain⟨b,off,rfl,hb,a3⟩:=c9.out (by simp[bZ];omega);have d0:=J a3;have b0:=J hb;have cc:A.cell? ⟨b,off,none⟩=some (.int .u8 (c.toNat:Nat)):=by
  have:=a3 0 (.int .u8 (c.toNat:Nat)) (by rw[a4];rfl);exact this
 rw[N];clear H a3 hb N;have f9:(0:Int)<(L:Int):=O
 by_cases a2:c.toNat=0
 ·have hU:dU s=(0,⟨[],2⟩):=by unfold dU;rw[hq,if_neg O,a4];exact if_pos a2
  rw[a2]at cc
  go_wp2_with fail
  refine((nQ q.2.rest q.2.err 2).2 G A g e5 [.int .i64 (2:Nat)] (HE.out.grown o.out) (OkG.grown W.out o.out f.out u.out) hg f.out X.out u.out (.sc _ .nil)).mono ?_;rintro e w2 ⟨v2,g4,rfl,g2,b2,p2,n2,r2⟩;have c2:w2.cell? ⟨g,1,none⟩=some (.int .i64 2):=qh (s:=⟨[],2⟩) b2 p2;have HQ:=J (pq hU (jp o.out g2) b2 p2 n2 (bS _ _:PT w2 G [.slice none 0 0] [aY 0]));clear g2 b2 p2 n2 r2
  go_wp2
  go_ret
  exact HQ.out
 have hU:dU s=(cI q.1,q.2):=by unfold dU;rw[hq,if_neg O,a4];exact if_neg a2
 have g0:((c.toNat:Int)==0)=false:=by simp;omega
 go_wp2
 go_loopw [4,5] (λv i wr=>QW A q.1 L v i wr) (λ_ i _=>(intOf i).toNat)
 case atStart=>exact⟨0,O,F,OwnN.nil _ _,Below.refl _ _⟩
 case round=>
  obtain⟨t,ht,rfl,a,a1⟩:=hrel;have B:=J a;have V:=J a1;have P:=a1.size;clear a a1;by_cases f3:4*t<L
  ·obtain⟨i,hi⟩:∃i,L-4*t=i:=⟨_,Z⟩;rw[show(L:Int)-4*(t:Int)=(i:Int) by omega];have e9:(0:Int)<(i:Int):=O
   obtain⟨U,f0⟩:∃k,i-4=k:=⟨_,Z⟩;have q1:IntKind.i64.wrap ((i:Int)-4)=(i:Int)-4:=by rw[RZ];omega
   go_wp2
   go_loopw [6,7] (λd k wi=>QX q.1 U i wr d k wi) (λ_ k _=>i-(intOf k).toNat)
   case atStart=>exact⟨0,O,congrArg _ O,by simp[cI],Below.refl _ _⟩
   case round=>
    rename World=>wi
    obtain⟨m,hm,rfl,rfl,a0⟩:=hrel;obtain⟨D,hD⟩:∃D,cI ((q.1.drop U).take m)=D:=⟨_,Z⟩;obtain⟨r,E⟩:∃r,U+m=r:=⟨_,Z⟩;rw[hD,E];have HD:=J hD;have d3:=J E;have M:=J a0;have e4:=a0.size;clear a0;by_cases f2:r<i
    ·have e6:D<16777216:=by rw[<-hD];exact Pa O
     obtain⟨x,hx⟩:∃x,q.1[U+m]? =some x:=⟨_,Q2 (by rw[HL.out];omega)⟩;have f4:x.toNat<256:=x.toNat_lt;have cb:wi.cell? ⟨b,off+r,none⟩=some (.int .u8 (x.toNat:Nat)):=by
      have h1:(bZ q.1)[U+m]? =some (.int .u8 (x.toNat:Nat)):=by
       unfold bZ;rw[RK,hx];rfl
      have h2:=d0.out _ _ h1;rw[E]at h2;have h3:=(V.out.cell (p:=⟨b,off+r,none⟩) b0.out).trans h2;exact(M.out.cell (p:=⟨b,off+r,none⟩) (Rh b0.out P)).trans h3
     have HX:=J hx;have q3:IntKind.u32.wrap (x.toNat:Int)=(x.toNat:Int):=by rw[SU];omega
     have q4:IntKind.u32.wrap ((D:Int)*256)=((D*256:Nat):Int):=by rw[SU];omega
     have q5:bits .or .u32 ((D*256:Nat):Int) (x.toNat:Int)=((D*256+x.toNat:Nat):Int):=by
      have h1:=tK .u32 32 I (λn h0 h1=>by rw[SU];omega) (D*256) x.toNat O O;have h2:(D*256|||x.toNat)=D*256+x.toNat:=by
       have h3:=Nat.two_pow_add_eq_or_of_lt (i:=8) (show x.toNat<2^8 by omega) D;rw[Rk D 256];exact h3.symm
      rw[h1,h2]
     have q6:IntKind.i64.wrap ((r:Int)+1)=(r:Int)+1:=by rw[RZ];omega
     clear hx hD E hm
     go_wp2
     rw[show(D:Int)*256=((D*256:Nat):Int) by omega,q5];have f1:=d3.out;refine⟨⟨m+1,O,?_,?_,M.out⟩,by simp[intOf];omega⟩
     ·rw[show U+(m+1)=r+1 by omega];rfl
     rw[IG HX.out,HD.out]
    obtain rfl:r=i:=O
    have a5:D=cI q.1/4294967296^t%4294967296:=by
     rw[<-LL (l:=q.1) (t:=t) (i:=r) (k:=U) (by rw[HL.out];omega) O,<-HD.out,show r-U=m by omega]
    have e7:D<4294967296:=by rw[a5];exact RJ _ I
    have z:(iu t (cI q.1)).length=t:=iE t _;have c5:A.heap.size<=wi.heap.size:=Q7 P e4;have HO:=J (B.out.below M.out);have q7:IntKind.i64.wrap ((r:Int)-4)=(r:Int)-4:=by rw[RZ];omega
    have d1:=J a5;clear hD E hm a5 z;have z:(iu t (cI q.1)).length<=1073741823:=by rw[iE];omega
    go_wp2_with (at_builtin;refine gH A.heap.size _ (iu t (cI q.1)) _ D (.tmp 55) (.tmp 57) Z Z Z Z HO.out Z z c5 ?_;intro v2 w2 K T;have d4:=J K;have e3:=J T;clear K T)
    refine⟨⟨t+1,O,congrArg _ O,?_,V.out.trans ((M.out.mono P).trans e3.out.below)⟩,by simp[intOf];omega⟩;rw[IF,<-d1.out];exact d4.out
  have a:=B.out;obtain⟨R,hR⟩:∃R,iu t (cI q.1)=R:=⟨_,Z⟩;have hv:aG R=cI q.1:=by rw[<-hR];exact LM (by rw[HL.out];omega)
  have z:R.length<=1073741823:=by rw[<-hR,iE];omega
  have c0:Digs R:=by rw[<-hR];exact Nu t _
  rw[hR]at a;clear hR B;have HV:=J hv;obtain⟨A2,c2,e2,b3⟩:=a.is c0;subst e2;have d2:=J b3;have e0:=J z;have g3:¬(0:Int)<(L:Int)-4*(t:Int):=O
  clear hv b3 a c0 z
  go_wp2_with fail
  refine(dZ A2 c2 R _ d2.out e0.out).mono ?_;rintro e w3 ⟨v3,rfl,y,j⟩;rw[HV.out]at y;have C:=aL V.out j P;have HQ:=J (pq hU (jp o.out (sX C)) (f.out.below C f.out.lt) (X.out.later C) u.out (fe (OkG.later (OkG.grown W.out o.out f.out u.out) C) y.isD));clear y j C
  go_wp2
  go_ret
  exact HQ.out⟩
def fi(o:Option Rat):(wQ o).plain=true:=rfl
def Pb(s:Rdr)(A:s.rest.length<=1073741824):CtM 119 184 [.sl (ak s.rest),nI s.err] [] (d7 s).2.cells (wQ (d7 s).1):=by
 obtain⟨k,j⟩:∃q,eL 1 s=q:=⟨_,Z⟩;obtain⟨a,p⟩:∃q,dU k.2=q:=⟨_,Z⟩;obtain⟨b,w⟩:∃q,dU a.2=q:=⟨_,Z⟩;have y:=rV 1 s;have v:=rW k.2;have u:=mM k.2;have x:=mM a.2;rw[j]at y;rw[p]at v u;rw[w]at x;refine CtM.of (n:=46) func119 Z Z Z Z Z λw0 G0 z=>?_
 refine X 1 Z<|C<|ax 1 Z<|bm (r:=.sl (ak k.1)) (bs':=[(184,[.sl (ak k.2.rest),nI (k.2.err)]),(65,ml)]) Z Z Z Z Z Z (j▸N4 s 1 O0) Z Z Z Z<|Y 1 Z<|H<|C<|M 1 (t:=.box 0 0) Z (bD Z Z)<|aI 2 Z Z Zy (B (od (k.2.err) 0))<|E<|ay Z (λh=>?_) (λh=>?_)
 ·refine H ?_;have d:d7 s=(none,⟨k.2.rest,k.2.err⟩):=by unfold d7;rw[j,if_pos h]
  refine eh 2 Z<|aQ<|⟨⟨.inr Z,_,.cons (co Z Z aH Z) .nil,kq d,fi _⟩,nP d Z,Z⟩
 obtain⟨c,m⟩:∃c,k.1=[c]:=by rw[<-j];exact C1 (by rw[j];omega)
 have l:k.1[0]? =some c:=by rw[m];rfl
 have o:d7 s=if 1<c.toNat then(none,⟨[],2⟩)else if b.2.err≠0 then(none,b.2)else if fh (decide (c.toNat=1)) a.1 b.1 then(some (eK (decide (c.toNat=1)) a.1 b.1),b.2)else(none,⟨[],2⟩):=by
  unfold d7;rw[j,p,w,if_neg h,m];rfl
 refine ar<|H<|C<|M 1 (t:=.ref [.sc (.int .u8 ((c.toNat:Nat):Int))]) Z (aO (.sc (.int .u8 ((c.toNat:Nat):Int))) Z aJ Z Z Z (dR l) (aP _) Z)<|aI 1 Z Z Zy (B (nZ c.toNat 1))<|E<|ay Z (λf=>?_) (λf=>?_)
 ·refine H ?_;have d:d7 s=(none,⟨[],2⟩):=by rw[o,if_pos f]
  refine am<|ax 1 Z<|bm (r:=.tup []) (bs':=[(184,[.sl (ak []),nI 2]),(65,ml)]) Z Z Z Z Z Z (sU k.2.rest k.2.err 2) Z Z Z Z<|E<|X 2 Z<|aQ<|⟨⟨.inr Z,_,.cons (co Z Z aH Z) .nil,kq d,fi _⟩,nP d Z,Z⟩
 refine ar<|C<|ax 1 Z<|bm (r:=aY a.1) (bs':=[(184,[.sl (ak a.2.rest),nI (a.2.err)]),(65,ml)]) Z Z Z Z Z Z (p▸N5 k.2 O0) Z Z Z Z<|Y 1 Z<|C<|ax 1 Z<|bm (r:=aY b.1) (bs':=[(184,[.sl (ak b.2.rest),nI (b.2.err)]),(65,ml)]) Z Z Z Z Z Z (w▸N5 a.2 O0) Z Z Z Z<|Y 1 Z<|H<|C<|M 1 (t:=.box 0 0) Z (bD Z Z)<|aI 2 Z Z Zy (B (od (b.2.err) 0))<|E<|ay Z (λg=>?_) (λg=>?_)
 ·refine H ?_;have d:d7 s=(none,⟨b.2.rest,b.2.err⟩):=by rw[o,if_neg f,if_pos g]
  refine eh 2 Z<|aQ<|⟨⟨.inr Z,_,.cons (co Z Z aH Z) .nil,kq d,fi _⟩,nP d Z,Z⟩
 refine ar<|C<|M 1 (t:=.ref [.sc (.int .u8 ((c.toNat:Nat):Int))]) Z (aO (.sc (.int .u8 ((c.toNat:Nat):Int))) Z aJ Z Z Z (dR l) (aP _) Z)<|aI 1 Z Z Zy (B (gL c.toNat 1))<|Y 5 Z<|H<|C<|M 1 Z (D Z (E4 _ a.1 b.1 O0 O0) Z Z)<|M 0 (t:=bT (!(fh (decide (c.toNat=1)) a.1 b.1))) Z (dm Z Z Zy)<|E<|aK Z (λi=>?_) (λi=>?_)
 ·refine H ?_;have e:fh (decide (c.toNat=1)) a.1 b.1=false:=by simpa using i
  have d:d7 s=(none,⟨[],2⟩):=by rw[o,if_neg f,if_neg g,e];rfl
  refine am<|ax 1 Z<|bm (r:=.tup []) (bs':=[(184,[.sl (ak []),nI 2]),(65,ml),(65,[bT (decide (c.toNat=1)),aY a.1,aY b.1])]) Z Z Z Z Z Z (sU b.2.rest b.2.err 2) Z Z Z Z<|E<|X 2 Z<|aQ<|⟨⟨.inr Z,_,.cons (co Z Z aH Z) .nil,kq d,fi _⟩,nP d Z,Z⟩
 refine ar<|H ?_;have e:fh (decide (c.toNat=1)) a.1 b.1=true:=by simpa using i
 have d:d7 s=(some (eK (decide (c.toNat=1)) a.1 b.1),⟨b.2.rest,b.2.err⟩):=by rw[o,if_neg f,if_neg g,e];rfl
 refine eh 2 Z<|aQ<|⟨⟨.inr Z,_,.cons (co Z Z aH Z) .nil,(qg e).trans (kq d),fi _⟩,nP d Z,Z⟩
def IH(ng:Bool)(n d:Nat)(b:(aD n).length<=1048576)(a:(aD d).length<=1048576):Ct 48 [iC ng n d] (dw (eK ng n d)):=by
 have h:=fH ⟨ng,aD n,aD d⟩ ⟨ck _,ck _,b,a⟩;unfold Rq.q at h;rw[aW,aW]at h;exact h
def E5(ng:Bool)(n d:Nat):((ng==decide ((eK ng n d).num<0)&&decide (n=(eK ng n d).num.natAbs))&&decide (d=(eK ng n d).den))=fh ng n d:=by
 unfold fh;by_cases b:d=0
 ·subst b;rw[kQ];simp
 by_cases a:n=0
 ·subst a;rw[kP];cases ng<;>simp[b]<;>exact decide_eq_decide.2 T1
 obtain⟨c,e,f⟩:=oW ng (RR a) (RR b);rw[c,e,f,if_neg a,TE];simp only[Q9,beq_self_eq_true,true_and,decide_eq_true_eq,ne_eq,b,not_false_eq_true];have k:=T0 d (RR a);constructor
 ·rintro⟨g,_⟩;have i:=TB (UC n d);rw[<-g]at i;have j:n*Nat.gcd n d=n*1:=O
  exact UX (RR a) j
 intro h;rw[h,TV,TV];exact⟨Z,Z⟩
def II(ng:Bool)(n d:Nat)(q:Rat)(e:(aD n).length<=1048576)(c:(aD d).length<=1048576)(b:Fit 1048576 q):Ct 45 [iC ng n d,dw q] (bT ((ng==decide (q.num<0)&&decide (n=q.num.natAbs))&&decide (d=q.den))):=by
 refine Ct.of (n:=24) func45 Z Z Z Z Z λw0 G0=>?_
 refine X 3 Z<|C<|M 4 (t:=bT (ng==(decide (q.num<0)))) Z (aC Z Z Z Zy)<|ax 1 Z<|N Z Z Z Z (λa=>aq Z Z cL Z)<|N Z Z Z Z (λa=>av Z (if_pos a) Z bE Z)<|N Z Z Z Z (λa=>aq Z Z cL Z)<|N Z Z Z Z (λa=>av Z (if_pos a) Z bE Z)<|N Z Z Z Z (λa=>D Z (rz _ _ e b.num) (dN (if_pos a) (dN (if_pos a) Z)) Z)<|M 0 Z (cH Z Z Z Z)<|ax 1 Z<|N Z Z Z Z (λa=>aq Z Z b8 Z)<|N Z Z Z Z (λa=>av Z (if_pos a) Z bE Z)<|N Z Z Z Z (λa=>aq Z Z b8 Z)<|N Z Z Z Z (λa=>av Z (if_pos a) Z bE Z)<|N Z Z Z Z (λa=>D Z (rz _ _ c b.den) (dN (if_pos a) (dN (if_pos a) Z)) Z)<|M 0 Z (cH Z Z Z Z)<|Y 1 Z<|aM ⟨Z,Z,Z⟩ Z
def IJ(ng:Bool)(n d:Nat)(c:(aD n).length<=1048576)(b:(aD d).length<=1048576):Ct 136 [iC ng n d] (bT (fh ng n d)):=by
 obtain⟨q,a⟩:∃q,eK ng n d=q:=⟨_,Z⟩;have e:Fit 1048576 q:=by
  have h:=(show(⟨ng,aD n,aD d⟩:Rq).Ok 1048576 from⟨ck _,ck _,c,b⟩).fit I;unfold Rq.q at h;rw[aW,aW,a]at h;exact h
 refine Ct.of (n:=7) func136 Z Z Z Z Z λw0 G0=>?_
 refine X 2 Z<|H<|cB (fu:=5) _ [.agg [bT ng,aY n,aY d],.agg [bT ng,aY n,aY d],.agg (bj q),bT (fh ng n d),bT (fh ng n d)] U Z Z U Z ?_ ?_
 ·refine Chain.op Z (aN Z Z Z aH Z Z)<|Chain.op Z (aN Z Z Z aH Z Z)<|Chain.op Z (D Z (by rw[<-a];exact IH ng n d c b) Z Z)<|Chain.op Z (D Z (by have h:=II ng n d q c b e;rw[<-a,E5]at h;rw[<-a];exact h) Z Z)<|Chain.op Z (bN Z Z)<|Chain.nil
 exact aM ⟨Z,Z,Z⟩ Z
def Pc(s:Rdr)(W:s.rest.length<=1073741824):CtM 72 104 [.sl (ak s.rest),.sc (.int .i64 ((s.err:Nat):Int))] [] (d7 s).2.cells (wQ (d7 s).1):=by
 obtain⟨k,x⟩:∃q,eL 1 s=q:=⟨_,Z⟩;obtain⟨a,z⟩:∃q,dU k.2=q:=⟨_,Z⟩;obtain⟨b,A⟩:∃q,dU a.2=q:=⟨_,Z⟩;have R:=rV 1 s;have P:=rW k.2;have M:=mM k.2;have Q:=mM a.2;rw[x]at R;rw[z]at P M;rw[A]at Q;obtain⟨c,G⟩:∃c,k.1.headD 0=c:=⟨_,Z⟩;have p:k.2.err=0->k.1=[c]:=λh=>by
  obtain⟨d,S⟩:=C1 (s:=s) (by rw[x];exact h);rw[x]at S;rw[S]at G⊢;rw[<-G];rfl
 have C:k.2.err=0->k.1[0]? =some c:=λh=>by rw[p h];rfl
 have L:k.2.err≠0->d7 s=(none,k.2):=λh=>by unfold d7;rw[x,if_pos h]
 have o:k.2.err=0->d7 s=if 1<c.toNat then(none,⟨[],2⟩)else if b.2.err≠0 then(none,b.2)else if fh (decide (c.toNat=1)) a.1 b.1 then(some (eK (decide (c.toNat=1)) a.1 b.1),b.2)else(none,⟨[],2⟩):=λh=>by
  unfold d7;rw[x,z,A,if_neg O,p h];rfl
 refine CtM.of (n:=46) func72 Z Z Z Z Z λw0 G0 V=>?_
 refine H<|am<|AZ (b:=1) (bs':=[(104,[.sl (ak s.rest),.sc (.int .i64 ((s.err:Nat):Int))]),(65,ml)]) Z Z Z Z gZ Z Z Z Z<|E<|H<|am<|bW (t:=.box 0 0) Z Z Z (K Z Z)<|bm (r:=.sl (ak k.1)) (bs':=[(104,[.sl (ak k.2.rest),.sc (.int .i64 ((k.2.err:Nat):Int))]),(65,ml)]) Z Z Z Z Z Z (x▸Lv s 1 O) Z Z Z Z<|bW (t:=.sl (ak k.1)) Z Z Z (bN Z Z)<|E<|H<|H<|am<|bW (t:=.box 0 0) Z Z Z (K Z Z)<|bW (t:=.box 0 0) Z Z Z (bD Z Z)<|bW (t:=.box 0 1) Z Z Z (aq Z Z pO Z)<|bW (t:=.sc (.int .i64 ((k.2.err:Nat):Int))) Z Z Z (av Z Z Z wV Z)<|bW (t:=.sc (.bool (decide (k.2.err=0)))) Z Z Z (aj (aC Z Z Z Zy) (B (gL (k.2.err) 0)))<|bW (t:=.sc (.bool (decide (k.2.err=0)))) Z Z Z (K Z Z)<|N (t:=.sl (ak k.1)) Z Z Z Z (λu=>K Z Z)<|N (t:=.ref [.sc (.int .u8 ((c.toNat:Nat):Int))]) Z Z Z Z (λu=>aO (.sc (.int .u8 ((c.toNat:Nat):Int))) Z aJ (if_pos u) Z Z (dR (C (of_decide_eq_true u))) (aP _) Z)<|N (t:=.sc (.int .u8 ((c.toNat:Nat):Int))) Z Z Z Z (λu=>bi Z (if_pos u) jG Z)<|N (t:=.sc (.bool (decide (1<c.toNat)))) Z Z Z Z (λu=>aj (aC Z (if_pos u) Z (λ_=>rfl)) (B (nZ c.toNat 1)))<|bW (t:=.sc (.bool ((decide (k.2.err=0))&&(decide (1<c.toNat))))) Z Z Z (fJ Z Z (λJ=>(if_pos J).trans (B (by rw[J];rfl))) (λJ=>(B (by rw[J];rfl))))<|E<|aK (b:=(decide (k.2.err=0))&&(decide (1<c.toNat))) Z (λg=>?_) (λg=>?_)
 ·rw[Q9]at g;have j:d7 s=(none,⟨[],2⟩):=by rw[o (of_decide_eq_true g.1),if_pos (of_decide_eq_true g.2)]
  refine am<|bW (t:=.box 0 0) Z Z Z (K Z Z)<|bm (r:=.tup []) (bs':=[(104,[.sl (ak []),.sc (.int .i64 ((2:Nat):Int))]),(65,ml)]) Z Z Z Z Z Z (nQ k.2.rest k.2.err 2) Z Z Z Z<|E<|H<|am<|bW (t:=.box 0 0) Z Z Z (K Z Z)<|bm (r:=aY 0) (bs':=[(104,[.sl (ak []),.sc (.int .i64 ((2:Nat):Int))]),(65,ml)]) Z Z Z Z Z Z (by have h:=Gp ⟨[],2⟩ F;rw[mI I]at h;exact h) Z Z Z Z<|bW (t:=aY 0) Z Z Z (bN Z Z)<|E<|H<|am<|bW (t:=.box 0 0) Z Z Z (K Z Z)<|bm (r:=aY 0) (bs':=[(104,[.sl (ak []),.sc (.int .i64 ((2:Nat):Int))]),(65,ml)]) Z Z Z Z Z Z (by have h:=Gp ⟨[],2⟩ F;rw[mI I]at h;exact h) Z Z Z Z<|bW (t:=aY 0) Z Z Z (bN Z Z)<|E<|H<|H<|am<|bW (t:=.box 0 0) Z Z Z (K Z Z)<|bW (t:=.box 0 0) Z Z Z (bD Z Z)<|bW (t:=.box 0 1) Z Z Z (aq Z Z pO Z)<|bW (t:=.sc (.int .i64 ((2:Nat):Int))) Z Z Z (av Z Z Z wV Z)<|bW (t:=.sc (.bool (decide (2≠0)))) Z Z Z (aj (aC Z Z Z Zy) (B (od 2 0)))<|E<|aK (b:=decide (2≠0)) Z (λi=>?_) (λi=>?_)
  ·replace i:=of_decide_eq_true i;refine H<|am<|bW (t:=.agg ml) Z Z Z (f5 Z OF Z Z Z)<|A5 (bs':=[(104,[.sl (ak []),.sc (.int .i64 ((2:Nat):Int))]),(65,ml)]) Z Z Z Z Z Z Z Z Z d8 Z Z Z<|E<|aQ<|⟨⟨.inr Z,_,.cons ⟨_,_,_,_,Z,Z,.inl ⟨_,aH,Z,Z⟩⟩ .nil,kq j,fi _⟩,nP j Z,Z⟩
  replace i:=of_decide_eq_false i;exact absurd I i
 have w:k.2.err=0->¬1<c.toNat:=λT U=>by rw[decide_eq_true T,decide_eq_true U]at g;cases g
 refine ar<|H<|am<|bW (t:=.box 0 0) Z Z Z (K Z Z)<|bm (r:=aY a.1) (bs':=[(104,[.sl (ak a.2.rest),.sc (.int .i64 ((a.2.err:Nat):Int))]),(65,ml)]) Z Z Z Z Z Z (z▸Gp k.2 O) Z Z Z Z<|bW (t:=aY a.1) Z Z Z (bN Z Z)<|E<|H<|am<|bW (t:=.box 0 0) Z Z Z (K Z Z)<|bm (r:=aY b.1) (bs':=[(104,[.sl (ak b.2.rest),.sc (.int .i64 ((b.2.err:Nat):Int))]),(65,ml)]) Z Z Z Z Z Z (A▸Gp a.2 O) Z Z Z Z<|bW (t:=aY b.1) Z Z Z (bN Z Z)<|E<|H<|H<|am<|bW (t:=.box 0 0) Z Z Z (K Z Z)<|bW (t:=.box 0 0) Z Z Z (bD Z Z)<|bW (t:=.box 0 1) Z Z Z (aq Z Z pO Z)<|bW (t:=.sc (.int .i64 ((b.2.err:Nat):Int))) Z Z Z (av Z Z Z wV Z)<|bW (t:=.sc (.bool (decide (b.2.err≠0)))) Z Z Z (aj (aC Z Z Z Zy) (B (od (b.2.err) 0)))<|E<|aK (b:=decide (b.2.err≠0)) Z (λe=>?_) (λe=>?_)
 ·replace e:=of_decide_eq_true e;have j:d7 s=(none,⟨b.2.rest,b.2.err⟩):=by
   by_cases m:k.2.err=0
   ·rw[o m,if_neg (w m),if_pos e]
   rw[L m,<-A,<-z,mI m,mI m]
  refine H<|am<|bW (t:=.agg ml) Z Z Z (f5 Z OF Z Z Z)<|A5 (bs':=[(104,[.sl (ak b.2.rest),.sc (.int .i64 ((b.2.err:Nat):Int))]),(65,ml)]) Z Z Z Z Z Z Z Z Z d8 Z Z Z<|E<|aQ<|⟨⟨.inr Z,_,.cons ⟨_,_,_,_,Z,Z,.inl ⟨_,aH,Z,Z⟩⟩ .nil,kq j,fi _⟩,nP j Z,Z⟩
 replace e:=of_decide_eq_false e;have l:k.2.err=0:=Decidable.byContradiction λm=>by rw[<-A,<-z,mI m,mI m]at e;exact e m
 have y:=e;refine ar<|H<|am<|bW (t:=.sl (ak k.1)) Z Z Z (K Z Z)<|bW (t:=.ref [.sc (.int .u8 ((c.toNat:Nat):Int))]) Z Z Z (aO (.sc (.int .u8 ((c.toNat:Nat):Int))) Z aJ Z Z Z (dR (C l)) (aP _) Z)<|bW (t:=.sc (.int .u8 ((c.toNat:Nat):Int))) Z Z Z (bi Z Z jG Z)<|bW (t:=.sc (.bool (decide (c.toNat=1)))) Z Z Z (aj (aC Z Z Z Zy) (B (gL c.toNat 1)))<|bW (t:=aY a.1) Z Z Z (K Z Z)<|bW (t:=aY b.1) Z Z Z (K Z Z)<|bW (t:=.agg [.sc (.bool (decide (c.toNat=1))),aY a.1,aY b.1]) Z Z Z (f5 Z OF Z Z Z)<|AZ (b:=2) (bs':=[(104,[.sl (ak b.2.rest),.sc (.int .i64 ((b.2.err:Nat):Int))]),(65,ml),(65,ml)]) Z Z Z Z gZ Z Z Z Z<|A5 (bs':=[(104,[.sl (ak b.2.rest),.sc (.int .i64 ((b.2.err:Nat):Int))]),(65,ml),(65,[.sc (.bool (decide (c.toNat=1))),aY a.1,aY b.1])]) Z Z Z Z Z Z Z Z Z d8 Z Z Z<|E<|H<|H<|am<|bW (t:=.agg [.sc (.bool (decide (c.toNat=1))),aY a.1,aY b.1]) Z Z Z (aN Z Z Z aH Z Z)<|bW (t:=.sc (.bool (fh (decide (c.toNat=1)) a.1 b.1))) Z Z Z (D Z (IJ _ a.1 b.1 O O) Z Z)<|bW (t:=.sc (.bool (!(fh (decide (c.toNat=1)) a.1 b.1)))) Z Z Z (dm Z Z Zy)<|E<|aK (b:= !(fh (decide (c.toNat=1)) a.1 b.1)) Z (λv=>?_) (λv=>?_)
 ·have f:fh (decide (c.toNat=1)) a.1 b.1=false:=by simpa using v
  have j:d7 s=(none,⟨[],2⟩):=by rw[o l,if_neg (w l),if_neg y,f];rfl
  refine H<|am<|bW (t:=.box 0 0) Z Z Z (K Z Z)<|bm (r:=.tup []) (bs':=[(104,[.sl (ak []),.sc (.int .i64 ((2:Nat):Int))]),(65,ml),(65,[.sc (.bool (decide (c.toNat=1))),aY a.1,aY b.1])]) Z Z Z Z Z Z (nQ b.2.rest b.2.err 2) Z Z Z Z<|E<|H<|am<|bW (t:=.agg ml) Z Z Z (f5 Z OF Z Z Z)<|A5 (bs':=[(104,[.sl (ak []),.sc (.int .i64 ((2:Nat):Int))]),(65,ml),(65,[.sc (.bool (decide (c.toNat=1))),aY a.1,aY b.1])]) Z Z Z Z Z Z Z Z Z d8 Z Z Z<|E<|aQ<|⟨⟨.inr Z,_,.cons ⟨_,_,_,_,Z,Z,.inl ⟨_,aH,Z,Z⟩⟩ .nil,kq j,fi _⟩,nP j Z,Z⟩
 have f:fh (decide (c.toNat=1)) a.1 b.1=true:=by simpa using v
 have j:d7 s=(some (eK (decide (c.toNat=1)) a.1 b.1),⟨b.2.rest,b.2.err⟩):=by rw[o l,if_neg (w l),if_neg y,f];rfl
 refine ar<|H<|am<|bW (t:=.agg [.sc (.bool (decide (c.toNat=1))),aY a.1,aY b.1]) Z Z Z (aN Z Z Z aH Z Z)<|A5 (bs':=[(104,[.sl (ak b.2.rest),.sc (.int .i64 ((b.2.err:Nat):Int))]),(65,[.sc (.bool (decide (c.toNat=1))),aY a.1,aY b.1]),(65,[.sc (.bool (decide (c.toNat=1))),aY a.1,aY b.1])]) Z Z Z Z Z Z Z Z Z d8 Z Z Z<|E<|aQ<|⟨⟨.inr Z,_,.cons ⟨_,_,_,_,Z,Z,.inl ⟨_,aH,Z,Z⟩⟩ .nil,(qg f).trans (kq j),fi _⟩,nP j Z,Z⟩
def IK(l:List Tp):l.flatMap CV=l.flatMap gz:=by
 have:CV=gz:=funext λt=>by unfold CV gz;rw[LH]
 rw[this]
def IL(x:Rq)(e:x.Ok 262144):Ct 59 [x.tree] (.sl (ak (oI x.q))):=by
 obtain⟨q,b⟩:∃q,x.q=q:=⟨_,Z⟩;have c:Fit 262144 q:=by rw[<-b];exact e.fit I1
 rw[b];refine Ct.of (n:=21) func59 Z Z Z Z Z λw0 G0=>?_
 refine C<|M 1 (t:=.sl []) Z (bz (.inr Z) bS)<|E<|H ?_;have f:=pp q.num.natAbs;have g:=pp q.den;have h:=c.num;have l:=c.den;have m:=gj (ig q.num.natAbs) O0;have o:=gj (ig q.den) O0;refine am<|M 1 (t:=.agg (bj q)) Z (D Z (by rw[<-b];exact fH x (e.mono I1)) Z Z)<|Y 2 Z<|C<|rQ (v:=.int .u8 0) (k:=0) (rs':=[some ⟨5,1,ak [0],true⟩]) Z Z Z Z aJ aZ dd Z Z Z Z Z<|Y 1 Z<|H<|X 2 Z<|ay Z (λa=>?_) (λa=>?_)
 ·refine am<|M 1 (t:=.elp 0 0) Z (eS (j:=0) Z aJ Z Z Z Z Z I1 (ST _))<|jc (j:=0) (rs':=[some ⟨5,1,ak [1],true⟩]) Z Z Z Z Z F0 I1 Z Z Z Z Z ky Z Z<|E<|H<|eM (sl':=[(0,.agg (gK x)),(1,.box 0 0),(2,.sl []),(3,.box 1 0),(4,.own 0),(9,bT (decide (q.num<0)))]) ⟨Z,⟨Z,⟨Z,⟨Z,⟨Z,⟨Z,trivial⟩⟩⟩⟩⟩⟩<|Ph (fu:=4) [some 12,some 13,some 14,some 15,some 16,some 17,some 18,some 19,some 20,some 2] [4,8] [.own 0,.box 1 1,aY q.num.natAbs,.sl (ak (em (ig q.num.natAbs))),.own 0,.box 1 2,aY q.den,.sl (ak (em (ig q.den))),.own 0,.own 0] [⟨[4],[(0,.agg (gK x)),(1,.box 0 0),(2,.sl []),(3,.box 1 0),(4,.any),(9,bT (decide (q.num<0)))],[(65,(gK x)),(65,(bj q))],[some ⟨5,1,ak ([1]++em (ig q.num.natAbs)),false⟩],[.any,.box 1 1,aY q.num.natAbs,.sl (ak (em (ig q.num.natAbs))),.own 0,.box 1 2,aY q.den,.sl (ak (em (ig q.den))),.own 0,.own 0]⟩] ⟨[8,4],[(0,.agg (gK x)),(1,.box 0 0),(2,.sl []),(3,.box 1 0),(4,.any),(9,bT (decide (q.num<0)))],[(65,(gK x)),(65,(bj q))],[some ⟨5,1,ak (([1]++em (ig q.num.natAbs))++em (ig q.den)),false⟩],[.any,.box 1 1,aY q.num.natAbs,.sl (ak (em (ig q.num.natAbs))),.any,.box 1 2,aY q.den,.sl (ak (em (ig q.den))),.own 0,.own 0]⟩ U0 Z U0 U0 U0 Z Z ?_ ?_
  ·refine .opp [] (.okk Z (K Z Z)<|.fin)<|.opp [] (.okk Z (aq Z Z cL Z)<|.fin)<|.opp [1] (.okk Z (av Z Z Z bE Z)<|.fin)<|.opp [2] (.okk Z (D Z (r7 _ c.num) Z Z)<|.fin)<|.opp [0,3] (.wr 1 (fk 0) (.own 0) U0 Z Z (c8 Z Z Z aZ Z Z Z Z (aP _) (AllC.map _ _ λ_=>rfl) (AllC.map _ _ λ_=>rfl) (by simp only[aA,Q4,Q5,Ra];omega) Z Z (by simp only[bg];rfl)) Z Z Z Z (.ks 4 Z (.i Z (.k Z (.k Z (.k Z (.d U0 (.d U0 .nil)))))))<|.fin)<|.opp [] (.okk Z (aq Z Z b8 Z)<|.okk Z (aq Z Z b8 Z)<|.fin)<|.opp [5] (.okk Z (av Z Z Z bE Z)<|.okk Z (av Z Z Z bE Z)<|.fin)<|.opp [6] (.no U0<|.okk Z (D Z (r7 _ c.den) Z Z)<|.fin)<|.opp [4,7] (.no U0<|.wr 2 (fk 0) (.own 0) U0 Z Z (c8 Z Z Z aZ Z Z Z Z (aP _) (AllC.map _ _ λ_=>rfl) (AllC.map _ _ λ_=>rfl) (by simp only[aA,Q4,Q5,Ra];omega) Z Z (by simp only[bg];rfl)) Z Z Z Z (.ks 8 Z (.i Z (.d U0 .nil)))<|.fin)<|.opp [8] (.nos 2<|.okk Z (bN Z Z)<|.nil)<|.nil
  refine dp 0 (bs':=[(65,(gK x)),(65,(bj q))]) (rs':=[none]) Z Z Z Z<|aM ⟨Z,Lf (by unfold oI;rw[if_pos a];simp),Z⟩ Z
 refine ar<|H<|eM (sl':=[(0,.agg (gK x)),(1,.box 0 0),(2,.sl []),(3,.box 1 0),(4,.own 0),(9,bT (decide (q.num<0)))]) ⟨Z,⟨Z,⟨Z,⟨Z,⟨Z,⟨Z,trivial⟩⟩⟩⟩⟩⟩<|Ph (fu:=4) [some 12,some 13,some 14,some 15,some 16,some 17,some 18,some 19,some 20,some 2] [4,8] [.own 0,.box 1 1,aY q.num.natAbs,.sl (ak (em (ig q.num.natAbs))),.own 0,.box 1 2,aY q.den,.sl (ak (em (ig q.den))),.own 0,.own 0] [⟨[4],[(0,.agg (gK x)),(1,.box 0 0),(2,.sl []),(3,.box 1 0),(4,.any),(9,bT (decide (q.num<0)))],[(65,(gK x)),(65,(bj q))],[some ⟨5,1,ak ([0]++em (ig q.num.natAbs)),false⟩],[.any,.box 1 1,aY q.num.natAbs,.sl (ak (em (ig q.num.natAbs))),.own 0,.box 1 2,aY q.den,.sl (ak (em (ig q.den))),.own 0,.own 0]⟩] ⟨[8,4],[(0,.agg (gK x)),(1,.box 0 0),(2,.sl []),(3,.box 1 0),(4,.any),(9,bT (decide (q.num<0)))],[(65,(gK x)),(65,(bj q))],[some ⟨5,1,ak (([0]++em (ig q.num.natAbs))++em (ig q.den)),false⟩],[.any,.box 1 1,aY q.num.natAbs,.sl (ak (em (ig q.num.natAbs))),.any,.box 1 2,aY q.den,.sl (ak (em (ig q.den))),.own 0,.own 0]⟩ U0 Z U0 U0 U0 Z Z ?_ ?_
 ·refine .opp [] (.okk Z (K Z Z)<|.fin)<|.opp [] (.okk Z (aq Z Z cL Z)<|.fin)<|.opp [1] (.okk Z (av Z Z Z bE Z)<|.fin)<|.opp [2] (.okk Z (D Z (r7 _ c.num) Z Z)<|.fin)<|.opp [0,3] (.wr 1 (fk 0) (.own 0) U0 Z Z (c8 Z Z Z aZ Z Z Z Z (aP _) (AllC.map _ _ λ_=>rfl) (AllC.map _ _ λ_=>rfl) (by simp only[aA,Q4,Q5,Ra];omega) Z Z (by simp only[bg];rfl)) Z Z Z Z (.ks 4 Z (.i Z (.k Z (.k Z (.k Z (.d U0 (.d U0 .nil)))))))<|.fin)<|.opp [] (.okk Z (aq Z Z b8 Z)<|.okk Z (aq Z Z b8 Z)<|.fin)<|.opp [5] (.okk Z (av Z Z Z bE Z)<|.okk Z (av Z Z Z bE Z)<|.fin)<|.opp [6] (.no U0<|.okk Z (D Z (r7 _ c.den) Z Z)<|.fin)<|.opp [4,7] (.no U0<|.wr 2 (fk 0) (.own 0) U0 Z Z (c8 Z Z Z aZ Z Z Z Z (aP _) (AllC.map _ _ λ_=>rfl) (AllC.map _ _ λ_=>rfl) (by simp only[aA,Q4,Q5,Ra];omega) Z Z (by simp only[bg];rfl)) Z Z Z Z (.ks 8 Z (.i Z (.d U0 .nil)))<|.fin)<|.opp [8] (.nos 2<|.okk Z (bN Z Z)<|.nil)<|.nil
 refine dp 0 (bs':=[(65,(gK x)),(65,(bj q))]) (rs':=[none]) Z Z Z Z<|aM ⟨Z,Lf (by unfold oI;rw[if_neg a];simp),Z⟩ Z
def C4(l:List UInt8)(b:l.length<=1000000000):CtO 60 [.sl (ak l)] 5 1 (ak (l++jv (ft l))):=by
 refine CtO.of (n:=22) func60 Z Z Z Z Z λw0 G0=>?_
 refine C<|M 0 (t:=.sl []) Z (bz (.inr Z) bS)<|E<|C<|M 1 Z (D Z (Gl l O0) Z Z)<|Y 1 Z<|C<|ji (k:=0) (rs':=[some ⟨5,1,ak [],true⟩]) Z Z Z Z aZ Z Z<|ax 1 Z<|a7 (bs':=[]) (rs':=[some ⟨5,1,ak ([]++l),false⟩]) Z Z Z Z aZ Z Z Z Z (aP _) (AllC.map _ _ λ_=>rfl) (AllC.map _ _ λ_=>rfl) (by simp only[aA,Q4,Q5,Ra];omega) Z Z Z (by simp only[bg];rfl)<|M 1 (t:=.sc (.int .u32 ((ft l/2^24:Nat):Int))) Z (aC Z Z Z (λw=>eQ (ft l) 24 I1 w))<|M 0 (t:=.sc (.int .u8 ((ft l/2^24%256:Nat):Int))) Z (aj (bp Z cA b7 Z) lh)<|M 1 (t:=.sc (.int .u32 ((ft l/2^16:Nat):Int))) Z (aC Z Z Z (λw=>eQ (ft l) 16 I1 w))<|M 0 (t:=.sc (.int .u8 ((ft l/2^16%256:Nat):Int))) Z (aj (bp Z cA b7 Z) lh)<|M 1 (t:=.sc (.int .u32 ((ft l/2^8:Nat):Int))) Z (aC Z Z Z (λw=>eQ (ft l) 8 I1 w))<|M 0 (t:=.sc (.int .u8 ((ft l/2^8%256:Nat):Int))) Z (aj (bp Z cA b7 Z) lh)<|M 1 (t:=.sc (.int .u8 ((ft l%256:Nat):Int))) Z (aj (bp Z cA b7 Z) lh)<|M 0 (t:=.sl [.sc (.int .u8 ((ft l/2^24%256:Nat):Int)),.sc (.int .u8 ((ft l/2^16%256:Nat):Int)),.sc (.int .u8 ((ft l/2^8%256:Nat):Int)),.sc (.int .u8 ((ft l%256:Nat):Int))]) Z (aS Z aJ dd Z I1 I1 Z Z Z Z Z)<|a7 (bs':=[]) (rs':=[some ⟨5,1,ak (([]++l)++jv (ft l)),false⟩]) Z Z Z Z aZ Z Z Z Z (by intro e a;simp only[Ri,RM,or_false]at a;rcases a with rfl|rfl|rfl|rfl<;>rfl) (AllC.lit Z) (AllC.lit Z) (by simp only[aA,Q4,Q5,Ra];omega) Z Z Z (by simp only[bg,oH];rfl)<|Y 1 Z<|aQ<|⟨.inr Z,0,false,Z,Z⟩
def tL(r:Rel)(e:List Rt)(o:r.tups=e.map Rt.tp)(m:Enc r)(N:xD r)(I:H8 e):CtP 19 [xE r e] 5 1 (ak (dH r)) (.int .i64 0):=by
 refine CtP.of (n:=97) func19 Z Z Z Z Z λw0 G0=>?_
 refine C<|M 1 (t:=.sl []) Z (bz (.inr Z) bS)<|Y 1 Z<|H<|H ?_;obtain⟨⟨b4,b5⟩,⟨c1,c0⟩,S⟩:=rT m;have a2:=ib r.sch.name;have W:=gj r.sch.name.data.toList O0;have a4:=iY r.sch.cert;have c2:=dz (n:=r.sch.cols.length) O0;refine am<|M 1 Z (D Z (lW r e o m.fit.1 N I) Z Z)<|Y 1 Z<|C<|M 1 (t:=bT ((bK r) !=0)) Z (aC Z Z Z Zy)<|E<|aK Z (λz=>?_) (λz=>?_)
 ·exact absurd m.valid (by simpa using z)
 refine ar<|H<|eM (sl':=[(0,.agg (dL r e)),(1,.box 0 0),(2,.sl []),(3,iT 0),(4,iT (bK r)),(12,bT ((bK r) !=0))]) ⟨Z,⟨Z,⟨Z,⟨Z,⟨Z,⟨Z,trivial⟩⟩⟩⟩⟩⟩<|Vr (fu:=5) [some 14,some 15,some 16,some 17,some 18,some 19,some 20,some 21,some 22,some 23,some 24,some 5] [4,10] [.box 0 0,.box 0 0,sT r.sch.name,.sl (ak r.sch.name.data.toList),.own 0,.box 0 0,.box 0 1,bT r.sch.cert,.sc (.int .u64 (((if r.sch.cert then 1 else 0):Nat):Int)),.sl (ak (gP r.sch.cert)),.own 0,.own 0] [([4],[(30,(dL r e))],[some ⟨5,1,ak (em r.sch.name.data.toList),false⟩],[])] [10,4] [(30,(dL r e))] [some ⟨5,1,ak ((em r.sch.name.data.toList)++gP r.sch.cert),false⟩] [(4,.any)] U0 Z U0 U0 U0 Z Z ?_ ?_
 ·refine .opp [] (.okk Z (aq Z Z cV Z)<|.fin)<|.opp [0] (.okk Z (aq Z Z Am Z)<|.fin)<|.opp [1] (.okk Z (av Z Z Z kx Z)<|.fin)<|.opp [2] (.okk Z (pk Z Z O0)<|.fin)<|.opp [3] (.wr 1 id (.own 0) U0 Z Z (It Z Z Z (r6 _ O0) Z Z Z Z) Z Z Z Z (.ks 4 Z (.i Z (.k Z (.k Z (.k Z (.k Z (.k Z (.k Z (.k Z .nil)))))))))<|.fin)<|.opp [] (.okk Z (aq Z Z cV Z)<|.okk Z (aq Z Z cV Z)<|.fin)<|.opp [5] (.okk Z (aq Z Z fM Z)<|.okk Z (aq Z Z fM Z)<|.fin)<|.opp [6] (.okk Z (av Z Z Z eG Z)<|.okk Z (av Z Z Z eG Z)<|.fin)<|.opp [7] (.no U0<|.okk Z (D Z (Lw _) Z Z)<|.fin)<|.opp [8] (.no U0<|.okk Z (D Z ((mK _ (by split<;>decide)).ct) Z Z)<|.fin)<|.opp [4,9] (.no U0<|.wr 2 (fk 0) (.own 0) U0 Z Z (c8 Z Z Z aZ Z Z Z Z (aP _) (AllC.map _ _ λ_=>rfl) (AllC.map _ _ λ_=>rfl) (by simp only[aA,Q4,Q5,Ra];omega) Z Z (by simp only[bg];rfl)) Z Z Z Z (.ks 10 Z (.i Z (.d U0 .nil)))<|.fin)<|.opp [10] (.nos 2<|.okk Z (bN Z Z)<|.nil)<|.nil
 refine C<|M 4 Z (aU Z bk Z)<|M 0 (t:=.sc (.int .u64 ((r.sch.cols.length:Nat):Int))) Z (aj (bp Z cf b6 Z) (jt O0))<|M 0 Z (D Z ((mK _ O0).ct) Z Z)<|a7 (bs':=[(30,(dL r e))]) (rs':=[some ⟨5,1,ak (((em r.sch.name.data.toList)++gP r.sch.cert)++cZ r.sch.cols.length),false⟩]) Z Z Z Z aZ Z Z Z Z (aP _) (AllC.map _ _ λ_=>rfl) (AllC.map _ _ λ_=>rfl) (by simp only[aA,Q4,Q5,Ra];omega) Z Z Z (by simp only[bg];rfl)<|Y 1 Z<|H<|X 1 Z<|aB<|aT (λO y=>∃(i:Nat) (b:List UInt8),(i<=r.sch.cols.length/\b.length<=100+i*100/\b++(r.sch.cols.drop i).flatMap jo=nW r.sch++r.sch.cols.flatMap jo)/\O=r.sch.cols.length-i/\y=⟨97,[(1,.box 0 0),(5,.own 0),(6,nI i)],[(30,(dL r e))],[some ⟨5,1,ak b,false⟩]⟩) 1 1 ⟨0,(((em r.sch.name.data.toList)++gP r.sch.cert)++cZ r.sch.cols.length),⟨Rg _,by simp only[Q4];omega,by unfold nW;simp⟩,Z,Z⟩ .rf ?_;rintro O y ⟨i,b,⟨hi,T,l⟩,rfl,rfl⟩;refine H<|C<|M 4 Z (aU Z bk Z)<|aI 0 Z Z Zy (B (gF i r.sch.cols.length))<|E<|ay Z (λA=>?_) (λA=>?_)
 ·obtain⟨c,w⟩:∃c,r.sch.cols[i]? =some c:=⟨_,Q2 A⟩;obtain⟨b3,J,L⟩:=S c (Q8 w);rw[mH w]at l;have a3:=ib c.name;have a0:=gj c.name.data.toList O0;have c3:=dz (n:=c.ty.toNat) O0;have a5:=iY c.key;refine ar<|H<|aB<|C<|M 4 (t:=.ref [sT c.name,iT c.ty,bT c.key]) Z (aO (Col.tree c) Z bk Z Z Z (bd (f:=Col.tree) w) (eP _) Z)<|Y 3 Z<|eM (sl':=[(1,.box 0 0),(5,.own 0),(6,nI i),(38,bT (decide (i<r.sch.cols.length))),(7,.box 1 0)]) ⟨Z,⟨Z,⟨Z,⟨Z,⟨Z,trivial⟩⟩⟩⟩⟩<|Ph (fu:=6) [some 47,some 48,some 49,some 50,some 51,some 52,some 53,some 54,some 55,some 56,some 57,some 58,some 59,some 60,some 61,some 62,some 5] [5,10,15] [.own 0,.box 1 0,sT c.name,.sl (ak c.name.data.toList),.sl (ak (em c.name.data.toList)),.own 0,.box 1 1,iT c.ty,.sc (.int .u64 ((c.ty.toNat:Nat):Int)),.sl (ak (cZ c.ty.toNat)),.own 0,.box 1 2,bT c.key,.sc (.int .u64 (((if c.key then 1 else 0):Nat):Int)),.sl (ak (gP c.key)),.own 0,.own 0] [⟨[5],[(1,.box 0 0),(5,.any),(6,nI i),(38,bT (decide (i<r.sch.cols.length))),(7,.box 1 0)],[(30,(dL r e)),(58,[sT c.name,iT c.ty,bT c.key])],[some ⟨5,1,ak (b++em c.name.data.toList),false⟩],[.any,.box 1 0,sT c.name,.sl (ak c.name.data.toList),.sl (ak (em c.name.data.toList)),.own 0,.box 1 1,iT c.ty,.sc (.int .u64 ((c.ty.toNat:Nat):Int)),.sl (ak (cZ c.ty.toNat)),.own 0,.box 1 2,bT c.key,.sc (.int .u64 (((if c.key then 1 else 0):Nat):Int)),.sl (ak (gP c.key)),.own 0,.own 0]⟩,⟨[10,5],[(1,.box 0 0),(5,.any),(6,nI i),(38,bT (decide (i<r.sch.cols.length))),(7,.box 1 0)],[(30,(dL r e)),(58,[sT c.name,iT c.ty,bT c.key])],[some ⟨5,1,ak ((b++em c.name.data.toList)++cZ c.ty.toNat),false⟩],[.any,.box 1 0,sT c.name,.sl (ak c.name.data.toList),.sl (ak (em c.name.data.toList)),.any,.box 1 1,iT c.ty,.sc (.int .u64 ((c.ty.toNat:Nat):Int)),.sl (ak (cZ c.ty.toNat)),.own 0,.box 1 2,bT c.key,.sc (.int .u64 (((if c.key then 1 else 0):Nat):Int)),.sl (ak (gP c.key)),.own 0,.own 0]⟩] ⟨[15,10,5],[(1,.box 0 0),(5,.any),(6,nI i),(38,bT (decide (i<r.sch.cols.length))),(7,.box 1 0)],[(30,(dL r e)),(58,[sT c.name,iT c.ty,bT c.key])],[some ⟨5,1,ak (((b++em c.name.data.toList)++cZ c.ty.toNat)++gP c.key),false⟩],[.any,.box 1 0,sT c.name,.sl (ak c.name.data.toList),.sl (ak (em c.name.data.toList)),.any,.box 1 1,iT c.ty,.sc (.int .u64 ((c.ty.toNat:Nat):Int)),.sl (ak (cZ c.ty.toNat)),.any,.box 1 2,bT c.key,.sc (.int .u64 (((if c.key then 1 else 0):Nat):Int)),.sl (ak (gP c.key)),.own 0,.own 0]⟩ U0 Z U0 U0 U0 Z Z ?_ ?_
  ·refine .opp [] (.okk Z (K Z Z)<|.fin)<|.opp [] (.okk Z (aq Z Z ns Z)<|.fin)<|.opp [1] (.okk Z (av Z Z Z kx Z)<|.fin)<|.opp [2] (.okk Z (pk Z Z O0)<|.fin)<|.opp [3] (.okk Z (D Z ((r6 _ O0).ct) Z Z)<|.fin)<|.opp [0,4] (.wr 1 (fk 0) (.own 0) U0 Z Z (c8 Z Z Z aZ Z Z Z Z (aP _) (AllC.map _ _ λ_=>rfl) (AllC.map _ _ λ_=>rfl) (by simp only[aA,Q4,Q5,Ra];omega) Z Z (by simp only[bg];rfl)) Z Z Z Z (.ks 5 Z (.i Z (.k Z (.k Z (.k Z (.k Z (.d U0 (.k Z (.k Z (.k Z (.k Z (.d U0 (.d U0 .nil)))))))))))))<|.fin)<|.opp [] (.okk Z (aq Z Z fN Z)<|.okk Z (aq Z Z fN Z)<|.fin)<|.opp [6] (.okk Z (av Z Z Z fq Z)<|.okk Z (av Z Z Z fq Z)<|.fin)<|.opp [7] (.okk Z (aj (bp Z cf b6 Z) (O4 J L))<|.okk Z (aj (bp Z cf b6 Z) (O4 J L))<|.fin)<|.opp [8] (.no U0<|.okk Z (D Z ((mK _ O0).ct) Z Z)<|.fin)<|.opp [5,9] (.no U0<|.wr 2 (fk 0) (.own 0) U0 Z Z (c8 Z Z Z aZ Z Z Z Z (aP _) (AllC.map _ _ λ_=>rfl) (AllC.map _ _ λ_=>rfl) (by simp only[aA,Q4,Q5,Ra];omega) Z Z (by simp only[bg];rfl)) Z Z Z Z (.ks 10 Z (.i Z (.k Z (.k Z (.k Z (.k Z (.d U0 (.d U0 .nil))))))))<|.fin)<|.opp [] (.okk Z (aq Z Z jk Z)<|.okk Z (aq Z Z jk Z)<|.okk Z (aq Z Z jk Z)<|.fin)<|.opp [11] (.okk Z (av Z Z Z eG Z)<|.okk Z (av Z Z Z eG Z)<|.okk Z (av Z Z Z eG Z)<|.fin)<|.opp [12] (.nos 2<|.okk Z (D Z (Lw _) Z Z)<|.fin)<|.opp [13] (.nos 2<|.okk Z (D Z ((mK _ (by split<;>decide)).ct) Z Z)<|.fin)<|.opp [10,14] (.nos 2<|.wr 3 (fk 0) (.own 0) U0 Z Z (c8 Z Z Z aZ Z Z Z Z (aP _) (AllC.map _ _ λ_=>rfl) (AllC.map _ _ λ_=>rfl) (by simp only[aA,Q4,Q5,Ra];omega) Z Z (by simp only[bg];rfl)) Z Z Z Z (.ks 15 Z (.i Z (.d U0 .nil)))<|.fin)<|.opp [15] (.nos 3<|.okk Z (bN Z Z)<|.nil)<|.nil
  refine am<|a8 1 (i+1) Z Z Zy O0<|Y 1 Z<|⟨_,_,?_,⟨i+1,(((b++em c.name.data.toList)++cZ c.ty.toNat)++gP c.key),?_,Z,Z⟩,.rf⟩
  ·omega
  exact⟨O0,by simp only[Q4];omega,by rw[<-l];unfold jo;simp⟩
 have P:b=nW r.sch++r.sch.cols.flatMap jo:=by rw[<-l,Rc O0];simp
 have c4:=dz (n:=r.tups.length) (by have:=m.len;omega);refine aX<|C<|M 3 (t:=nI r.tups.length) Z (aj (fw Z aV Z) (by simp only[o,Rn]))<|M 0 (t:=.sc (.int .u64 ((r.tups.length:Nat):Int))) Z (aj (bp Z cf b6 Z) (jt (by have:=m.len;omega)))<|M 0 Z (D Z ((mK _ (by have:=m.len;omega)).ct) Z Z)<|a7 (bs':=[(30,(dL r e))]) (rs':=[some ⟨5,1,ak (b++cZ r.tups.length),false⟩]) Z Z Z Z aZ Z Z Z Z (aP _) (AllC.map _ _ λ_=>rfl) (AllC.map _ _ λ_=>rfl) (by simp only[aA,Q4,Q5,Ra];omega) Z Z Z (by simp only[bg];rfl)<|Y 1 Z<|H<|X 1 Z<|aB<|aT (λO y=>∃(j:Nat) (g:List UInt8),(j<=r.tups.length/\g.length<=1000+j*3000000/\g++(r.tups.drop j).flatMap CV=fV r)/\O=r.tups.length-j/\y=⟨97,[(1,.box 0 0),(5,.own 0),(8,nI j)],[(30,(dL r e))],[some ⟨5,1,ak g,false⟩]⟩) 1 1 ⟨0,(b++cZ r.tups.length),⟨Rg _,by simp only[Q4];omega,by rw[Su,IK,P];unfold fV;simp⟩,Z,Z⟩ .rf ?_;rintro O y ⟨j,g,⟨hj,U,h⟩,rfl,rfl⟩;have b2:=m.len;refine H<|C<|M 3 (t:=nI r.tups.length) Z (aj (fw Z aV Z) (by simp only[o,Rn]))<|aI 0 Z Z Zy (B (gF j r.tups.length))<|E<|ay Z (λF=>?_) (λF=>?_)
 ·obtain⟨t,x⟩:∃t,r.tups[j]? =some t:=⟨_,Q2 F⟩;obtain⟨a,u,rfl⟩:=sN o x;have s:=Q8 x;obtain⟨R,b0,b1⟩:=rU m s;have Q:=(m.fit.1.tup a.tp s).1.p;rw[mH x]at h;have a1:=gj (eJ a.tp.vals) O0;have a9:=Ix a.p.q Q;refine ar<|H<|aB<|eM (sl':=[(1,.box 0 0),(5,.own 0),(8,nI j),(74,bT (decide (j<r.tups.length)))]) ⟨Z,⟨Z,⟨Z,⟨Z,trivial⟩⟩⟩⟩<|Ph (fu:=8) [some 77,some 78,some 79,some 80,some 81,some 82,some 83,some 84,some 85,some 86,some 87,some 88,some 89,some 90,some 91,some 92,some 93,some 94,some 5] [9,17] [.own 0,.box 0 3,.sl (e.map Rt.tree),nI j,.ref [.sl (a.tp.vals.map V.tree),bT a.p.ng,dT a.p.n,dT a.p.d],.ref [.sl (a.tp.vals.map V.tree),bT a.p.ng,dT a.p.n,dT a.p.d],.sl (a.tp.vals.map V.tree),.sl (ak (eJ a.tp.vals)),.sl (ak (em (eJ a.tp.vals))),.own 0,.box 0 3,.sl (e.map Rt.tree),nI j,.ref [.sl (a.tp.vals.map V.tree),bT a.p.ng,dT a.p.n,dT a.p.d],.ref (gK a.p),.agg (gK a.p),.sl (ak (oI a.p.q)),.own 0,.own 0] [⟨[9],[(1,.box 0 0),(5,.any),(8,nI j),(74,bT (decide (j<r.tups.length)))],[(30,(dL r e))],[some ⟨5,1,ak (g++em (eJ a.tp.vals)),false⟩],[.any,.box 0 3,.sl (e.map Rt.tree),nI j,.ref [.sl (a.tp.vals.map V.tree),bT a.p.ng,dT a.p.n,dT a.p.d],.ref [.sl (a.tp.vals.map V.tree),bT a.p.ng,dT a.p.n,dT a.p.d],.sl (a.tp.vals.map V.tree),.sl (ak (eJ a.tp.vals)),.sl (ak (em (eJ a.tp.vals))),.own 0,.box 0 3,.sl (e.map Rt.tree),nI j,.ref [.sl (a.tp.vals.map V.tree),bT a.p.ng,dT a.p.n,dT a.p.d],.ref (gK a.p),.agg (gK a.p),.sl (ak (oI a.p.q)),.own 0,.own 0]⟩] ⟨[17,9],[(1,.box 0 0),(5,.any),(8,nI j),(74,bT (decide (j<r.tups.length)))],[(30,(dL r e))],[some ⟨5,1,ak ((g++em (eJ a.tp.vals))++oI a.p.q),false⟩],[.any,.box 0 3,.sl (e.map Rt.tree),nI j,.ref [.sl (a.tp.vals.map V.tree),bT a.p.ng,dT a.p.n,dT a.p.d],.ref [.sl (a.tp.vals.map V.tree),bT a.p.ng,dT a.p.n,dT a.p.d],.sl (a.tp.vals.map V.tree),.sl (ak (eJ a.tp.vals)),.sl (ak (em (eJ a.tp.vals))),.any,.box 0 3,.sl (e.map Rt.tree),nI j,.ref [.sl (a.tp.vals.map V.tree),bT a.p.ng,dT a.p.n,dT a.p.d],.ref (gK a.p),.agg (gK a.p),.sl (ak (oI a.p.q)),.own 0,.own 0]⟩ U0 Z U0 U0 U0 Z Z ?_ ?_
  ·refine .opp [] (.okk Z (K Z Z)<|.fin)<|.opp [] (.okk Z (aq Z Z a6 Z)<|.fin)<|.opp [1] (.okk Z (av Z Z Z bJ Z)<|.fin)<|.opp [] (.okk Z (K Z Z)<|.fin)<|.opp [2,3] (.okk Z (aO (Rt.tree a) Z aV Z Z Z (bd (f:=Rt.tree) u) (jm _) Z)<|.fin)<|.opp [4] (.okk Z (bL Z Z cz Z)<|.fin)<|.opp [5] (.okk Z (bi Z Z di Z)<|.fin)<|.opp [6] (.okk Z (D Z (Ly a.tp.vals O0 R (λv hv=>m.rng a.tp s v hv) (N a.tp s)) Z Z)<|.fin)<|.opp [7] (.okk Z (D Z ((r6 _ O0).ct) Z Z)<|.fin)<|.opp [0,8] (.wr 1 (fk 0) (.own 0) U0 Z Z (c8 Z Z Z aZ Z Z Z Z (aP _) (AllC.map _ _ λ_=>rfl) (AllC.map _ _ λ_=>rfl) (by simp only[aA,Q4,Q5,Ra];omega) Z Z (by simp only[bg];rfl)) Z Z Z Z (.ks 9 Z (.i Z (.k Z (.k Z (.k Z (.k Z (.k Z (.k Z (.k Z (.d U0 (.d U0 .nil)))))))))))<|.fin)<|.opp [] (.okk Z (aq Z Z a6 Z)<|.okk Z (aq Z Z a6 Z)<|.fin)<|.opp [10] (.okk Z (av Z Z Z bJ Z)<|.okk Z (av Z Z Z bJ Z)<|.fin)<|.opp [] (.okk Z (K Z Z)<|.okk Z (K Z Z)<|.fin)<|.opp [11,12] (.okk Z (aO (Rt.tree a) Z aV Z Z Z (bd (f:=Rt.tree) u) (jm _) Z)<|.okk Z (aO (Rt.tree a) Z aV Z Z Z (bd (f:=Rt.tree) u) (jm _) Z)<|.fin)<|.opp [13] (.okk Z (bL Z Z eD Z)<|.okk Z (bL Z Z eD Z)<|.fin)<|.opp [14] (.okk Z (dt Z Z aH Z Z)<|.okk Z (dt Z Z aH Z Z)<|.fin)<|.opp [15] (.no U0<|.okk Z (D Z (IL a.p (I a (Q8 u))) Z Z)<|.fin)<|.opp [9,16] (.no U0<|.wr 2 (fk 0) (.own 0) U0 Z Z (c8 Z Z Z aZ Z Z Z Z (aP _) (AllC.map _ _ λ_=>rfl) (AllC.map _ _ λ_=>rfl) (by simp only[aA,Q4,Q5,Ra];omega) Z Z (by simp only[bg];rfl)) Z Z Z Z (.ks 17 Z (.i Z (.d U0 .nil)))<|.fin)<|.opp [17] (.nos 2<|.okk Z (bN Z Z)<|.nil)<|.nil
  refine am<|a8 1 (j+1) Z Z Zy O0<|Y 1 Z<|⟨_,_,?_,⟨j+1,((g++em (eJ a.tp.vals))++oI a.p.q),?_,Z,Z⟩,.rf⟩
  ·omega
  exact⟨O0,by simp only[Q4];omega,by rw[<-h];unfold CV;simp;rfl⟩
 have G:g=fV r:=by rw[<-h,Rc O0];simp
 refine dp 0 (bs':=[(30,(dL r e))]) (rs':=[none]) Z Z Z Z<|aX<|C<|ax 1 Z<|mY (k:=1) (rs':=[none,some ⟨5,1,ak (g++jv (ft g)),false⟩]) Z Z Z Z (C4 g O0) Z Z Z Z<|Y 2 Z<|aQ<|⟨.inr Z,1,false,Z,by rw[G];rfl,Z⟩
def C5(r:Rel)(b:List Rt)(d:r.tups=b.map Rt.tp)(f:FitR r)(e:xD r)(c:H8 b)(g:bK r≠0):Ct 19 [xE r b] (.tup [.sl [],iT (bK r)]):=by
 refine Ct.of (n:=97) func19 Z Z Z Z Z λw0 G0=>?_
 refine C<|M 1 (t:=.sl []) Z (bz (.inr Z) bS)<|Y 1 Z<|H<|C<|M 1 Z (D Z (lW r b d f e c) Z Z)<|Y 1 Z<|C<|M 1 (t:=bT ((bK r) !=0)) Z (aC Z Z Z Zy)<|E<|aK Z (λa=>?_) (λa=>?_)
 ·refine C<|M 1 (t:=.sl []) Z (bz (.inr Z) bS)<|Y 1 Z<|aQ<|⟨.inr Z,_,.cons Z (.cons Z .nil),Z,Z⟩
 exact absurd (by simpa using a) g
def At.subB{w:World}{B b off:Nat}{l:List UInt8}(h:At w B (some ⟨b,off,none⟩) (bZ l))(k m:Nat):At w B (some ⟨b,off+k,none⟩) (bZ ((l.drop k).take m)):=λg=>by
 rw[eR,Rb,Rm]at g;obtain⟨i,c,e,d,f⟩:=h (by rw[eR];omega);cases e;refine⟨b,off+k,Z,d,λj u a=>?_⟩;rw[S4];refine f (k+j) u ?_;simp only[bZ,Tv,Tw]at a⊢;rw[R7]at a;split at a
 ·rwa[Si]at a
 cases a
def At.byte{w:World}{B:Nat}{A:Option Addr}{l:List UInt8}{i:Nat}(h:At w B A (bZ l))(f:i<l.length):
  ∃b off,A=some ⟨b,off,none⟩/\b<B/\∀(j:Nat) (a:j<l.length),w.cell? ⟨b,off+j,none⟩=some (.int .u8 l[j].toNat):=by
 obtain⟨b,off,e,c,d⟩:=h (by rw[eR];omega);exact⟨b,off,e,c,λj a=>d j _ (by simp[bZ,Q2 a])⟩
def E6(l:List UInt8)(k:Nat)(a:k<8)(b:9<=l.length):cI ((((l.drop 1).take 8)).take (k+1))=cI (((l.drop 1).take 8).take k)*256+(l[1+k]'O).toNat:=by
 have h:k<((l.drop 1).take 8).length:=by simp;omega
 rw[Rz h,jH];simp[SN]
def xe{l:List UInt8}{k:Nat}(h:l.length<=k)(d:k<=7):cI l<72057594037927936:=by
 have a:=iq l;have b:256^l.length<=256^7:=Rx I O;have c:(256^7:Nat)=72057594037927936:=I
 omega
def Nv(N x:Nat)(d:N<72057594037927936)(c:x<256):bits .or .u64 ((N:Int)*256) (x:Int)=((N*256+x:Nat):Int):=by
 have h:=u64_or_nat (N*256) x O O;have e:((N*256:Nat):Int)=(N:Int)*256:=O
 rw[e]at h;rw[h];have a:N*256|||x=N*256+x:=by
  have:=SK (i:=8) (b:=x) c N;rw[Tm]at this;exact this.symm
 rw[a]
def zf(N:Nat)(a:N<18446744073709551616):wrap64 (bits .xor .u64 (N:Int) 9223372036854775808)=(N:Int)-9223372036854775808:=by
 have h:=u64_xor_nat N 9223372036854775808 a I;rw[show((9223372036854775808:Nat):Int)=9223372036854775808 from rfl]at h;rw[h,Fv N a];simp only[wrap64];omega
def sY:∀(l:List UInt8) (k:Nat) (a:k<l.length),k<=jI l->l[k].toNat≠0->k+1<=jI l
 |[],k,a,_,_=>by simp at a
 |c::l,0,a,_,h=>by
  have b:c≠0:=λe=>h (by subst e;rfl)
  simp only[jI,if_neg b];omega
 |c::l,k+1,a,hz,h=>by
  simp only[jI]at hz⊢;split at hz
  ·omega
  rename_i b;rw[if_neg b];have:=sY l k (by simpa using a) O (by simpa using h);omega
def xf:∀(l:List UInt8) (k:Nat) (a:k<l.length),l[k].toNat=0->jI l<=k
 |[],k,a,_=>by simp at a
 |c::l,0,a,h=>by
  have b:c=0:=Ta.1 h;simp[jI,b]
 |c::l,k+1,a,h=>by
  have:=xf l k (by simpa using a) (by simpa using h);simp only[jI];split<;>omega
