import Derived.Test.YtfoejfohbkmmeaaGreatDoorB12
import Derived.Test.YtfoejfohbkmmeaaGreatDoorB09
import Derived.Deep.QuietTactic
import Derived.BigQuiet
import Derived.Test.YtfoejfohbkmmeaaGreatDoorB00
import Derived.Laws.BitsAllLaws
set_option maxRecDepth 100000
set_option maxHeartbeats 4000000
namespace Go.Proofs.YtfoejfohbkmmeaaGreatDoor
open Go.RowKit
open Lib renaming hid→J
theorem lZ{m n:Nat}(h:(az m).length<(az n).length):m<n:=by
 rcases OS m n with a|a
 ·exact a
 have:=bi a;omega
theorem ma(a:List Nat)(k:Nat)(c:k<a.length):aE a=aE (a.take k)+4294967296^k*(a[k]+4294967296*aE (a.drop (k+1))):=by
 have h:a=a.take k++a[k]::a.drop (k+1):=by rw[<-Ow c,Pz]
 have b:(a.take k).length=k:=by rw[Ox];omega
 conv=>lhs;rw[h]
 rw[fl,b,aE]
theorem xI(a b:List Nat)(k:Nat)(i:Digs a)(g:a.length=b.length)(l:k<a.length)(h:∀(j:Nat) (e:j<a.length) (f:j<b.length),k<j->a[j]=b[j])(m:a[k]<b[k]'(by omega)):aE a<aE b:=by
 have o:a.drop (k+1)=b.drop (k+1):=by
  apply Rl
  ·simp[g]
  intro j e f;simp only[Rg];exact h _ _ _ (by omega)
 rw[ma a k l,ma b k (by omega),o];have e:=cf (a.take k) (fun d c=>i d (OV c));have f:(a.take k).length=k:=by rw[Ox];omega
 rw[f]at e;have n:=PL (4294967296^k) (show a[k]+4294967296*aE (b.drop (k+1))+1<=b[k]'(by omega)+4294967296*aE (b.drop (k+1)) by omega);rw[OU]at n;omega
theorem za(a b:List Nat)(e:a.length=b.length)(f:∀(j:Nat) (c:j<a.length) (d:j<b.length),a[j]=b[j]):a=b:=Rl e fun j c d=>f j c d
theorem bq{B n:Nat}{w W:World}(h:Below B w W):Below B w (W.drewN n):=⟨h.os,h.tape,h.output,h.size,h.block⟩
def Dx(x y:Nat)(w:World)(e:Ending)(w':World):Prop:=e=.returned (.int .i64 (fz x y))/\Below w.heap.size w w'
theorem ku{x y:Nat}(h:x<y):fz (x:Int) (y:Int)= -1:=gZ (by omega)
theorem jv{x y:Nat}(h:y<x):fz (x:Int) (y:Int)=1:=nC (by omega)
theorem mb{x y:Nat}(h:x=y):fz (x:Int) (y:Int)=0:=kq (by omega) (by omega)
theorem sg(A B:Option Addr)(ca cb:Nat)(x y:List Nat)(w:World)(hA:IsN w A ca x)(hB:IsN w B cb y)(a2:x.length<=1073741823)(a0:y.length<=1073741823):
  Calls Tryz.prog 101 #[.slice A x.length ca,.slice B y.length cb] w (Dx (aE x) (aE y) w):=by
 have HA:=J hA;have HB:=J hB;clear hA hB;have M:(az (aE x)).length<=x.length:=bk (cf x HA.out.ok);have L:(az (aE y)).length<=y.length:=bk (cf y HB.out.ok)
 go_enter Tryz.func101,Tryz.ntmps101
 go_wp2_with fail
 refine(ep A ca x _ HA.out a2).mono ?_;intro e w1 g;obtain⟨A1,c1,rfl,I,u⟩:=g.open_;have c:=J I;have T:=J u;have O:=u.size;clear g I u
 go_wp2_with fail
 refine(ep B cb y _ (HB.out.below T.out) a0).mono ?_;intro e w2 f;obtain⟨A2,c2,rfl,Q,m⟩:=f.open_;have s:=J Q;have c:=J (c.out.below m);have C:=J (aF T.out m O);have a4:w.heap.size<=w2.heap.size:=Oq O m.size;clear f Q m;generalize hX:aE x=X at c M⊢;generalize hY:aE y=Y at s L⊢;have n:=J hX;have l:=J hY;clear hX hY;obtain⟨a,W⟩:∃a,az X=a:=⟨_,rfl⟩;obtain⟨b,hb⟩:∃b,az Y=b:=⟨_,rfl⟩;have S:Hid (aE a=X):=by rw[<-W];exact aS X
 have U:Hid (aE b=Y):=by rw[<-hb];exact aS Y
 have G:=J (@lZ X Y);have v:=J (@lZ Y X);rw[W,hb]at G v;rw[W]at c M⊢;rw[hb]at s L⊢;clear W hb;by_cases P:a.length=b.length
 ·have d:=J P;have g1:((a.length:Int)==(b.length:Int))=true:=by rw[beq_iff_eq];omega
  have g2:((a.length:Int) !=(b.length:Int))=false:=by rw[bne_eq_false_iff_eq];omega
  clear P
  go_wp2
  go_loopw [7] (fun i wr=>∃k:Nat,k<=a.length/\i=.int .i64 ((k:Int)-1)/\(∀(j:Nat) (g:j<a.length) (f:j<b.length),k<=j->a[j]=b[j])/\Below w2.heap.size w2 wr) (fun i _=>(intOf i+1).toNat)
  case atStart=>exact⟨a.length,Oh _,Z,fun j g f h=>by omega,Below.refl _ _⟩
  case round=>
   obtain⟨k,hk,rfl,he,D⟩:=hrel;have r:=J he;have t:=J D;have V:=J (aF C.out D a4);clear he D;cases k with
   |zero=>
    have a3:=J (show X=Y by rw[<-S.out,<-U.out,za a b d.out (fun j g f=>r.out j g f (by omega))])
    go_wp2
    go_ret
    exact⟨by rw[n.out,l.out,mb a3.out];rfl,V.out⟩
   |succ k=>
    rw[show((k+1:Nat):Int)-1=(k:Int) by omega];obtain⟨b1,o1,rfl,u,F⟩:=(c.out.below t.out).digit (i:=k) (by omega);obtain⟨b2,o2,rfl,m,R⟩:=(s.out.below t.out).digit (i:=k) (by have:=d.out;omega);have c1:=F k (by omega);have c2:=R k (by have:=d.out;omega);have E:k<b.length:=by have:=d.out;omega
    have N:k<a.length:=by omega
    have H:Hid (a[k]'N<b[k]'E->aE a<aE b):=(fun h=>xI a b k c.out.ok d.out (by omega) (fun j g f h'=>r.out j g f (by omega)) h);have K:Hid (b[k]'E<a[k]'N->aE b<aE a):=(fun h=>xI b a k s.out.ok d.out.symm E (fun j g f h'=>(r.out j f g (by omega)).symm) h);rw[S.out,U.out]at H K;obtain⟨p,hp⟩:∃p,a[k]'(by omega)=p:=⟨_,rfl⟩;obtain⟨q,hq⟩:∃q,b[k]=q:=⟨_,rfl⟩;have HP:=J hp;have HQ:=J hq;rw[hp]at c1;rw[hq]at c2;clear F R hp hq;have k0:(0:Int)<=(k:Int):=by omega
    have k1:(k:Int)<(a.length:Int):=by omega
    have k2:(k:Int)<(b.length:Int):=by omega
    rcases Rf p q with o|o|o
    ·have z:=J (H.out (by rw[HP.out,HQ.out];exact o));have t1:decide ((p:Int)<(q:Int))=true:=by simp;omega
     go_wp2
     go_quiet (fail)
     go_wp2
     go_ret
     exact⟨by rw[n.out,l.out,ku z.out];rfl,bq V.out⟩
    ·subst o
     go_wp2
     go_quiet (fail)
     go_wp2
     go_quiet (fail)
     go_wp2
     go_roundw
     case rel=>
      refine⟨k,by omega,by go_num,fun j g f h=>?_,by first|exact bq (bq t.out)|exact bq t.out⟩;by_cases e:j=k
      ·subst e;rw[HP.out,HQ.out]
      exact r.out j g f (by omega)
     case measure=>simp[intOf]
    have z:=J (K.out (by rw[HP.out,HQ.out];exact o));have t1:decide ((p:Int)<(q:Int))=false:=by simp;omega
    have t2:decide ((q:Int)<(p:Int))=true:=by simp;omega
    go_wp2
    go_quiet (fail)
    go_wp2
    go_quiet (fail)
    go_wp2
    go_ret
    exact⟨by rw[n.out,l.out,jv z.out];rfl,by first|exact bq (bq V.out)|exact bq V.out⟩
 have g1:((a.length:Int)==(b.length:Int))=false:=by rw[beq_eq_false_iff_ne];omega
 have g2:((a.length:Int) !=(b.length:Int))=true:=by rw[bne_iff_ne];omega
 rcases OS a.length b.length with a5|a9
 ·have z:=J (G.out a5)
  go_wp2
  go_ret
  exact⟨by rw[n.out,l.out,ku z.out];rfl,C.out⟩
 have a1:b.length<a.length:=by omega
 have z:=J (v.out a1)
 go_wp2
 go_ret
 exact⟨by rw[n.out,l.out,jv z.out];rfl,C.out⟩
theorem dp(l:List Nat)(k:Nat)(h:k<l.length):aE (l.take (k+1))=aE (l.take k)+4294967296^k*l[k]:=by
 have a:(l.take k).length=k:=by rw[Ox];omega
 rw[OM h,fl,a];simp[aE]
theorem dY(l:List Nat)(d k:Nat)(h:l.length=k):aE (l++[d])=aE l+4294967296^k*d:=by
 subst h;rw[fl];simp[aE]
theorem BK(l:List Nat)(i d:Nat):cG (l.set i d)=(cG l).set i (.int .u32 d):=by simp[cG,SH]
theorem OwnN.set{w:World}{base g a i:Nat}{l:List Nat}(h:OwnN w base (.slice (some ⟨g,0,none⟩) l.length a) l)(d:Nat):
  OwnN (w.setCell ⟨g,i,none⟩ (.int .u32 d)) base (.slice (some ⟨g,0,none⟩) (l.set i d).length a) (l.set i d):=by
 rcases h.2 with⟨c,_⟩|⟨q,e,cur,c,j,f,p,n,o,m⟩
 ·cases c
 injection c with b r k
 injection b with b
 injection b with b
 subst b k;unfold OwnN;rw[O4];refine⟨by rw[dG,O4];omega,.inr ⟨g,a,cur.setIfInBounds i (.int .u32 d),Z,j,?_,p,n,by simpa using o,?_⟩⟩
 ·simp[World.setCell,P4,f]
 rw[BK,<-m,P8,Qc,RW]
theorem OwnN.lies{w:World}{base:Nat}{v:Value}{l:List Nat}(h:OwnN w base v l)(f:0<l.length):
  ∃g a,v=.slice (some ⟨g,0,none⟩) l.length a/\base<=g/\g<w.heap.size/\l.length<=a/\a<=9223372036854775807:=by
 rcases h.2 with⟨_,b⟩|⟨g,a,cur,rfl,d,c,b,e,_⟩
 ·omega
 exact⟨g,a,Z,d,(O3.1 c).1,b,by unfold maxLen at e;omega⟩
theorem OwnN.free{w:World}{base g n c:Nat}{l:List Nat}(h:OwnN w base (.slice (some ⟨g,0,none⟩) n c) l)(i:Nat):w.frozen? ⟨g,i,none⟩=false:=by
 rcases h.2 with⟨b,_⟩|⟨j,d,cur,b,f,e,_⟩
 ·cases b
 injection b with a
 injection a with a
 injection a with a
 subst a;simp[World.frozen?,e]
theorem OwnN.cell{w:World}{base g n a:Nat}{l:List Nat}(h:OwnN w base (.slice (some ⟨g,0,none⟩) n a) l){i:Nat}(d:i<l.length):w.cell? ⟨g,i,none⟩=some (.int .u32 ((l[i]:Nat):Int)):=by
 rcases h.2 with⟨c,_⟩|⟨j,b,cur,c,f,e,_⟩
 ·cases c
 have:=World.ownsRow.cells h (g:=g) Z i (.int .u32 ((l[i]:Nat):Int)) (by simp[cG,Og d]);rwa[show(⟨g,0,none⟩:Addr).add i=⟨g,i,none⟩from by unfold Addr.add;split<;>simp_all]at this
def SubInv(w:World)(vx vy:Value)(dx dy:List Nat)(br i:Value)(wr:World):Prop:=
 ∃(k b:Nat) (out:List Nat),k<=dx.length/\i=.int .i64 k/\br=.int .u64 b/\b<=1/\out.length=k/\Digs out/\OwnN wr w.heap.size vx (out++dx.drop k)/\OwnN wr w.heap.size vy dy/\aE out+aE (dy.take k)=aE (dx.take k)+4294967296^k*b/\Below w.heap.size w wr
theorem zb{a c d:List Nat}{k b nb x y g:Nat}(h:k<c.length)(e:a.length=k)(m:aE a+aE (d.take k)=aE (c.take k)+4294967296^k*b)(i:c[k]=x)(l:aE (d.take (k+1))=aE (d.take k)+4294967296^k*y)(f:g+(b+y)=x+4294967296*nb):
  aE (a++[g])+aE (d.take (k+1))=aE (c.take (k+1))+4294967296^(k+1)*nb:=by
 rw[dY a g k e,dp c k h,i,l,OO];generalize 4294967296^k=P at*;have j:P*(g+(b+y))=P*(x+4294967296*nb):=by rw[f]
 rw[OU,OU,OU]at j;rw[OL];omega
theorem GR{a b:List Nat}{k g:Nat}(c:k<b.length)(d:a.length=k):(a++b.drop k).set k g=(a++[g])++b.drop (k+1):=by
 subst d;rw[P5 _ _ (Oh _),Ow c,Pb,Qe,O0];rfl
theorem LQ{a b:List Nat}{k:Nat}(d:k<b.length)(c:a.length=k):∃h:k<(a++b.drop k).length,(a++b.drop k)[k]=b[k]:=by
 subst c;refine⟨by simp;omega,?_⟩;rw[Rq (Oh _)];simp
theorem kw{w wr:World}{l x:Nat}{r:Value}{c m a:List Nat}{k b nb C y0 g:Nat}{z q i:Int}(o:k<c.length)(e:a.length=k)(v:Digs a)(n:OwnN wr w.heap.size (.slice (some ⟨l,0,none⟩) c.length x) (a++c.drop k))(u:OwnN wr w.heap.size r m)(H:r.ownBlock≠some l)
  (K:aE a+aE (m.take k)=aE (c.take k)+4294967296^k*b) (E:c[k]=C) (F:aE (m.take (k+1))=aE (m.take k)+4294967296^k*y0) (t:Below w.heap.size w wr) (s:w.heap.size<=l)
  (L:z=(g:Int)) (N:q=(nb:Int)) (D:i=((k+1:Nat):Int)) (G:g+(b+y0)=C+4294967296*nb) (A:g<4294967296) (y:nb<=1):SubInv w (.slice (some ⟨l,0,none⟩) c.length x) r c m (.int .u64 q) (.int .i64 i) (wr.setCell ⟨l,k,none⟩ (.int .u32 z)):=by
 subst L N D;refine⟨k+1,nb,a++[g],o,Z,Z,y,by simp[e],fun d I=>?_,?_,fI u H (fun j J=>Below.heap_setCell _ _ _ _ J),zb o e K E F G,t.setCell (p:=⟨l,k,none⟩) s _⟩
 ·rcases OZ.1 I with h|h
  ·exact v d h
  simp at h;omega
 have f:(a++c.drop k).length=c.length:=by simp[e];omega
 have M:OwnN wr w.heap.size (.slice (some ⟨l,0,none⟩) (a++c.drop k).length x) (a++c.drop k):=by rw[f];exact n
 have B:=M.set (i:=k) g;rw[O4,f,GR o e]at B;exact B
def Dy(n:Nat)(w:World)(e:Ending)(w':World):Prop:=∃v,e=.returned (.tuple #[v,.bool true])/\OwnN w' w.heap.size v (az n)/\Below w.heap.size w w'
theorem OwnN.base_le{w:World}{b c:Nat}{v:Value}{l:List Nat}(h:OwnN w c v l)(i:b<=c):OwnN w b v l:=by
 refine⟨h.1,?_⟩;rcases h.2 with d|⟨g,a,cur,e,f,r⟩
 ·exact .inl d
 exact .inr ⟨g,a,cur,e,by omega,r⟩
theorem xJ(A B:Option Addr)(ca cb:Nat)(x y:List Nat)(w:World)(hA:IsN w A ca x)(hB:IsN w B cb y)(c1:x.length<=1073741823)(W:y.length<=1073741823)(e5:aE y<=aE x):
  Calls Tryz.prog 217 #[.slice A x.length ca,.slice B y.length cb] w (Dy (aE x-aE y) w):=by
 have HA:=J hA;have HB:=J hB;clear hA hB;have d1:(az (aE x)).length<=x.length:=bk (cf x HA.out.ok);have e7:(az (aE y)).length<=y.length:=bk (cf y HB.out.ok);have b1:0<=fz (aE x:Int) (aE y:Int):=by
  rcases OS (aE y) (aE x)with h|h
  ·rw[jv h];decide
  rw[mb (by omega)];decide
 obtain⟨cm,U⟩:∃cm,fz (aE x:Int) (aE y:Int)=cm:=⟨_,rfl⟩;have e9:=J U;rw[U]at b1;clear U
 go_enter Tryz.func217,Tryz.ntmps217
 go_wp2_with fail
 refine(sg A B ca cb x y _ HA.out HB.out c1 W).mono ?_;rintro e w0 ⟨he,O⟩;rw[e9.out]at he;subst he;have b2:=J O;have L:=O.size;clear O
 go_wp2_with fail
 refine(ep A ca x _ (HA.out.below b2.out) c1).mono ?_;rintro e w1 ⟨vx,rfl,X,p⟩;have K:=J X;have a3:=J (aF b2.out p L);have e8:=J p;have P:w.heap.size<=w1.heap.size:=Oq L p.size;clear X p
 go_wp2_with fail
 refine(ep B cb y _ (HB.out.below a3.out) W).mono ?_;rintro e w2 ⟨vy,rfl,M,F⟩;have V:=J ((K.out.below F).base_le L);have R:=J (M.base_le P);have o:Hid (∀g,vx.ownBlock=some g->vy.ownBlock≠some g):=fun g h1 h2=>by
  have a1:=(K.out.lt g h1).2;have a2:=(M.lt g h2).1;omega
 have d2:=J (aF a3.out F P);have f7:w.heap.size<=w2.heap.size:=Oq P F.size;clear M F K e8;have b5:=J (aS (aE x));have a4:=J (aS (aE y));have S:=J (cE (aE x));have Q:=J (cE (aE y));obtain⟨t,z⟩:∃t,az (aE x)=t:=⟨_,rfl⟩;obtain⟨l,v⟩:∃l,az (aE y)=l:=⟨_,rfl⟩;have c9:=J (congrArg List.length z);have c5:=J (congrArg List.length v);rw[z]at V d1 b5 S;rw[v]at R e7 a4 Q;clear z v;obtain⟨Ay,cy,e,f9⟩:∃A c,vy=.slice A l.length c/\True:=by
  obtain⟨A,c,h,_⟩:=R.out.is Q.out;exact⟨A,c,h,trivial⟩
 subst e;obtain⟨Ax,cx,e,b0⟩:∃A c,vx=.slice A t.length c/\True:=by
  obtain⟨A,c,h,_⟩:=V.out.is S.out;exact⟨A,c,h,trivial⟩
 subst e
 go_wp2
 go_loopw [8,9] (fun br i wr=>SubInv w (.slice Ax t.length cx) (.slice Ay l.length cy) t l br i wr) (fun _ i _=>t.length-(intOf i).toNat)
 case atStart=>exact⟨0,0,[],OA _,Z,Z,by omega,Z,fun d hd=>by simp at hd,by simpa using V.out,R.out,by simp[aE],d2.out⟩
 case round=>
  obtain⟨k,b,r,hk,rfl,rfl,hb,c2,c4,s,c3,a0,T⟩:=hrel;have f:=J s;have n:=J c3;have HQ:=J a0;have C:=J T;have a:=J c2;have q:=J c4;have c0:=T.size;clear s c3 a0 T c2 c4;by_cases m:k<t.length
  ·obtain⟨gx,f8,e,G,f3,_,_⟩:=f.out.lies (by have:=a.out;simp;omega);injection e with e1 e2 e3
   subst e1 e3;have o:=J (o.out gx Z);obtain⟨a9,Y⟩:=LQ m a.out;obtain⟨H,E⟩:∃H,t[k]=H:=⟨_,rfl⟩;have d0:=f.out.cell a9;rw[Y,E]at d0;have f6:=f.out.free k;have f2:H<4294967296:=by rw[<-E];exact S.out _ (Pm m)
   have I:=J E;clear E Y a9 e2;by_cases N:k<l.length
   ·obtain⟨gy,f1,e,_,_,_,_⟩:=n.out.lies (by omega);injection e with e1 e2 e3
    subst e1 e3;clear e2;have d4:=n.out.cell N;obtain⟨y0,D⟩:∃y0,l[k]=y0:=⟨_,rfl⟩;rw[D]at d4;have f0:y0<4294967296:=by rw[<-D];exact Q.out _ (Pm N)
    have u:=J (show aE (l.take (k+1))=aE (l.take k)+4294967296^k*y0 by rw[dp l k N,D]);clear D;by_cases p:H<b+y0
    ·go_wp2
     go_roundw
     case rel=>exact kw (g:=H+4294967296-(b+y0)) (nb:=1) m a.out q.out f.out n.out o.out HQ.out I.out u.out C.out G (by omega) Z (by omega) (by omega) (by omega) (by omega)
     case measure=>simp[intOf];omega
    go_wp2
    go_roundw
    case rel=>exact kw (g:=H-(b+y0)) (nb:=0) m a.out q.out f.out n.out o.out HQ.out I.out u.out C.out G (by omega) Z (by omega) (by omega) (by omega) (by omega)
    case measure=>simp[intOf];omega
   have u:=J (show aE (l.take (k+1))=aE (l.take k)+4294967296^k*0 by rw[Oy (i:=k+1) (by omega),Oy (i:=k) (by omega)];simp);by_cases p:H<b
   ·go_wp2
    go_roundw
    case rel=>exact kw (y0:=0) (g:=H+4294967296-b) (nb:=1) m a.out q.out f.out n.out o.out HQ.out I.out u.out C.out G (by omega) Z (by omega) (by omega) (by omega) (by omega)
    case measure=>simp[intOf];omega
   go_wp2
   go_roundw
   case rel=>exact kw (y0:=0) (g:=H-b) (nb:=0) m a.out q.out f.out n.out o.out HQ.out I.out u.out C.out G (by omega) Z (by omega) (by omega) (by omega) (by omega)
   case measure=>simp[intOf];omega
  obtain rfl:k=t.length:=by omega
  have e6:l.length<=t.length:=by
   have:=bi e5;rw[c9.out,c5.out]at this;exact this
  have hv:aE r=aE x-aE y:=by
   have h1:=HQ.out;rw[Oy e6,Pl,b5.out,a4.out]at h1;have h2:=cf r q.out;rw[a.out]at h2;have h3:b=0\/b=1:=by omega
   rcases h3 with rfl|rfl
   ·rw[QN]at h1;omega
   rw[Qc]at h1;omega
  have HV:=J hv;clear hv;have s:OwnN wr w.heap.size (.slice Ax t.length cx) r:=by have:=f.out;rwa[Sa,O5]at this
  have b4:IsN wr Ax cx r:=by
   obtain⟨A',c',e,hi⟩:=s.is q.out;injection e with e1 e2 e3
   subst e1 e3;exact hi
  have b0:=J b4;clear s b4;have j:=ep Ax cx r wr b0.out (by have:=a.out;omega);rw[a.out,HV.out]at j;have e0:=J j;clear j
  go_wp2_with fail
  refine e0.out.mono ?_;rintro e w5 ⟨v5,rfl,b3,a5⟩;have d3:=J (b3.base_le c0);have e4:=J (aF C.out a5 c0);clear b3 a5
  go_wp2
  go_ret2
  exact⟨v5,Z,d3.out,e4.out⟩
theorem LS(a b:Nat)(c:a<4294967296)(e:b<=1)(d:a%2=0):bits .or .u32 (a:Int) (b:Int)=((a+b:Nat):Int):=by
 rw[u32_or_nat a b c (by omega)];have h:a|||b=a+b:=by
  have:=PU (i:=1) (b:=b) (by omega) (a/2);rw[Qp]at this;rw[show a/2*2^1=a by omega]at this;exact this.symm
 rw[h]
def DblInv(w:World)(ds:List Nat)(bit:Nat)(v c i:Value)(wr:World):Prop:=
 ∃(k cy:Nat) (o:List Nat),k<=ds.length/\i=.int .i64 k/\c=.int .u32 cy/\cy<=1/\o.length=k/\Digs o/\OwnN wr w.heap.size v o/\aE o+4294967296^k*cy=2*aE (ds.take k)+bit/\Below w.heap.size w wr
theorem ze{w wr:World}{b o:List Nat}{bit k a d:Nat}{v:Value}{x i:Int}(l:k<b.length)(f:o.length=k)(g:Digs o)(q:b[k]=d)(j:d<4294967296)(s:a<=1)(c:OwnN wr w.heap.size v (o++[d*2%4294967296+a]))(t:aE o+4294967296^k*a=2*aE (b.take k)+bit)(n:Below w.heap.size w wr)
  (p:x=((d/2147483648:Nat):Int)) (m:i=((k+1:Nat):Int)):DblInv w b bit v (.int .u32 x) (.int .i64 i) wr:=by
 subst p m;refine⟨k+1,d/2147483648,o++[d*2%4294967296+a],l,Z,Z,by omega,by simp[f],fun e r=>?_,c,?_,n⟩
 ·rcases OZ.1 r with h|h
  ·exact g e h
  simp at h;omega
 rw[dY _ _ k f,dp b k l,q,OO];generalize 4294967296^k=P at*;have u:P*(d*2%4294967296+a)+P*(4294967296*(d/2147483648))=P*(2*d)+P*a:=by
  rw[<-OU,<-OU];congr 1;omega
 rw[OL];have y:P*(2*d)=2*(P*d):=by rw[<-OL,OF P 2,OL]
 omega
theorem tu(A:Option Addr)(c:Nat)(g:List Nat)(bit:Nat)(w:World)(h:IsN w A c g)(hl:g.length<=1073741822)(I:bit<=1):
  Calls Tryz.prog 226 #[.slice A g.length c,.int .u32 bit] w (NatPost (2*aE g+bit) w):=by
 have HI:=J h;clear h
 go_enter Tryz.func226,Tryz.ntmps226
 go_wp2
 go_loopw [1,5,6] (fun cb v i wr=>DblInv w g bit v cb i wr) (fun _ _ i _=>g.length-(intOf i).toNat)
 case atStart=>exact⟨0,bit,[],OA _,Z,Z,I,Z,fun d x=>by simp at x,OwnN.nil _ _,by simp[aE],Below.refl _ _⟩
 case round=>
  obtain⟨k,t,o,hk,rfl,rfl,G,B,K,l,C,s⟩:=hrel;have HO:=J l;have HQ:=J C;have O:=J s;have D:=J B;have M:=J K;have q:=s.size;have X:o.length<=1073741822:=by omega
  clear l C s B K;by_cases j:k<g.length
  ·obtain⟨b,off,rfl,Y,hc⟩:=HI.out.digit j;obtain⟨d,x⟩:∃d,g[k]=d:=⟨_,rfl⟩;have u:=(O.out.cell (p:=⟨b,off+k,none⟩) Y).trans (hc k j);rw[x]at u;have y:d<4294967296:=by rw[<-x];exact HI.out.ok _ (Pm j)
   have HD:=J x;have r:=LS (d*2%4294967296) t (by omega) G (by omega);rw[show((d*2%4294967296:Nat):Int)=(d:Int)*2%4294967296 by omega]at r;have U:=J r;clear r;clear hc x
   go_wp2_with (at_builtin;refine gO w.heap.size _ o _ (d*2%4294967296+t) (.tmp 13) (.tmp 21) rfl rfl rfl rfl HO.out U.out (by omega) q ?_;intro v2 V a f;have P:=J a;have m:=J f;have u:=(f.below.cell (p:=⟨b,off+k,none⟩) Y).trans u;clear a f)
   go_roundw
   case rel=>exact ze j D.out M.out HD.out y G P.out HQ.out (O.out.trans m.out.below) (by omega) (by omega)
   case measure=>simp[intOf];omega
  obtain rfl:k=g.length:=by omega
  have hv:aE (o++[t])=2*aE g+bit:=by
   have:=HQ.out;rw[Pl]at this;rw[dY o t _ D.out];omega
  have W:=J hv;have z:Hid (Digs (o++[t])):=fun e hm=>by
   rcases OZ.1 hm with h|h
   ·exact M.out e h
   simp at h;omega
  obtain⟨L,N⟩:∃L,o++[t]=L:=⟨_,rfl⟩;have S:L.length<=1073741823:=by rw[<-N];simp;omega
  have HL:=J N;rw[N]at W z;clear hv N
  go_wp2_with (at_builtin;refine gO w.heap.size _ o _ t (.tmp 28) (.tmp 30) rfl rfl rfl rfl HO.out rfl (by omega) q ?_;intro v2 V a f;rw[HL.out]at a;have m:=J f;obtain⟨A2,c2,e2,E⟩:=a.is z.out;subst e2;have R:=J E;have F:w.heap.size<=V.heap.size:=Oq q f.size;clear a f E)
  refine(ep A2 c2 L _ R.out S).mono ?_;rintro e w3 ⟨v3,rfl,n,H⟩;rw[W.out]at n;have Q:=J (n.base_le F);have T:=J ((O.out.trans m.out.below).trans (H.mono F));clear n H
  go_wp2
  go_ret
  exact⟨v3,Z,Q.out,T.out⟩
def HalfInv(w:World)(ds:List Nat)(v i:Value)(wr:World):Prop:=
 ∃(k:Nat) (o:List Nat),k<=ds.length/\i=.int .i64 k/\o.length=k/\Digs o/\OwnN wr w.heap.size v o/\2*aE o+ds.getD 0 0%2=aE (ds.take k)+4294967296^k*(ds.getD k 0%2)/\Below w.heap.size w wr
theorem po{w wr:World}{a o:List Nat}{k d b:Nat}{v:Value}{i:Int}(g:k<a.length)(f:o.length=k)(j:Digs o)(m:a[k]=d)(u:a.getD (k+1) 0%2=b)(l:d<4294967296)(c:OwnN wr w.heap.size v (o++[d/2+2147483648*b]))
  (p:2*aE o+a.getD 0 0%2=aE (a.take k)+4294967296^k*(a.getD k 0%2)) (r:Below w.heap.size w wr) (n:i=((k+1:Nat):Int)):HalfInv w a v (.int .i64 i) wr:=by
 subst n;have q:a.getD k 0=d:=by rw[OE,Og g,OW,m]
 have s:b<=1:=by omega
 refine⟨k+1,o++[d/2+2147483648*b],g,Z,by simp[f],fun e t=>?_,c,?_,r⟩
 ·rcases OZ.1 t with h|h
  ·exact j e h
  simp at h;omega
 rw[dY _ _ k f,dp a k g,m,u,OO];rw[q]at p;generalize 4294967296^k=P at*;have x:2*(P*(d/2+2147483648*b))+P*(d%2)=P*d+P*(4294967296*b):=by
  rw[<-OU,<-OL,OF 2 P,OL,<-OU];congr 1;omega
 rw[OL,OU];omega
theorem JW(a x:Nat)(c:a<2147483648):bits .or .u32 (a:Int) ((x*2147483648%4294967296:Nat):Int)=((a+2147483648*(x%2):Nat):Int):=by
 have e:x*2147483648%4294967296=2147483648*(x%2):=by omega
 rw[e,u32_or_nat a (2147483648*(x%2)) (by omega) (by omega)];have h:a|||2147483648*(x%2)=2147483648*(x%2)+a:=by
  have:=PU (i:=31) (b:=a) (by omega) (x%2);rw[Qp]at this;rw[Sk,show 2147483648*(x%2)=x%2*2^31 by omega];exact this.symm
 rw[h,P0]
theorem GS(A:Option Addr)(c:Nat)(g:List Nat)(w:World)(h:IsN w A c g)(hl:g.length<=1073741822):
  Calls Tryz.prog 225 #[.slice A g.length c] w (NatPost (aE g/2) w):=by
 have V:=J h;clear h
 go_enter Tryz.func225,Tryz.ntmps225
 go_wp2
 go_loopw [3,4] (fun v i wr=>HalfInv w g v i wr) (fun _ i _=>g.length-(intOf i).toNat)
 case atStart=>exact⟨0,[],OA _,Z,Z,fun d B=>by simp at B,OwnN.nil _ _,by simp[aE],Below.refl _ _⟩
 case round=>
  obtain⟨k,o,hk,rfl,D,I,q,E,y⟩:=hrel;have R:=J q;have S:=J E;have C:=J y;have F:=J D;have z:=J I;have m:=y.size;have W:o.length<=1073741822:=by omega
  clear q E y D I;by_cases j:k<g.length
  ·obtain⟨b,off,rfl,Y,M⟩:=V.out.digit j;obtain⟨d,B⟩:∃d,g[k]=d:=⟨_,rfl⟩;have T:=(C.out.cell (p:=⟨b,off+k,none⟩) Y).trans (M k j);rw[B]at T;have n:d<4294967296:=by rw[<-B];exact V.out.ok _ (Pm j)
   have HD:=J B;clear B;by_cases l:k+1<g.length
   ·obtain⟨x,L⟩:∃x,g[k+1]=x:=⟨_,rfl⟩;have K:=(C.out.cell (p:=⟨b,off+(k+1),none⟩) Y).trans (M (k+1) l);rw[L]at K;have X:x<4294967296:=by rw[<-L];exact V.out.ok _ (Pm l)
    have P:=J (show g.getD (k+1) 0%2=x%2 by rw[OE,Og l,OW,L]);have u:=JW (d/2) x (by omega);rw[show((d/2:Nat):Int)=(d:Int)/2 by omega,show((x*2147483648%4294967296:Nat):Int)=(x:Int)*2147483648%4294967296 by omega]at u;have U:=J u;clear u L M
    go_wp2_with (at_builtin;refine gO w.heap.size _ o _ (d/2+2147483648*(x%2)) (.tmp 30) (.tmp 32) rfl rfl rfl rfl R.out U.out (by omega) m ?_;intro v2 w2 a f;have t:=J a;have r:=J f;clear a f)
    go_roundw
    case rel=>exact po j F.out z.out HD.out P.out n t.out S.out (C.out.trans r.out.below) (by omega)
    case measure=>simp[intOf];omega
   have P:=J (show g.getD (k+1) 0%2=0 by rw[OE,Pi (by omega)];rfl);clear M
   go_wp2_with (at_builtin;refine gO w.heap.size _ o _ (d/2+2147483648*0) (.tmp 30) (.tmp 32) rfl rfl rfl rfl R.out (by omega) (by omega) m ?_;intro v2 w2 a f;have t:=J a;have r:=J f;clear a f)
   go_roundw
   case rel=>exact po j F.out z.out HD.out P.out n t.out S.out (C.out.trans r.out.below) (by omega)
   case measure=>simp[intOf];omega
  obtain rfl:k=g.length:=by omega
  have hv:aE o=aE g/2:=by
   have h1:=S.out;rw[Pl,OE (i:=g.length),Pi (Oh _)]at h1;simp only[Option.getD_none,Nat.zero_mod,QN,PI]at h1;omega
  have HV:=J hv;clear hv;obtain⟨A2,c2,e2,G⟩:=R.out.is z.out;subst e2;have O:=J G;clear G
  go_wp2_with fail
  refine(ep A2 c2 o _ O.out (by omega)).mono ?_;rintro e w3 ⟨v3,rfl,s,H⟩;rw[HV.out]at s;have N:=J (s.base_le m);have Q:=J (aF C.out H m);clear s H
  go_wp2
  go_ret
  exact⟨v3,Z,N.out,Q.out⟩
theorem zf{l:List Nat}{d:Nat}(h:Digs l)(c:d<4294967296):Digs (l++[d]):=fun e b=>by
 rcases OZ.1 b with a|a
 ·exact h e a
 simp at a;omega
theorem vI(l:List Nat)(k:Nat)(h:l.length<=k):aE (l.take (k+1))=aE (l.take k)+4294967296^k*0:=by
 rw[Oy (i:=k+1) (by omega),Oy (i:=k) (by omega)];simp
def NAddInv(w:World)(dx dy:List Nat)(v c i:Value)(wr:World):Prop:=
 ∃(k cy:Nat) (o:List Nat),(k<=dx.length\/k<=dy.length)/\i=.int .i64 k/\c=.int .u64 cy/\cy<=1/\o.length=k/\Digs o/\OwnN wr w.heap.size v o/\aE o+4294967296^k*cy=aE (dx.take k)+aE (dy.take k)/\Below w.heap.size w wr
theorem mc{w wr:World}{e b o:List Nat}{k a x y s:Nat}{v:Value}{c i:Int}(t:k<e.length\/k<b.length)(f:o.length=k)(g:Digs o)(n:s=a+x+y)(p:s<8589934592)(d:OwnN wr w.heap.size v (o++[s%4294967296]))(r:aE o+4294967296^k*a=aE (e.take k)+aE (b.take k))
  (l:aE (e.take (k+1))=aE (e.take k)+4294967296^k*x) (q:aE (b.take (k+1))=aE (b.take k)+4294967296^k*y) (j:Below w.heap.size w wr) (m:c=((s/4294967296:Nat):Int)) (h:i=((k+1:Nat):Int)):NAddInv w e b v (.int .u64 c) (.int .i64 i) wr:=by
 subst m h n;refine⟨k+1,(a+x+y)/4294967296,o++[(a+x+y)%4294967296],by omega,Z,Z,by omega,by simp[f],zf g (by omega),d,?_,j⟩;rw[dY _ _ k f,l,q,OO];generalize 4294967296^k=P at*;have u:P*((a+x+y)%4294967296)+P*(4294967296*((a+x+y)/4294967296))=P*a+P*x+P*y:=by
  rw[<-OU,<-OU,<-OU];congr 1;omega
 rw[OL];omega
theorem BL(A B:Option Addr)(ca cb:Nat)(j g:List Nat)(w:World)(h:IsN w A ca j)(h':IsN w B cb g)(hl:j.length<=1073741822)(a5:g.length<=1073741822):
  Calls Tryz.prog 214 #[.slice A j.length ca,.slice B g.length cb] w (NatPost (aE j+aE g) w):=by
 have HI:=J h;have HJ:=J h';clear h h'
 go_enter Tryz.func214,Tryz.ntmps214
 go_wp2
 go_loopw [5,6,7] (fun v cb i wr=>NAddInv w j g v cb i wr) (fun _ _ i _=>j.length+g.length-(intOf i).toNat)
 case atStart=>exact⟨0,0,[],.inl (OA _),Z,Z,by omega,Z,fun d hd=>by simp at hd,OwnN.nil _ _,by simp[aE],Below.refl _ _⟩
 case round=>
  obtain⟨k,u,o,hk,rfl,rfl,m,R,Y,H,S,N⟩:=hrel;have HO:=J H;have HQ:=J S;have F:=J N;have D:=J R;have E:=J Y;have q:=N.size;have a4:o.length<=1073741822:=by omega
  clear H S N R Y;by_cases G:k<j.length
  ·by_cases C:k<g.length
   ·obtain⟨qx,ox,rfl,M,n⟩:=HI.out.digit G;obtain⟨x,c⟩:∃x,j[k]=x:=⟨_,rfl⟩;have z:=(F.out.cell (p:=⟨qx,ox+k,none⟩) M).trans (n k G);rw[c]at z;have P:x<4294967296:=by rw[<-c];exact HI.out.ok _ (Pm G)
    have T:=J (show aE (j.take (k+1))=aE (j.take k)+4294967296^k*x by rw[dp j k G,c]);clear n c;obtain⟨qy,oy,rfl,K,m⟩:=HJ.out.digit C;obtain⟨y,f⟩:∃y,g[k]=y:=⟨_,rfl⟩;have t:=(F.out.cell (p:=⟨qy,oy+k,none⟩) K).trans (m k C);rw[f]at t;have Q:y<4294967296:=by rw[<-f];exact HJ.out.ok _ (Pm C)
    have U:=J (show aE (g.take (k+1))=aE (g.take k)+4294967296^k*y by rw[dp g k C,f]);clear m f
    go_wp2_with (at_builtin;refine gO w.heap.size _ o _ ((u+x+y)%4294967296) (.tmp 42) (.tmp 45) rfl rfl rfl rfl HO.out (by omega) (by omega) q ?_;intro v2 w2 a b;have r:=J a;have l:=J b;clear a b)
    go_roundw
    case rel=>exact mc (s:=u+x+y) (x:=x) (y:=y) (by omega) D.out E.out (by omega) (by omega) r.out HQ.out T.out U.out (F.out.trans l.out.below) (by omega) (by omega)
    case measure=>simp[intOf];omega
   obtain⟨qx,ox,rfl,M,n⟩:=HI.out.digit G;obtain⟨x,c⟩:∃x,j[k]=x:=⟨_,rfl⟩;have z:=(F.out.cell (p:=⟨qx,ox+k,none⟩) M).trans (n k G);rw[c]at z;have P:x<4294967296:=by rw[<-c];exact HI.out.ok _ (Pm G)
   have T:=J (show aE (j.take (k+1))=aE (j.take k)+4294967296^k*x by rw[dp j k G,c]);clear n c;have U:=J (vI g k (by omega))
   go_wp2_with (at_builtin;refine gO w.heap.size _ o _ ((u+x)%4294967296) (.tmp 42) (.tmp 45) rfl rfl rfl rfl HO.out (by omega) (by omega) q ?_;intro v2 w2 a b;have r:=J a;have l:=J b;clear a b)
   go_roundw
   case rel=>exact mc (s:=u+x) (x:=x) (y:=0) (by omega) D.out E.out (by omega) (by omega) r.out HQ.out T.out U.out (F.out.trans l.out.below) (by omega) (by omega)
   case measure=>simp[intOf];omega
  by_cases C:k<g.length
  ·have T:=J (vI j k (by omega));obtain⟨qy,oy,rfl,K,m⟩:=HJ.out.digit C;obtain⟨y,f⟩:∃y,g[k]=y:=⟨_,rfl⟩;have t:=(F.out.cell (p:=⟨qy,oy+k,none⟩) K).trans (m k C);rw[f]at t;have Q:y<4294967296:=by rw[<-f];exact HJ.out.ok _ (Pm C)
   have U:=J (show aE (g.take (k+1))=aE (g.take k)+4294967296^k*y by rw[dp g k C,f]);clear m f
   go_wp2_with (at_builtin;refine gO w.heap.size _ o _ ((u+y)%4294967296) (.tmp 42) (.tmp 45) rfl rfl rfl rfl HO.out (by omega) (by omega) q ?_;intro v2 w2 a b;have r:=J a;have l:=J b;clear a b)
   go_roundw
   case rel=>exact mc (s:=u+y) (x:=0) (y:=y) (by omega) D.out E.out (by omega) (by omega) r.out HQ.out T.out U.out (F.out.trans l.out.below) (by omega) (by omega)
   case measure=>simp[intOf];omega
  have hv:aE (o++[u])=aE j+aE g:=by
   have:=HQ.out;rw[Oy (by omega),Oy (by omega)]at this;rw[dY o u _ D.out];omega
  have HV:=J hv;have O:Hid (Digs (o++[u])):=zf E.out (by omega);obtain⟨L,hL⟩:∃L,o++[u]=L:=⟨_,rfl⟩;have a2:L.length<=1073741823:=by rw[<-hL];simp;omega
  have HL:=J hL;rw[hL]at HV O;clear hv hL
  go_wp2_with (at_builtin;refine gO w.heap.size _ o _ u (.tmp 49) (.tmp 52) rfl rfl rfl rfl HO.out (by omega) (by omega) q ?_;intro v2 w2 a b;rw[HL.out]at a;have l:=J b;obtain⟨A2,c2,e2,V⟩:=a.is O.out;subst e2;have a1:=J V;have W:w.heap.size<=w2.heap.size:=Oq q b.size;clear a b V)
  refine(ep A2 c2 L _ a1.out a2).mono ?_;rintro e w3 ⟨v3,rfl,I,X⟩;rw[HV.out]at I;have a0:=J (I.base_le W);have a3:=J ((F.out.trans l.out.below).trans (X.mono W));clear I X
  go_wp2
  go_ret
  exact⟨v3,Z,a0.out,a3.out⟩
end Go.Proofs.YtfoejfohbkmmeaaGreatDoor
