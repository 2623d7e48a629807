import Derived.Test.YtfoejfohbkmmeaaGreatDoorK14
set_option maxRecDepth 100000
set_option maxHeartbeats 8000000
set_option linter.defProp false
open Go.Proofs.Tryz
namespace Go.Proofs.YtfoejfohbkmmeaaGreatDoor
open Go.RowKit
open Lib renaming hid→J
def OwnN.win{w:World}{base g m b:Nat}{L:List Nat}(h:OwnN w base (.slice (some ⟨g,0,none⟩) m b) L)(q:Digs L)(j k c:Nat)(t:j+k<=L.length)(v:k<=c)(p:c<=9223372036854775807):IsN w (some ⟨g,j,none⟩) c ((L.drop j).take k):=by
 have n:((L.drop j).take k).length=k:=by rw[Rb,Rm];omega
 refine⟨λr=>⟨g,j,Z,?_,λi u o=>?_⟩,λe=>(by cases e),O,p,(q.drop j).take k⟩
 ·rw[dY,n]at r;obtain⟨s,f,e,_,d,_⟩:=h.lies O;injection e with a
  injection a with a
  injection a with a
  rw[a];exact d
 have l:=(Q6.1 o).1;rw[dY,n]at l;rw[h.cell (i:=j+i) O,<-o];simp only[cT,RK];rw[R7,if_pos l,Si,Q2 O];rfl
def OwnN.keep{w w':World}{base g b n a:Nat}{L:List Nat}(h:OwnN w base (.slice (some ⟨g,0,none⟩) n a) L)(d:w.grownBy w' (some b))(c:g≠b):OwnN w' base (.slice (some ⟨g,0,none⟩) n a) L:=by
 unfold OwnN at h⊢;refine h.kept d (.inr ?_);show some g≠some b
 exact λe=>c (by injection e)
def JT{Y n d s:Nat}(o:1<=n)(g:(aD Y).length=n)(b:∃h:n-1<(aD Y).length,(aD Y)[n-1]=d)(i:2147483648<=2^s*d)(j:2^s*(d+1)<=4294967296):2^s*Y<4294967296^n/\2147483648*4294967296^(n-1)<=2^s*Y:=by
 obtain⟨c,b⟩:=b;have e:=dO (aD Y) (n-1) c;rw[show n-1+1=n by omega,Rf (Tf g),aW,b]at e;have k:=cC ((aD Y).take (n-1)) λx l=>ck Y x (RG l)
 rw[Rb,g,SD O]at k;have m:4294967296^n=4294967296^(n-1)*4294967296:=by rw[<-RA];congr 1;omega
 generalize 4294967296^(n-1)=P at*;generalize aG ((aD Y).take (n-1))=t at*;generalize 2^s=S at*;constructor
 ·have a:S*Y<S*(P*(d+1))\/S=0:=by
   rcases RV S with h|h
   ·exact .inr h
   left;refine UR ?_ h;rw[RF];omega
  rcases a with a|a
  ·have f:S*(P*(d+1))<=P*4294967296:=by rw[SQ];exact Sz _ j
   omega
  subst a;omega
 have a:P*2147483648<=P*(S*d):=Sz _ i;have f:S*(P*d)<=S*Y:=Sz _ O;rw[SQ]at f;omega
def OA{vs:List Nat}{n V:Nat}(i:1<=n)(c:vs.length=n)(f:Digs vs)(g:aG vs=V)(h:2147483648*4294967296^(n-1)<=V):∀h:n-1<vs.length,2147483648<=vs[n-1]:=λb=>by
 have e:=dO vs (n-1) b;rw[show n-1+1=n by omega,Rf (Tf c),g]at e;have d:=cC (vs.take (n-1)) (f.take _);rw[Rb,c,SD O]at d;generalize 4294967296^(n-1)=P at*;generalize aG (vs.take (n-1))=t at*;generalize vs[n-1]=x at*;rcases RE x 2147483648 with a|a
 ·exfalso;have:P*(x+1)<=P*2147483648:=Sz _ a;rw[RF]at this;omega
 exact a
def JU{U vs:List Nat}{j n V la:Nat}(q:U.length=la+1)(r:Digs U)(g:vs.length=n)(f:Digs vs)(l:aG vs=V)(s:j+n<=la)(d:aG U<V*4294967296^(j+1)):
  aG U=aG (U.take j)+4294967296^j*aG ((U.drop j).take (n+1))/\aG (U.drop (j+(n+1)))=0/\aG ((U.drop j).take (n+1))<4294967296*V:=by
 have k:=oh U j O0;have a:=oh (U.drop j) (n+1) (by rw[Rm];omega);rw[Vm]at a;have b:=cC vs f;rw[g,l]at b;rw[RA]at d;have u:0<4294967296^j:=Sh I1;have i:(4294967296:Nat)^(n+1)=4294967296^n*4294967296:=RA ..;generalize p:(4294967296:Nat)^j=P at*;generalize (4294967296:Nat)^n=R at*;rw[i]at a;generalize aG (U.take j)=t at*;generalize aG ((U.drop j).take (n+1))=x at*;generalize aG (U.drop (j+(n+1)))=y at*;generalize aG (U.drop j)=z at*;have m:z<4294967296*V:=by
  rcases RE z (4294967296*V)with c|c
  ·exact c
  exfalso;have o:P*(4294967296*V)<=P*z:=Sz _ c;have e:V*(P*4294967296)=P*(4294967296*V):=by rw[SQ,Rk V]
  omega
 have h:y=0:=by
  refine Vg λh=>?_
  have:R*4294967296*1<=R*4294967296*y:=Sz _ h;omega
 subst h;rw[TL,SB]at a;exact⟨by rw[k,a],Z,O0⟩
def LdInv(w:World)(gv gu gq n la V Z:Nat)(vs:List Nat)(i:Value)(wr:World):Prop:=
 ∃(k:Nat) (U qs:List Nat),k<=la+1-n/\i=.int .i64 ((k:Int)-1)/\U.length=la+1/\Digs U/\OwnN wr w.heap.size (.slice (some ⟨gu,0,none⟩) (la+1) (la+1)) U/\qs.length=la+1-n-k/\Digs qs/\OwnN wr w.heap.size (.slice (some ⟨gq,0,none⟩) (la+1-n) (la+1-n)) (List.replicate k 0++qs)/\OwnN wr w.heap.size (.slice (some ⟨gv,0,none⟩) n n) vs/\Z=aG qs*4294967296^k*V+aG U/\aG U<V*4294967296^k/\Below w.heap.size w wr
def MD{U a qs:List Nat}{j n V la Z g:Nat}(u:U.length=la+1)(v:j+n<=la)(w:a.length=n+1)(r:Digs U)(k:aG U=aG (U.take j)+4294967296^j*aG ((U.drop j).take (n+1)))(l:aG (U.drop (j+(n+1)))=0)(s:g=aG ((U.drop j).take (n+1))/V)(e:aG a=aG ((U.drop j).take (n+1))%V)(p:0<V)(d:Z=aG qs*4294967296^(j+1)*V+aG U):
  Z=aG (g::qs)*4294967296^j*V+aG (U.take j++(a++U.drop (j+(n+1))))/\aG (U.take j++(a++U.drop (j+(n+1))))<V*4294967296^j:=by
 have i:aG (U.take j++(a++U.drop (j+(n+1))))=aG (U.take j)+4294967296^j*aG a:=by
  rw[fL,fL,l,TL,SB,Rb,SD O0]
 have m:=cC (U.take j) (r.take _);rw[Rb,SD O0]at m;have b:=Tt (aG ((U.drop j).take (n+1))) V;have c:=RJ (aG ((U.drop j).take (n+1))) p;rw[<-s,<-e]at b;rw[<-e]at c;rw[i,aG];rw[RA]at d;generalize (4294967296:Nat)^j=P at*;generalize aG (U.take j)=t at*;generalize aG ((U.drop j).take (n+1))=x at*;generalize aG a=o at*;generalize aG qs=q at*;constructor
 ·rw[d,k,<-b,RF P,R2,R2];have f:q*(P*4294967296)*V=4294967296*q*P*V:=by
   congr 1;rw[Rk P,<-Ry,Rk q]
  have h:P*(V*g)=g*P*V:=by rw[Rk V,<-Ry,Rk P]
  rw[f,h];omega
 have:P*(o+1)<=P*V:=Sz _ c;rw[RF]at this;rw[Rk V];omega
def uZ{w wr r:World}{s h c n la V Z j g:Nat}{vs U a qs:List Nat}{z i:Int}(Q:c≠h/\c≠s/\s≠h/\w.heap.size<=h/\w.heap.size<=c)(P:j+1<=la+1-n)(t:U.length=la+1)(b:Digs U)(F:vs.length=n)(E:Digs vs)(S:aG vs=V)(G:0<V)(x:aG U<V*4294967296^(j+1))(q:qs.length=la+1-n-(j+1))(D:Digs qs)
  (A:OwnN wr w.heap.size (.slice (some ⟨c,0,none⟩) (la+1-n) (la+1-n)) (List.replicate (j+1) 0++qs)) (C:OwnN wr w.heap.size (.slice (some ⟨s,0,none⟩) n n) vs) (N:Z=aG qs*4294967296^(j+1)*V+aG U) (H:Below w.heap.size w wr) (f:wr.grownBy r (some h)) (B:OwnN r w.heap.size (.slice (some ⟨h,0,none⟩) (la+1) (la+1)) (U.take j++(a++U.drop (j+(n+1))))) (o:a.length=n+1) (y:Digs a) (I:g=aG ((U.drop j).take (n+1))/V) (R:aG a=aG ((U.drop j).take (n+1))%V) (T:z=(g:Int)) (O:i=(j:Int)-1):
  LdInv w s h c n la V Z vs (.int .i64 i) (r.setCell ⟨c,j,none⟩ (.int .u32 z)):=by
 subst O;obtain⟨J,W,X,q4,Y⟩:=Q;obtain⟨K,L,M⟩:=JU t b F E S (j:=j) O0 x;have l:g<4294967296:=by rw[I,Sg G];exact M
 have m:=kO r c j (.int .u32 z);have u:Below w.heap.size w r:=H.grown f H.size λk e=>by injection e with e;omega
 obtain⟨s1,s2⟩:=MD t O0 o b K L I R G N;refine⟨j,U.take j++(a++U.drop (j+(n+1))),g::qs,O0,Zz,by rw[oV (k:=n+1) O0 o,t],qJ (b.take _) (qJ y (b.drop _)),B.keep m (λe=>J e.symm),by rw[Q5,q];omega,λd v=>?_,?_,(C.keep f X).keep m (λe=>W e.symm),s1,s2,u.setCell (p:=⟨c,j,none⟩) Y _⟩
 ·rcases Ri.1 v with rfl|v
  ·exact l
  exact D d v
 have:=(A.keep f J).put (i:=j) (by simp[q];omega) z g T;rw[x7]at this;exact this
def JV{X Y s V R Q:Nat}(h:V=2^s*Y)(a:2^s*X=Q*V+R)(g:R<V):X/Y=Q/\X%Y=R/2^s:=by
 have c:0<2^s:=Sh I;generalize 2^s=S at*;subst h;have j:0<Y:=RR λe=>by subst e;omega
 obtain⟨r,rfl⟩:∃r,R=S*r:=by
  have d:S∣Q*(S*Y)+R:=⟨X,a.symm⟩;have f:S∣Q*(S*Y):=⟨Q*Y,SQ ..⟩;exact(Nat.dvd_add_right f).1 d
 have b:r<Y:=Nat.lt_of_mul_lt_mul_left g;have i:X=Q*Y+r:=by
  refine UX c ?_;rw[a,RF,SQ]
 rw[TZ _ c,i];refine⟨?_,?_⟩
 ·rw[Rk,U9 j,S5 b];omega
 rw[Rk,UJ,RC b]
def JW{n:Nat}(h:(aD n).length-1<(aD n).length):(aD n)[(aD n).length-1]≠0:=λe=>by
 have a:=dO (aD n) _ h;rw[show(aD n).length-1+1=(aD n).length by omega,Sa,aW,e,TL,SB]at a;have b:=cC ((aD n).take ((aD n).length-1)) λx c=>ck n x (RG c)
 rw[Rb,SD O,<-a]at b;have:=bq b;omega
def DU{d:Nat}(g:0<d)(h:d<4294967296):∃s:Nat,s<32/\(32-(Lib.bitLen d:Int))=(s:Int)/\2147483648<=2^s*d/\2^s*(d+1)<=4294967296:=by
 obtain⟨f,a,c⟩:=Lib.bitLenAux_bounds 64 d O O;have i:Lib.bitLen d<=32:=Lib.bitLen_le d 32 I (by rw[show(2:Nat)^32=4294967296 by decide];exact h);change 1<=Lib.bitLen d at f;change 2^(Lib.bitLen d-1)<=d at a;change d<2^Lib.bitLen d at c;generalize Lib.bitLen d=b at*;refine⟨32-b,O,O,?_,?_⟩
 ·have e:2^(32-b)*2^(b-1)=2147483648:=by rw[<-SF,show 32-b+(b-1)=31 by omega]
  rw[<-e];exact Sz _ a
 have e:2^(32-b)*2^b=4294967296:=by rw[<-SF,show 32-b+b=32 by omega]
 rw[<-e];exact Sz _ c
def JX{X V s n la:Nat}(j:s<32)(f:X<4294967296^la)(i:1<=n)(g:n<=la)(d:2147483648*4294967296^(n-1)<=V):2^s*X<V*4294967296^(la+1-n):=by
 have a:2^s<=2147483648:=by
  have b:(2:Nat)^s<=2^31:=Rx I O;have c:(2:Nat)^31=2147483648:=I
  omega
 have e:2147483648*4294967296^la=2147483648*4294967296^(n-1)*4294967296^(la+1-n):=by rw[Ry,<-SF];congr 2;omega
 have b:2^s*X<=2147483648*X:=RB _ a;have c:2147483648*4294967296^(n-1)*4294967296^(la+1-n)<=V*4294967296^(la+1-n):=RB _ d;have h:2147483648*X<2147483648*4294967296^la:=UR f I;omega
def QR(q r:Nat)(W:World)(v:Value):Prop:=∃a b,v=.tuple #[a,b]/\IsD W a q/\IsD W b r
def PE(gq:Nat)(gu:Nat)(la:Nat)(n:Nat)(m:Nat)(s:Nat)(a:Nat)(b:Nat):List (Value->World->Prop):=[
 λr _=>r=.slice (some ⟨gq,0,none⟩) m m,
 λr W=>IsD W r a,
 λr _=>r=.slice (some ⟨gu,0,none⟩) (la+1) (la+1),
 λr _=>r=.int .i64 (n:Int),
 λr _=>r=.slice (some ⟨gu,0,none⟩) n (la+1),
 λr _=>r=.int .u64 (s:Int),
 λr W=>IsD W r b,
 λr W=>IsD W r a,
 λr W=>IsD W r b]
def G4(e:Nat)(f:Nat)(la:Nat)(n:Nat)(m:Nat)(s:Nat)(a:Nat)(b:Nat)(d:World):Stab d (PE e f la n m s a b):=
 .eq<|.cons (λ_ _ _ _ h c=>IsD.below h c)<|.eq<|.eq<|.eq<|.eq<|.cons (λ_ _ _ _ h c=>IsD.below h c)<|.cons (λ_ _ _ _ h c=>IsD.below h c)<|.cons (λ_ _ _ _ h c=>IsD.below h c)<|.nil
def PF{u v:Value}{X Y:Nat}{w:World}(hu:IsD w u X)(hv:IsD w v Y)(A0:(aD X).length<=1048576)(h2:2<=(aD Y).length)(z5:Y<=X):Calls prog 245 #[u,v] w (iB (QR (X/Y) (X%Y)) w):=by
 obtain⟨A,ca,f,rfl,q7,i3⟩:=hu.open_;obtain⟨B,cb,a,rfl,q8,O⟩:=hv.open_;have z9:a.length<=f.length:=by rw[i3.out,O.out];exact bh z5
 have E0:f.length<=1048576:=by rw[i3.out];exact A0
 have A1:2<=a.length:=by rw[O.out];exact h2
 have k5:=J q7;have f2:=J q8;have HX:Hid (aG f=X):=by rw[i3.out];exact aW X
 have HY:Hid (aG a=Y):=by rw[O.out];exact aW Y
 clear hu hv q7 q8;obtain⟨b2,o2,rfl,D1,q3⟩:=f2.out.digit (i:=a.length-1) O0;have cd:=q3 (a.length-1) O0;have e8:=f2.out.lt (i:=a.length-1) O0;have q4:0<a[a.length-1]'O0:=by
  refine RR λe=>?_
  have i4:=O.out;subst i4;exact JW O0 e
 obtain⟨d,hd⟩:∃d,a[a.length-1]'O0=d:=⟨_,Z⟩;rw[hd]at cd e8 q4;obtain⟨s,M,t9,t7,t8⟩:=DU q4 e8;obtain⟨n1,n2⟩:=JT (Y:=Y) (n:=a.length) (d:=d) (s:=s) O0 (by rw[<-O.out]) (by
  have i4:=O.out;subst i4;exact⟨O0,hd⟩) t7 t8
 have HL:=J (λw=>Tryz.bits_LeadingZeros32 (d:Int) w O0 O0);simp only[TG,t9]at HL;have f3:=J n1;have f4:=J n2;have g1:(0:Int)<=(a.length:Int)-1:=O0
 have g2:((a.length:Int)-1).toNat=a.length-1:=O0
 clear q3 hd t7 t8 n1 n2 t9
 go_enter func245,ntmps245
 go_wp2_with fail
 refine(HL.out _).mono ?_;rintro e w0 ⟨rfl,rfl⟩;have l9:=J (FJ _ cb a s a.length w0 f2.out O0 M (.inl Z))
 go_wp2_with fail
 refine l9.out.mono ?_;rintro e x ⟨vs,c1,rfl,R,u1,u2,_,d3,h7⟩;obtain rfl:c1=0:=by
  rcases RV c1 with h|h
  ·exact h
  exfalso;have h8:=f3.out;rw[<-HY.out,<-d3]at h8;have:1*4294967296^a.length<=c1*4294967296^a.length:=RB _ h;omega
 rw[Uc,SB,HY.out]at d3;have z4:w0.heap.size<x.heap.size:=by
  obtain⟨g',m3,e,_,d1,_⟩:=R.lies O0;injection e with e1
  injection e1 with e1
  injection e1 with e1
  omega
 have w6:=J R;have F:=J u1;have o:=J u2;have D:=J d3;have v0:=J h7;have g3:=J (FJ A ca f s (f.length+1) x (k5.out.below h7) O0 M (.inr Z));rw[show((f.length+1:Nat):Int)=(f.length:Int)+1 by omega]at g3;clear R u1 u2 d3 h7 l9
 go_wp2_with fail
 refine g3.out.mono ?_;rintro e w2 ⟨us,c2,rfl,Q,u0,b4,q0,S,a5⟩;obtain rfl:c2=0:=q0 Z;rw[Uc,SB,HX.out]at S;have D2:x.heap.size<w2.heap.size:=by
  obtain⟨g',m3,e,_,d1,_⟩:=Q.lies O0;injection e with e1
  injection e1 with e1
  injection e1 with e1
  omega
 have l7:=J (w6.out.below a5);have v9:=J (Q.base_le (b:=w0.heap.size) O0);have x1:=J u0;have x2:=J b4;have m2:=J S;have v1:=J (aL v0.out a5 O0);clear Q u0 b4 S a5 q0 g3;obtain⟨W,d2,s5,d0,A2⟩:=fF w2 (f.length+1-a.length) O0;have d2:=d2 .i64 .i64;have v8:=J (s5.base_le (b:=w0.heap.size) O0);have l8:=J (l7.out.below d0);have l6:=J (v9.out.below d0);have v3:=J (aL v1.out d0 O0);have C2:w2.heap.size<W.heap.size:=O0
 clear s5 d0 A2;rw[show((f.length+1-a.length:Nat):Int)=(f.length:Int)-(a.length:Int)+1 by omega]at d2;have w8:=J (JX (X:=X) (V:=2^s*Y) (n:=a.length) (la:=f.length) M (by have:=cC f k5.out.ok;rwa[HX.out]at this) O0 z9 f4.out)
 go_wp2
 clear d2
 go_loopw [10] (λi wr=>LdInv w0 w0.heap.size x.heap.size w2.heap.size a.length f.length (2^s*Y) (2^s*X) vs i wr) (λi _=>(intOf i+1).toNat)
 case atStart=>exact⟨f.length+1-a.length,us,[],Q3 _,JJ O0,x2.out,x1.out,l6.out,F0,λd hd=>(by cases hd),by rw[RP];exact v8.out,l8.out,by rw[m2.out];simp[aG],by rw[m2.out];exact w8.out,v3.out⟩
 case round=>
  obtain⟨k,U,qs,hk,rfl,o3,o1,s4,t3,t2,P,R,hZ,d1,p4⟩:=hrel;have c:=J o3;have m:=J o1;have a0:=J s4;have p:=J t3;have a3:=J t2;have e0:=J P;have e5:=J R;have g4:=J hZ;have K:=J d1;have c0:=J p4;clear o3 o1 s4 t3 t2 P R hZ d1 p4;cases k with
  |zero=>
   have hZ:=g4.out;rw[TM,ST]at hZ;have hR:=K.out;rw[TM,ST]at hR;obtain⟨q1,q2⟩:=JV (X:=X) (Y:=Y) (s:=s) Z hZ hR;have P:=e0.out;rw[SW,Sc]at P;obtain⟨i1,i2⟩:=P.isN a3.out;have x0:=J (λ(W':World) (hw:Below wr.heap.size wr W')=>qK (N:=X/Y) (i1.below hw) i2 (by rw[p.out];omega) q1.symm);have b4:(U.take a.length).length=a.length:=by rw[Rb,c.out];omega
   have S:aG (U.take a.length)=aG U:=by
    have h1:=oh U a.length (by rw[c.out];omega);have h2:aG (U.drop a.length)=0:=by
     have h3:=f3.out;have h4:aG U<4294967296^a.length:=O0
     refine Vg λhp=>?_
     have:4294967296^a.length*1<=4294967296^a.length*aG (U.drop a.length):=Sz _ hp;omega
    rw[h2,TL,SB]at h1;exact h1.symm
   have b5:=a0.out.win m.out 0 a.length (f.length+1) (by rw[c.out];omega) O0 O0;rw[Su]at b5;have w7:=J (λ(W':World) (hw:Below wr.heap.size wr W')=>by
    have h1:=MA (some ⟨x.heap.size,0,none⟩) (f.length+1) (U.take a.length) s W' (b5.below hw) O0 M;rw[b4,S,<-q2]at h1;exact h1)
   have G0:(0:Int)<=(a.length:Int):=O0
   have G1:(a.length:Int)<=(f.length:Int)+1:=O0
   clear hZ hR q1 q2 P i1 i2 b4 S b5
   go_wp2
   refine tN [some 80,some 81,some 82,some 83,some 84,some 85,some 86,some 4,some 5] (PE w2.heap.size x.heap.size f.length a.length ((f.length+1-a.length)) s ((X/Y)) ((X%Y))) U0 U0 (by rfl) (by rfl) (G4 w2.heap.size x.heap.size f.length a.length ((f.length+1-a.length)) s ((X/Y)) ((X%Y)) _) ?_ ?_
   ·refine Steps.cons trivial (λT W l=>?_) ?_
    ·have e4:T 4=.slice (some ⟨w2.heap.size,0,none⟩) ((f.length+1-a.length)) ((f.length+1-a.length)):=l.old 1 7 4 U0;have t:=l.wi;clear l;refine aE (v:=.slice (some ⟨w2.heap.size,0,none⟩) ((f.length+1-a.length)) ((f.length+1-a.length))) (W':=W) ?_ ⟨Z,Below.refl _ _⟩;simp only[execOp,dG,e4];go_simp
    refine Steps.cons trivial (λT W l=>?_) ?_
    ·have x3:T 80=.slice (some ⟨w2.heap.size,0,none⟩) ((f.length+1-a.length)) ((f.length+1-a.length)):=l.fact 1 0 80 U0;have t:=l.wi;clear l;refine cW ?_ (((x0.out W t)).mono λe W' h=>h);simp only[execOp,resolve,invoke,Tk,Sb,TD,dG,x3];go_simp
    refine Steps.cons trivial (λT W l=>?_) ?_
    ·have e9:T 9=.slice (some ⟨x.heap.size,0,none⟩) (f.length+1) (f.length+1):=l.keep 9 (by rfl);have t:=l.wi;clear l;refine aE (v:=.slice (some ⟨x.heap.size,0,none⟩) (f.length+1) (f.length+1)) (W':=W) ?_ ⟨Z,Below.refl _ _⟩;simp only[execOp,dG,e9];go_simp
    refine Steps.cons trivial (λT W l=>?_) ?_
    ·have e6:T 6=.int .i64 (a.length:Int):=l.keep 6 (by rfl);have t:=l.wi;clear l;refine aE (v:=.int .i64 (a.length:Int)) (W':=W) ?_ ⟨Z,Below.refl _ _⟩;simp only[execOp,dG,e6];go_simp
    refine Steps.cons trivial (λT W l=>?_) ?_
    ·have x4:T 82=.slice (some ⟨x.heap.size,0,none⟩) (f.length+1) (f.length+1):=l.fact 1 2 82 U0;have y9:T 83=.int .i64 (a.length:Int):=l.fact 1 3 83 U0;have t:=l.wi;clear l;refine aE (v:=.slice (some ⟨x.heap.size,0,none⟩) a.length (f.length+1)) (W':=W) ?_ ⟨Z,Below.refl _ _⟩;simp only[execOp,dG,x4];go_simp;simp only[dG,y9];go_simp
    refine Steps.cons trivial (λT W l=>?_) ?_
    ·have e7:T 7=.int .u64 (s:Int):=l.keep 7 (by rfl);have t:=l.wi;clear l;refine aE (v:=.int .u64 (s:Int)) (W':=W) ?_ ⟨Z,Below.refl _ _⟩;simp only[execOp,dG,e7];go_simp
    refine Steps.cons trivial (λT W l=>?_) ?_
    ·have z0:T 84=.slice (some ⟨x.heap.size,0,none⟩) a.length (f.length+1):=l.fact 1 4 84 U0;have z1:T 85=.int .u64 (s:Int):=l.fact 1 5 85 U0;have t:=l.wi;clear l;refine cW ?_ (((w7.out W t)).mono λe W' h=>h);simp only[execOp,resolve,invoke,Tk,Sb,TD,dG,z0,z1];go_simp
    refine Steps.cons trivial (λT W l=>?_) ?_
    ·have u4:(λr W=>IsD W r ((X/Y))) (T 81) W:=l.fact 1 1 81 U0;simp only at u4;have t:=l.wi;clear l;exact aE (v:=T 81) (W':=W) (by simp only[execOp,dG];go_simp) ⟨u4,Below.refl _ _⟩
    refine Steps.cons trivial (λT W l=>?_) ?_
    ·have u8:(λr W=>IsD W r ((X%Y))) (T 86) W:=l.fact 1 6 86 U0;simp only at u8;have t:=l.wi;clear l;exact aE (v:=T 86) (W':=W) (by simp only[execOp,dG];go_simp) ⟨u8,Below.refl _ _⟩
    exact Steps.nil
   intro us W1 f1 hF hb;obtain⟨y0,G3,rfl,q9⟩:=cG f1;clear f1;obtain⟨y1,H0,rfl,r0⟩:=cG q9;clear q9;obtain⟨y2,I0,rfl,r1⟩:=cG r0;clear r0;obtain⟨y3,R1,rfl,r2⟩:=cG r1;clear r1;obtain⟨y4,S0,rfl,r3⟩:=cG r2;clear r2;obtain⟨y5,S2,rfl,r4⟩:=cG r3;clear r3;obtain⟨y6,V0,rfl,s1⟩:=cG r4;clear r4;obtain⟨y7,V1,rfl,s2⟩:=cG s1;clear s1;obtain⟨y8,V2,rfl,s3⟩:=cG s2;clear s2;obtain rfl:=Fe s3;clear s3;have f7:(λr W=>IsD W r ((X/Y))) y7 W1:=hF 7 I1;have f8:(λr W=>IsD W r ((X%Y))) y8 W1:=hF 8 I1;clear hF;simp only[dl,SM,VB,US,T2,Tb];have F7:IsD W1 y7 (X/Y):=f7;have F8:IsD W1 y8 (X%Y):=f8;have v4:=J F7;have v5:=J F8;have v2:=J (aL c0.out hb c0.out.size);clear f7 f8 F7 F8 hb
   go_wp2
   go_ret2
   exact⟨_,Z,⟨_,_,Z,v4.out,v5.out⟩,v2.out⟩
  |succ j=>
   rw[show((j+1:Nat):Int)-1=(j:Int) by omega];obtain⟨A3,A4,u9⟩:=JU c.out m.out o.out F.out D.out (j:=j) O0 K.out;have i5:((U.drop j).take (a.length+1)).length=a.length+1:=by rw[Rb,Rm,c.out];omega
   have hG:Guess ((U.drop j).take (a.length+1)) vs a.length:=⟨A1,i5,o.out,(m.out.drop j).take _,F.out,OA O0 o.out F.out D.out f4.out,by rw[D.out];exact u9⟩;have h5:=GZ (some ⟨x.heap.size,j,none⟩) (some ⟨w0.heap.size,0,none⟩) (f.length+1-j) a.length ((U.drop j).take (a.length+1)) vs a.length wr (a0.out.win m.out j (a.length+1) _ (by rw[c.out];omega) O0 O0) (by have:=e5.out.win F.out 0 a.length a.length (by rw[o.out];omega) O0 O0;rw[Su,Rf (Tf o.out)]at this;exact this) hG O0;rw[i5,o.out,D.out]at h5;have k4:=J h5;clear h5 hG i5 A3 A4 u9;have p1:(0:Int)<=(j:Int):=O0
   have p2:(j:Int)<=(j:Int)+(a.length:Int)+1:=O0
   have p3:(j:Int)+(a.length:Int)+1<=(f.length:Int)+1:=O0
   go_wp2_with fail
   rw[show j+a.length+1-j=a.length+1 by omega];refine k4.out.mono ?_;rintro e w3 ⟨g,rfl,m4,n0,z2,gb⟩;have c3:=J (And.intro m4 n0);have l5:=J (show OwnN w3 w0.heap.size (.slice (some ⟨x.heap.size,0,none⟩) U.length (f.length+1)) U by rw[c.out];exact a0.out.below gb);have L:=J (e0.out.below gb);have a2:=J (e5.out.below gb);have k0:=J (aL c0.out gb c0.out.size);have c9:0<2^s*Y:=Rh (TJ I1 (Sh I1)) f4.out;have l0:=J (show IsN w3 (some ⟨w0.heap.size,0,none⟩) a.length vs by have:=a2.out.win F.out 0 a.length a.length (by rw[o.out];omega) O0 O0;rw[Su,Rf (Tf o.out)]at this;exact this);have h6:=JR x.heap.size (f.length+1) w0.heap.size j a.length g (f.length+1-j) a.length (some ⟨w0.heap.size,0,none⟩) U vs w3 l5.out m.out l0.out (λb off e=>by injection e with e;injection e with e;omega) o.out (by rw[c.out];omega) O0 z2 O0 (by rw[c.out];omega);rw[o.out]at h6;have m1:=J h6;have t4:w2.heap.size≠x.heap.size/\w2.heap.size≠w0.heap.size/\w0.heap.size≠x.heap.size/\w0.heap.size<=x.heap.size/\w0.heap.size<=w2.heap.size:=⟨O0,O0,O0,O0,O0⟩;have t5:w2.heap.size≠x.heap.size:=O0
   clear m4 n0 gb k4 h6
   go_wp2_with fail
   rw[show j+a.length+1-j=a.length+1 by omega];refine m1.out.mono ?_;rintro e w4 ⟨bb,y,rfl,t1,t0,Q,H,q6⟩;rw[D.out]at H;have C:=J t1;have c5:=J t0;have c4:=J q6;have a1:=J Q;rw[c.out]at a1;clear t1 t0 Q q6 m1;cases bb with
   |false=>
    rw[if_neg R0,SB]at H;obtain⟨k1,k2⟩:=GV c9 c3.out.1 c3.out.2 H;have K1:=J k1;have K2:=J k2;clear H k1 k2;have G:=L.out.keep c4.out t5;have z3:=G.free j;have i0:=G.cell (i:=j) (by have:=p.out;simp;omega);obtain⟨old,E⟩:∃old,(List.replicate (j+1) 0++qs)[j]'(by have:=p.out;simp;omega)=old:=⟨_,Z⟩;rw[E]at i0;have f9:=J (λz i hz hi=>uZ (z:=z) (i:=i) (g:=g) t4 hk c.out m.out o.out F.out D.out c9 K.out p.out a3.out L.out a2.out g4.out k0.out c4.out a1.out C.out c5.out K1.out K2.out hz hi);clear G E
    go_wp2
    go_roundw
    case rel=>exact f9.out _ _ (by first|rfl|omega) O0
    case measure=>simp[intOf]
   |true=>
    rw[if_pos Z]at H;have a4:(U.take j++(y++U.drop (j+(a.length+1)))).length=f.length+1:=by rw[oV (k:=a.length+1) (by rw[c.out];omega) C.out,c.out]
    have I:(U.take j).length=j:=by rw[Rb,c.out];omega
    have q5:Digs (U.take j++(y++U.drop (j+(a.length+1)))):=qJ (m.out.take _) (qJ c5.out (m.out.drop _));have h0:=JS x.heap.size (f.length+1) w0.heap.size j a.length (f.length+1-j) a.length (some ⟨w0.heap.size,0,none⟩) (U.take j++(y++U.drop (j+(a.length+1)))) vs w4 (by rw[a4];exact a1.out) q5 (l0.out.grown c4.out λb off e=>by injection e with e;injection e with e;omega) (λb off e=>by injection e with e;injection e with e;omega) o.out (by rw[a4];omega) O0 O0 (by rw[a4];omega);rw[o.out]at h0;have i9:=J h0;have k3:=J H;have v6:=J a4;have z4:1<=g:=by
     refine RR λe=>?_
     have h8:=k3.out;rw[e,Uc,SB]at h8;have h9:=cC y c5.out;rw[C.out]at h9;omega
    have G2:IntKind.u64.wrap ((g:Int)-1)=((g-1:Nat):Int):=by rw[IntKind.wrap_u64];omega
    have B0:g-1<4294967296:=O0
    clear H a4 q5 h0 I
    go_wp2_with fail
    rw[show j+a.length+1-j=a.length+1 by omega];refine i9.out.mono ?_;rintro e w5 ⟨u3,q,rfl,b1,b0,b3,a9,f0⟩;have I:(U.take j).length=j:=by rw[Rb,c.out];omega
    have e1:((U.take j++(y++U.drop (j+(a.length+1)))).drop j).take (a.length+1)=y:=by
     rw[U1,Rc O0,I,RW,Su,Sc,Uf,C.out,RW,Ud,RP,Rf (by rw[C.out];omega)]
    have e2:(U.take j++(y++U.drop (j+(a.length+1)))).take j=U.take j:=by
     rw[Uf,I,RW,Ud,RP,Rf O0]
    have e3:(U.take j++(y++U.drop (j+(a.length+1)))).drop (j+(a.length+1))=U.drop (j+(a.length+1)):=by
     rw[<-RL,U1,Rc (by rw[Q4,I,C.out];omega),Q4,I,C.out,RW,Su,Sc]
    rw[e1,D.out]at a9;rw[e2,e3,v6.out]at b3;have p0:2^s*Y<=4294967296^(a.length+1):=by
     have:=f3.out;rw[RA];omega
    have l1:=cC y c5.out;rw[C.out]at l1;have l2:=cC u3 b0;rw[b1]at l2;obtain⟨k1,k2⟩:=GW c9 p0 c3.out.1 c3.out.2 l1 k3.out l2 a9;have K1:=J (show g-1=aG ((U.drop j).take (a.length+1))/(2^s*Y) by omega);have K2:=J k2;have l4:=J b1;have l3:=J b0;have d4:=J (c4.out.trans f0);have g0:=J b3;clear I e1 e2 e3 a9 b3 p0 l1 l2 k1 k2 b1 b0 f0 i9;have G:=L.out.keep d4.out t5;have z3:=G.free j;have i0:=G.cell (i:=j) (by have:=p.out;simp;omega);obtain⟨old,E⟩:∃old,(List.replicate (j+1) 0++qs)[j]'(by have:=p.out;simp;omega)=old:=⟨_,Z⟩;rw[E]at i0;have f9:=J (λz i hz hi=>uZ (z:=z) (i:=i) (g:=g-1) t4 hk c.out m.out o.out F.out D.out c9 K.out p.out a3.out L.out a2.out g4.out k0.out d4.out g0.out l4.out l3.out K1.out K2.out hz hi);clear G E
    go_wp2
    go_roundw
    case rel=>exact f9.out _ _ (by first|rfl|omega) O0
    case measure=>simp[intOf]
def DdInv(W0:World)(ds:List Nat)(d:Nat)(r i:Value)(wr:World):Prop:=
 ∃(k rs:Nat) (qs:List Nat),k<=ds.length/\i=.int .i64 ((k:Int)-1)/\r=.int .u64 rs/\rs<d/\qs.length=ds.length-k/\Digs qs/\OwnN wr W0.heap.size (.slice (some ⟨W0.heap.size,0,none⟩) ds.length ds.length) (List.replicate k 0++qs)/\aG (ds.drop k)=d*aG qs+rs/\Below W0.heap.size W0 wr/\W0.heap.size<wr.heap.size
def ME{a qs:List Nat}{k d rs x:Nat}(c:k<a.length)(f:a[k]=x)(b:aG (a.drop (k+1))=d*aG qs+rs):
  aG (a.drop k)=d*aG ((rs*4294967296+x)/d::qs)+(rs*4294967296+x)%d:=by
 rw[JH a k c,f,b,aG];have h:=Tt (rs*4294967296+x) d;have e:d*((rs*4294967296+x)/d+4294967296*aG qs)=d*((rs*4294967296+x)/d)+4294967296*(d*aG qs):=by rw[RF,SQ d]
 rw[e];omega
def JY(n:Nat)(h:n<4294967296):IntKind.u64.wrap (n:Int)%4294967296=n:=by rw[IntKind.wrap_u64];omega
def NP{rs d x:Nat}(h:rs<d)(a:x<4294967296):(rs*4294967296+x)/d<4294967296:=by
 rw[Sg O];have:(rs+1)*4294967296<=d*4294967296:=RB _ h;rw[Rk 4294967296 d];omega
def DV{a wr:World}{b qs:List Nat}{d k rs x:Nat}{z q i:Int}(n:k<b.length)(v:b[k]=x)(c:x<4294967296)(t:rs<d)(g:qs.length=b.length-(k+1))(s:Digs qs)(r:OwnN wr a.heap.size (.slice (some ⟨a.heap.size,0,none⟩) b.length b.length) (List.replicate (k+1) 0++qs))(l:aG (b.drop (k+1))=d*aG qs+rs)(j:Below a.heap.size a wr)(u:a.heap.size<wr.heap.size)
  (w:z=(((rs*4294967296+x)/d:Nat):Int)) (f:q=(((rs*4294967296+x)%d:Nat):Int)) (m:i=(k:Int)-1):DdInv a b d (.int .u64 q) (.int .i64 i) (wr.setCell ⟨a.heap.size,k,none⟩ (.int .u32 z)):=by
 subst f m;refine⟨k,_,(rs*4294967296+x)/d::qs,O,Z,Z,RJ _ O,by simp[g];omega,λe o=>?_,?_,ME n v l,j.setCell (p:=⟨a.heap.size,k,none⟩) (Q3 _) _,by simpa[World.setCell]using u⟩
 ·rcases Ri.1 o with rfl|h
  ·exact NP t c
  exact s e h
 have:=r.put (i:=k) (by simp[g];omega) z _ w;rw[x7]at this;exact this
def QD(n d:Nat)(W:World)(v:Value):Prop:=∃a,v=.tuple #[a,.int .u32 ((n%d:Nat):Int)]/\IsD W a (n/d)
def z8(A:Option Addr)(c:Nat)(g:List Nat)(d:Nat)(w:World)(h:IsN w A c g)(hl:g.length<=1048576)(C:0<d)(a1:d<4294967296):
  Calls prog 173 #[.slice A g.length c,.int .u32 d] w (iB (QD (aG g) d) w):=by
 have HI:=J h;clear h;have a2:((d:Int)==0)=false:=by rw[beq_eq_false_iff_ne];omega
 obtain⟨W,q,G,z,a0⟩:=fF w g.length O;have q:=q .i64 .i64;have T:=J G;have Q:=J z;have M:w.heap.size<W.heap.size:=O
 clear G z a0
 go_enter func173,ntmps173
 go_wp2
 clear q
 go_loopw [7,8] (λr i wr=>DdInv w g d r i wr) (λ_ i _=>(intOf i+1).toNat)
 case atStart=>exact⟨g.length,0,[],Q3 _,Z,Z,C,F,λd C=>by simp at C,by simpa using T.out,by simp[aG],Q.out,M⟩
 case round=>
  obtain⟨k,rs,qs,hk,rfl,rfl,N,K,I,j,E,B,X⟩:=hrel;have l:=J j;have HQ:=J E;have a:=J B;have u:=J K;have s:=J I;clear j E B K I;cases k with
  |zero=>
   have j:OwnN wr w.heap.size (.slice (some ⟨w.heap.size,0,none⟩) g.length g.length) qs:=by have:=l.out;rwa[SW,Sc]at this
   obtain⟨h4,h5⟩:=j.isN s.out;have U:=HQ.out;rw[Su]at U;have hv:aG qs=aG g/d/\aG g%d=rs:=by
    rw[U];exact⟨by rw[U9 C,S5 N];omega,by rw[UJ,RC N]⟩
   have HT:=J (qK h4 h5 (by have:=u.out;omega) hv.1);have HR:=J hv.2;clear j h4 h5 U hv;have p:rs<4294967296:=O
   go_wp2_with fail
   refine HT.out.mono ?_;rintro e w5 ⟨v5,rfl,D,y⟩;have R:=J D;have P:=J (aL a.out y a.out.size);clear D y
   go_wp2
   go_ret2
   exact⟨_,Z,⟨_,by rw[HR.out];rfl,R.out⟩,P.out⟩
  |succ k=>
   rw[show((k+1:Nat):Int)-1=(k:Int) by omega];have m:k<g.length:=O
   obtain⟨b,off,rfl,hb,hc⟩:=(HI.out.below a.out).digit m;have cx:=hc k m;have f:=HI.out.lt m;obtain⟨x,hx⟩:∃x,g[k]=x:=⟨_,Z⟩;rw[hx]at cx f;have HX:=J hx;have a3:=l.out.free k;have V:=l.out.cell (i:=k) (by simp;omega);obtain⟨old,n⟩:∃old,(List.replicate (k+1) 0++qs)[k]'(by simp;omega)=old:=⟨_,Z⟩;rw[n]at V;have H:=FF rs x O f;rw[show(((rs*4294967296:Nat)):Int)=(rs:Int)*4294967296 by omega]at H;have L:rs*4294967296+x<18446744073709551616:=O
   have o:=NP N f;have p:(rs*4294967296+x)%d<d:=RJ _ C;obtain⟨t,Y⟩:∃t,rs*4294967296+x=t:=⟨_,Z⟩;rw[Y]at H L o p;have v:=J Y;have e2:((t:Int)%(d:Int))=((t%d:Nat):Int):=O
   have S:=J e2;clear hc hx n Y e2
   go_wp2
   go_roundw
   case rel=>exact DV m HX.out f N u.out s.out l.out HQ.out a.out X (by rw[v.out];exact JY _ o) (by rw[v.out];first|exact S.out|omega) O
   case measure=>simp[intOf]
def x9{v:Value}{n d:Nat}{w:World}(h:IsD w v n)(f:(aD n).length<=1048576)(b:0<d)(a:d<4294967296):Calls prog 173 #[v,.int .u32 d] w (iB (QD n d) w):=by
 obtain⟨A,c,rfl,e⟩:=h;have:=z8 A c (aD n) d w e f b a;rwa[aW]at this
def QZ(X Y:Nat)(W:World)(r:Value):Prop:=∃a b,r=.tuple #[a,b,.bool true]/\IsD W a (X/Y)/\IsD W b (X%Y)
def IsD.zero(W:World):IsD W (.slice none 0 0) 0:=⟨none,0,Z,At.nil _ _ _,λ_=>⟨Z,Z⟩,Q3 _,O,λ_ h=>by cases h⟩
def Bs{n:Nat}(h:(aD n).length=1):0<n/\n<4294967296/\aD n=[n]:=by
 have c:n≠0:=λe=>by rw[e,gf]at h;simp at h
 have a:=fp c;have b:aD (n/4294967296)=[]:=Rj (by rw[a]at h;simpa using h);have d:=Bh.1 b;exact⟨O,O,by rw[a,b,RC O]⟩
def FM{u v:Value}{X Y:Nat}{w:World}(hu:IsD w u X)(hv:IsD w v Y)(b5:(aD X).length<=1048576)(c3:(aD Y).length<=1048576)(hY:0<Y):Calls prog 210 #[u,v] w (iB (QZ X Y) w):=by
 have HC:=J (mj hu O);have HV:=J hv;obtain⟨A0,c0,rfl,_⟩:=hu;obtain⟨B0,e0,rfl,_⟩:=hv
 go_enter func210,ntmps210
 go_wp2_with fail
 refine HC.out.mono ?_;rintro e w1 ⟨v1,rfl,Q,C⟩;obtain⟨A1,c1,dx,rfl,U,o⟩:=Q.open_;have I:=J U;have E:=J C;have H:=J o.out;have a0:=C.size;clear Q U C o HC;have F:=J (mj (HV.out.below E.out) O)
 go_wp2_with fail
 refine F.out.mono ?_;rintro e w2 ⟨v2,rfl,R,q⟩;obtain⟨A2,c2,B,rfl,V,o⟩:=R.open_;have p:=J V;have z:=J (I.out.below q);have a2:=J (aL E.out q a0);have g:=J o.out;have a1:w.heap.size<=w2.heap.size:=Q7 a0 q.size;clear R V q o F I;have b4:0<B.length:=by
  rcases RV B.length with h|h
  ·rw[g.out]at h;have:=b9.1 h;omega
  exact h
 have g1:((B.length:Int)==0)=false:=by rw[beq_eq_false_iff_ne];omega
 have c:(fE (X:Int) (Y:Int)<0)↔X<Y:=by
  rcases Ub X Y with h|h|h
  ·rw[lB h];omega
  ·rw[m7 h];omega
  rw[ke h];omega
 have y:=J (JK (z.out.isD H.out) (p.out.isD g.out) O O);obtain⟨cm,P⟩:∃cm,fE (X:Int) (Y:Int)=cm:=⟨_,Z⟩;rw[P]at y c;clear P
 go_wp2_with fail
 refine y.out.mono ?_;rintro e w3 ⟨v3,rfl,b2,j⟩;obtain rfl:=b2;have A:=J ((z.out.isD H.out).below j);have a9:=J ((p.out.isD g.out).below j);have K:=J (p.out.below j);have x:=J (aL a2.out j a1);have r:w.heap.size<=w3.heap.size:=Q7 a1 j.size;clear j y z p;by_cases f:X<Y
 ·have b0:cm<0:=c.2 f;clear c;have HN:=J (FE A.out O)
  go_wp2_with fail
  refine HN.out.mono ?_;rintro e w4 ⟨v4,rfl,d,a⟩;have l:=J d;have k:=J (aL x.out a r);clear d a
  go_wp2
  go_ret3
  exact⟨_,Z,⟨_,_,Z,by rw[S5 f];exact IsD.zero _,by rw[RC f];exact l.out⟩,k.out⟩
 have b0:¬cm<0:=λh=>f (c.1 h)
 have b1:Y<=X:=O
 clear c;by_cases h1:B.length=1
 ·have g2:((B.length:Int)==1)=true:=by rw[beq_iff_eq];omega
  obtain⟨M,s,N⟩:=Bs (n:=Y) (by rw[<-g.out];exact h1);have t:B=[Y]:=by rw[g.out,N]
  obtain⟨b,off,rfl,hb,hc⟩:=K.out.digit (i:=0) O;have c0:=hc 0 O;simp only[t,T8,SB]at c0;clear hc N t;have L:=J (x9 A.out O M s);have W:X%Y<4294967296:=Nat.lt_trans (RJ _ M) s;obtain⟨m,hm⟩:∃m,X%Y=m:=⟨_,Z⟩;have HM:=J hm;rw[hm]at W;unfold QD at L;rw[hm]at L;clear hm
  go_wp2_with fail
  refine L.out.mono ?_;rintro e w4 ⟨v4,rfl,⟨q4,rfl,d⟩,a⟩;have l:=J d;have k:=J (aL x.out a r);have b3:w.heap.size<=w4.heap.size:=Q7 r a.size;clear d a;have HF:=J (sx m w4 O)
  go_wp2_with fail
  refine HF.out.mono ?_;rintro e w5 ⟨v5,rfl,S,D⟩;have a4:=J S;have G:=J (l.out.below D);have a3:=J (aL k.out D b3);clear S D
  go_wp2
  go_ret3
  exact⟨_,Z,⟨_,_,Z,G.out,by rw[HM.out];exact a4.out⟩,a3.out⟩
 have g2:((B.length:Int)==1)=false:=by rw[beq_eq_false_iff_ne];omega
 have L:=J (PF A.out a9.out O (by rw[<-g.out];omega) b1)
 go_wp2_with fail
 refine L.out.mono ?_;rintro e w4 ⟨v4,rfl,⟨q4,r4,rfl,d,T⟩,a⟩;have l:=J d;have a5:=J T;have k:=J (aL x.out a r);clear d T a
 go_wp2
 go_ret3
 exact⟨_,Z,⟨_,_,Z,l.out,a5.out⟩,k.out⟩
def QI(w:World)(G M:Nat)(x y:Value)(wr:World):Prop:=∃a b:Nat,IsD wr x a/\IsD wr y b/\a<=M/\b<=M/\Nat.gcd a b=G/\Below w.heap.size w wr
def IsD.num{W:World}{v:Value}{n:Nat}(h:IsD W v n):te v W=n:=by
 obtain⟨A,c,rfl,k⟩:=h;have e:=aW n;generalize aD n=l at*;cases A with
 |none=>
  have:l=[]:=Rj (k.nil Z).1;subst this;exact e
 |some a=>
  rw[<-e];show aG ((List.range l.length).map λi=>match W.cell? ⟨a.block,a.off+i,none⟩with
   |some (.int _ d)=>d.toNat
   |_=>0)=aG l
  congr 1;apply Ug
  ·simp
  intro j o g;obtain⟨b,off,f,_,m⟩:=k.digit g;injection f with f
  subst f;simp[m j g]
def PG{u v:Value}{X Y:Nat}{w:World}(hu:IsD w u X)(hv:IsD w v Y)(a3:(aD X).length<=1048576)(a4:(aD Y).length<=1048576):Calls prog 209 #[u,v] w (iB (λW r=>IsD W r (Nat.gcd X Y)) w):=by
 have HC:=J (FE hu O);have HV:=J hv;have B:Hid (∀n,n<=max X Y->(aD n).length<=1048576):=λn hn=>by
  rcases Nat.le_total X Y with h|h
  ·exact Q7 (bh O) a4
  exact Q7 (bh O) a3
 obtain⟨A0,c0,rfl,_⟩:=hu;obtain⟨B0,e0,rfl,_⟩:=hv
 go_enter func209,ntmps209
 go_wp2_with fail
 refine HC.out.mono ?_;rintro e w1 ⟨v1,rfl,G,o⟩;have S:=J G;have t:=J o;have L:=o.size;clear G o HC;have z:=J (FE (HV.out.below t.out) O)
 go_wp2_with fail
 refine z.out.mono ?_;rintro e w2 ⟨v2,rfl,H,l⟩;have T:=J H;have A:=J (S.out.below l);have R:=J (aL t.out l L);have a5:w.heap.size<=w2.heap.size:=Q7 L l.size;clear H l z
 go_wp2
 go_loopw [5,6] (λx y wr=>QI w (Nat.gcd X Y) (max X Y) x y wr) (λ_ y wr=>te y wr)
 case atStart=>exact⟨X,Y,A.out,T.out,O,O,Z,R.out⟩
 case round=>
  obtain⟨a,b,hx,Q,ha,hb,hg,p⟩:=hrel;have HX:=J hx;have N:=J Q;have M:=J hg;have k:=J p;have s:=p.size;have C:=J Q.num;obtain⟨Ax,cx,dx,rfl,a1,a0⟩:=hx.open_;obtain⟨Ay,cy,dy,rfl,a2,q⟩:=Q.open_;clear hx Q hg p a1 a2;by_cases h0:0<dy.length
  ·have i:0<b:=by
    rcases RV b with h|h
    ·rw[q.out,h,gf]at h0;simp at h0
    exact h
   by_cases P:dx.length<=2/\dy.length<=2
   ·obtain⟨P,h2⟩:=P;have e2:(4294967296^2:Nat)=18446744073709551616:=I
    have E:a<18446744073709551616:=by
     have:=cC (aD a) (ck a);rw[aW,<-a0.out]at this;exact Rh this (by rw[<-e2];exact Rx I P)
    have F:b<18446744073709551616:=by
     have:=cC (aD b) (ck b);rw[aW,<-q.out]at this;exact Rh this (by rw[<-e2];exact Rx I h2)
    have D:=J (GR HX.out N.out E F);rw[M.out]at D;clear e2
    go_wp2_with fail
    refine D.out.mono ?_;rintro e w4 ⟨v4,rfl,d,c⟩;have U:=J d;have f:=J (aL k.out c s);clear d c
    go_wp2
    go_ret
    exact⟨_,Z,U.out,f.out⟩
   have D:=J (FM HX.out N.out (B.out a ha) (B.out b hb) i);by_cases h2:dx.length<=2
   ·have h3:¬dy.length<=2:=λh=>P ⟨h2,h⟩
    go_wp2_with fail
    refine D.out.mono ?_;rintro e w4 ⟨v4,rfl,⟨q4,r4,rfl,d,j⟩,c⟩;have g:=J j;have m:=J (N.out.below c);have f:=J (aL k.out c s);clear d j c
    go_wp2
    go_roundw
    case rel=>exact⟨b,a%b,m.out,g.out,hb,by have:=Nat.mod_le a b;omega,by rw[<-M.out,TF b,<-Ve,TF],f.out⟩
    case measure=>rw[C.out,g.out.num];exact RJ _ i
   go_wp2_with fail
   refine D.out.mono ?_;rintro e w4 ⟨v4,rfl,⟨q4,r4,rfl,d,j⟩,c⟩;have g:=J j;have m:=J (N.out.below c);have f:=J (aL k.out c s);clear d j c
   go_wp2
   go_roundw
   case rel=>exact⟨b,a%b,m.out,g.out,hb,by have:=Nat.mod_le a b;omega,by rw[<-M.out,TF b,<-Ve,TF],f.out⟩
   case measure=>rw[C.out,g.out.num];exact RJ _ i
  have i:b=0:=b9.1 (by rw[<-q.out];omega);have K:Nat.gcd X Y=a:=by rw[<-M.out,i,T6]
  have V:=J K;clear K
  go_wp2
  go_ret
  exact⟨_,Z,by rw[V.out];exact HX.out,k.out⟩
def Q0(W:World)(v:Value)(ng:Bool)(N D:Nat):Prop:=∃vn vd,v=.agg #[.bool ng,vn,vd]/\IsD W vn N/\IsD W vd D
def eK(ng:Bool)(N D:Nat):Rat:=mkRat (if ng then-(N:Int)else(N:Int)) D
def kP(ng:Bool)(D:Nat):eK ng 0 D=0:=by cases ng<;>simp[eK]
def kQ(ng:Bool)(N:Nat):eK ng N 0=0:=by simp[eK]
def gB(q:Rat):eK (decide (q.num<0)) q.num.natAbs q.den=q:=by
 unfold eK;have:(if decide (q.num<0)=true then-(q.num.natAbs:Int)else(q.num.natAbs:Int))=q.num:=by
  by_cases h:q.num<0
  ·simp only[h,decide_true,if_true];omega
  simp only[h,decide_false];simp;omega
 rw[this];exact Rat.mkRat_self q
def oW(ng:Bool){N D:Nat}(j:0<N)(o:0<D):decide ((eK ng N D).num<0)=ng/\(eK ng N D).num.natAbs=N/Nat.gcd N D/\(eK ng N D).den=D/Nat.gcd N D:=by
 have f:D≠0:=O
 have d:=Rat.num_mkRat (if ng then-(N:Int)else(N:Int)) D;have e:=Rat.den_mkRat (if ng then-(N:Int)else(N:Int)) D;rw[if_neg f]at d e;have k:(if ng then-(N:Int)else(N:Int)).natAbs=N:=by cases ng<;>simp
 rw[k,TF]at d e;have b:0<Nat.gcd N D:=T0 _ j;obtain⟨m,c⟩:=UC N D;obtain⟨g,l⟩:∃g,Nat.gcd N D=g:=⟨_,Z⟩;rw[l]at d e b c⊢;have n:0<m:=by
  rcases RV m with h|h
  ·rw[h]at c;simp at c;omega
  exact h
 have a:N/g=m:=by rw[c,TZ _ b]
 have i:(eK ng N D).num=if ng then-(m:Int)else(m:Int):=by
  unfold eK;rw[d];cases ng
  ·simp only[Ty,if_false];rw[<-Int.natCast_ediv,a]
  simp only[if_true];rw[c,Um,Int.neg_mul_eq_mul_neg,Int.mul_ediv_cancel_left _ O]
 refine⟨?_,?_,e⟩
 ·rw[i];cases ng<;>simp<;>omega
 rw[i,a];cases ng<;>simp
def oX:∀{n:Nat},n≠0->(aD n).getD ((aD n).length-1) 0≠0:=by
 intro n;induction n using Nat.strongRecOn with
 |ind n ih=>
  intro h;rw[fp h];by_cases a:n/4294967296=0
  ·rw[a,gf];simp;omega
  have:=ih (n/4294967296) O a;have c:0<(aD (n/4294967296)).length:=by
   rcases RV (aD (n/4294967296)).length with b|b
   ·exact absurd (b9.1 b) a
   exact b
  rw[Q5,show(aD (n/4294967296)).length+1-1=(aD (n/4294967296)).length-1+1 by omega];simpa[List.getD]using this
def kS{n:Nat}:cR n=0↔n=0:=by
 constructor
 ·intro h;rcases RV n with a|a
  ·exact a
  exfalso;unfold cR at h;rw[if_neg O]at h;have f:=oX (n:=n) O;have b:(aD n).getD ((aD n).length-1) 0<2^64:=by
   rw[List.getD];cases c:(aD n)[(aD n).length-1]? with
   |none=>simp
   |some d=>
    have:=ck n d (Q8 c);simp;have e:(2:Nat)^64=18446744073709551616:=I
    omega
  have:=DN (d:=(aD n).getD ((aD n).length-1) 0) O b;omega
 rintro rfl;rfl
structure Fit (L:Nat) (q:Rat):Prop where
 num:(aD q.num.natAbs).length<=L
 den:(aD q.den).length<=L
