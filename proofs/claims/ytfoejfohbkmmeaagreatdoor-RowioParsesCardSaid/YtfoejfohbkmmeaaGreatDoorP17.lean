import Derived.Test.YtfoejfohbkmmeaaGreatDoorP16
import Derived.Test.YtfoejfohbkmmeaaGreatDoorP02
import Derived.Test.YtfoejfohbkmmeaaGreatDoorP00
set_option maxRecDepth 100000
set_option maxHeartbeats 8000000
namespace Go.Proofs.YtfoejfohbkmmeaaGreatDoor
open Go.RowKit
open Lib renaming hid→J
theorem OwnN.win{w:World}{base g m b:Nat}{L:List Nat}(h:OwnN w base (.slice (some ⟨g,0,none⟩) m b) L)(p:Digs L)(j k c:Nat)(v:j+k<=L.length)(s:k<=c)(r:c<=9223372036854775807):IsN w (some ⟨g,j,none⟩) c ((L.drop j).take k):=by
 have l:((L.drop j).take k).length=k:=by rw[Mf,MQ];omega
 refine⟨fun q=>⟨g,j,Z,?_,fun i u f=>?_⟩,fun e=>(by cases e),by omega,r,(p.drop j).take k⟩
 ·rw[dn,l]at q;obtain⟨t,n,e,_,d,_⟩:=h.lies (by omega);injection e with a
  injection a with a
  injection a with a
  rw[a];exact d
 have o:=(L6.1 f).1;rw[dn,l]at o;rw[h.cell (i:=j+i) (by omega),<-f];simp only[cA,MN];rw[MU,if_pos o,Nh,L3 (by omega)];rfl
theorem OwnN.keep{w w':World}{base g b n a:Nat}{L:List Nat}(h:OwnN w base (.slice (some ⟨g,0,none⟩) n a) L)(d:w.grownBy w' (some b))(c:g≠b):OwnN w' base (.slice (some ⟨g,0,none⟩) n a) L:=by
 unfold OwnN at h⊢;refine h.kept d (.inr ?_);show some g≠some b
 exact fun e=>c (by injection e)
theorem Fv{Y n d s:Nat}(o:1<=n)(g:(ax Y).length=n)(b:∃h:n-1<(ax Y).length,(ax Y)[n-1]=d)(l:2147483648<=2^s*d)(i:2^s*(d+1)<=4294967296):2^s*Y<4294967296^n/\2147483648*4294967296^(n-1)<=2^s*Y:=by
 obtain⟨c,b⟩:=b;have e:=df (ax Y) (n-1) c;rw[show n-1+1=n by omega,Me (NX g),aO,b]at e;have k:=b8 ((ax Y).take (n-1)) fun x j=>bZ Y x (ME j)
 rw[Mf,g,Ns (by omega)]at k;have m:4294967296^n=4294967296^(n-1)*4294967296:=by rw[<-MH];congr 1;omega
 generalize 4294967296^(n-1)=P at*;generalize ay ((ax Y).take (n-1))=t at*;generalize 2^s=S at*;constructor
 ·have a:S*Y<S*(P*(d+1))\/S=0:=by
   rcases M1 S with h|h
   ·exact .inr h
   left;refine PI ?_ h;rw[MB];omega
  rcases a with a|a
  ·have f:S*(P*(d+1))<=P*4294967296:=by rw[NM];exact Nl _ i
   omega
  subst a;omega
 have a:P*2147483648<=P*(S*d):=Nl _ l;have f:S*(P*d)<=S*Y:=Nl _ (by omega);rw[NM]at f;omega
theorem JR{vs:List Nat}{n V:Nat}(i:1<=n)(c:vs.length=n)(d:Digs vs)(f:ay vs=V)(h:2147483648*4294967296^(n-1)<=V):∀h:n-1<vs.length,2147483648<=vs[n-1]:=fun b=>by
 have e:=df vs (n-1) b;rw[show n-1+1=n by omega,Me (NX c),f]at e;have g:=b8 (vs.take (n-1)) (d.take _);rw[Mf,c,Ns (by omega)]at g;generalize 4294967296^(n-1)=P at*;generalize ay (vs.take (n-1))=t at*;generalize vs[n-1]=x at*;rcases MA x 2147483648 with a|a
 ·exfalso;have:P*(x+1)<=P*2147483648:=Nl _ a;rw[MB]at this;omega
 exact a
theorem Fw{U vs:List Nat}{j n V la:Nat}(r:U.length=la+1)(o:Digs U)(b:vs.length=n)(c:Digs vs)(k:ay vs=V)(u:j+n<=la)(f:ay U<V*4294967296^(j+1)):
  ay U=ay (U.take j)+4294967296^j*ay ((U.drop j).take (n+1))/\ay (U.drop (j+(n+1)))=0/\ay ((U.drop j).take (n+1))<4294967296*V:=by
 have l:=mw U j (by omega);have a:=mw (U.drop j) (n+1) (by rw[MQ];omega);rw[List.drop_drop]at a;have g:=b8 vs c;rw[b,k]at g;rw[MH]at f;have p:0<4294967296^j:=NF (by decide);have i:(4294967296:Nat)^(n+1)=4294967296^n*4294967296:=MH ..;generalize q:(4294967296:Nat)^j=P at*;generalize (4294967296:Nat)^n=R at*;rw[i]at a;generalize ay (U.take j)=t at*;generalize ay ((U.drop j).take (n+1))=x at*;generalize ay (U.drop (j+(n+1)))=y at*;generalize ay (U.drop j)=z at*;have s:z<4294967296*V:=by
  rcases MA z (4294967296*V)with h|h
  ·exact h
  exfalso;have m:P*(4294967296*V)<=P*z:=Nl _ h;have e:V*(P*4294967296)=P*(4294967296*V):=by rw[NM,Mt V]
  omega
 have d:y=0:=by
  refine P4 fun d=>?_
  have:R*4294967296*1<=R*4294967296*y:=Nl _ d;omega
 subst d;rw[OB,Nk]at a;exact⟨by rw[l,a],Z,by omega⟩
def LdInv(w:World)(gv gu gq n la V Z:Nat)(vs:List Nat)(i:Value)(wr:World):Prop:=
 ∃(k:Nat) (U qs:List Nat),k<=la+1-n/\i=.int .i64 ((k:Int)-1)/\U.length=la+1/\Digs U/\OwnN wr w.heap.size (.slice (some ⟨gu,0,none⟩) (la+1) (la+1)) U/\qs.length=la+1-n-k/\Digs qs/\OwnN wr w.heap.size (.slice (some ⟨gq,0,none⟩) (la+1-n) (la+1-n)) (List.replicate k 0++qs)/\OwnN wr w.heap.size (.slice (some ⟨gv,0,none⟩) n n) vs/\Z=ay qs*4294967296^k*V+ay U/\ay U<V*4294967296^k/\Below w.heap.size w wr
theorem Ii{U a qs:List Nat}{j n V la Z g:Nat}(v:U.length=la+1)(w:j+n<=la)(u:a.length=n+1)(f:Digs U)(s:ay U=ay (U.take j)+4294967296^j*ay ((U.drop j).take (n+1)))(h:ay (U.drop (j+(n+1)))=0)(k:g=ay ((U.drop j).take (n+1))/V)(d:ay a=ay ((U.drop j).take (n+1))%V)(p:0<V)(e:Z=ay qs*4294967296^(j+1)*V+ay U):
  Z=ay (g::qs)*4294967296^j*V+ay (U.take j++(a++U.drop (j+(n+1))))/\ay (U.take j++(a++U.drop (j+(n+1))))<V*4294967296^j:=by
 have i:ay (U.take j++(a++U.drop (j+(n+1))))=ay (U.take j)+4294967296^j*ay a:=by
  rw[eT,eT,h,OB,Nk,Mf,Ns (by omega)]
 have r:=b8 (U.take j) (f.take _);rw[Mf,Ns (by omega)]at r;have b:=Oa (ay ((U.drop j).take (n+1))) V;have c:=Ni (ay ((U.drop j).take (n+1))) p;rw[<-k,<-d]at b;rw[<-d]at c;rw[i,ay];rw[MH]at e;generalize (4294967296:Nat)^j=P at*;generalize ay (U.take j)=t at*;generalize ay ((U.drop j).take (n+1))=x at*;generalize ay a=o at*;generalize ay qs=q at*;constructor
 ·rw[e,s,<-b,MB P,M5,M5];have l:q*(P*4294967296)*V=4294967296*q*P*V:=by
   congr 1;rw[Mt P,<-Mu,Mt q]
  have m:P*(V*g)=g*P*V:=by rw[Mt V,<-Mu,Mt P]
  rw[l,m];omega
 have:P*(o+1)<=P*V:=Nl _ c;rw[MB]at this;rw[Mt V];omega
theorem LdInv.next{w wr m:World}{s h c n la V Z j g:Nat}{vs U a qs:List Nat}{z i:Int}(M:c≠h/\c≠s/\s≠h/\w.heap.size<=h/\w.heap.size<=c)(K:j+1<=la+1-n)(A:U.length=la+1)(b:Digs U)(D:vs.length=n)(y:Digs vs)(O:ay vs=V)(H:0<V)(C:ay U<V*4294967296^(j+1))(o:qs.length=la+1-n-(j+1))(v:Digs qs)
  (u:OwnN wr w.heap.size (.slice (some ⟨c,0,none⟩) (la+1-n) (la+1-n)) (List.replicate (j+1) 0++qs)) (x:OwnN wr w.heap.size (.slice (some ⟨s,0,none⟩) n n) vs) (hZ:Z=ay qs*4294967296^(j+1)*V+ay U) (J:Below w.heap.size w wr) (f:wr.grownBy m (some h)) (E:OwnN m w.heap.size (.slice (some ⟨h,0,none⟩) (la+1) (la+1)) (U.take j++(a++U.drop (j+(n+1))))) (q:a.length=n+1) (B:Digs a) (I:g=ay ((U.drop j).take (n+1))/V) (Y:ay a=ay ((U.drop j).take (n+1))%V) (N:z=(g:Int)) (S:i=(j:Int)-1):
  LdInv w s h c n la V Z vs (.int .i64 i) (m.setCell ⟨c,j,none⟩ (.int .u32 z)):=by
 subst S;obtain⟨G,W,L,q4,P⟩:=M;obtain⟨Q,R,h3⟩:=Fw A b D y O (j:=j) (by omega) C;have r:g<4294967296:=by rw[I,Nt H];exact h3
 have l:=jV m c j (.int .u32 z);have F:Below w.heap.size w m:=J.grown f J.size fun k e=>by injection e with e;omega
 obtain⟨X,T⟩:=Ii A (by omega) q b Q R I Y H hZ;refine⟨j,U.take j++(a++U.drop (j+(n+1))),g::qs,by omega,Zz,by rw[m7 (k:=n+1) (by omega) q,A],o0 (b.take _) (o0 B (b.drop _)),E.keep l (fun e=>G e.symm),by rw[L9,o];omega,fun d t=>?_,?_,(x.keep f L).keep l (fun e=>W e.symm),X,T,F.setCell (p:=⟨c,j,none⟩) P _⟩
 ·rcases Mi.1 t with rfl|t
  ·exact r
  exact v d t
 have:=(u.keep f G).put (i:=j) (by simp[o];omega) z g N;rw[qb]at this;exact this
theorem Fx{X Y s V R Q:Nat}(h:V=2^s*Y)(c:2^s*X=Q*V+R)(g:R<V):X/Y=Q/\X%Y=R/2^s:=by
 have a:0<2^s:=NF (by decide);generalize 2^s=S at*;subst h;have d:0<Y:=MS fun e=>by subst e;omega
 obtain⟨r,rfl⟩:∃r,R=S*r:=by
  have j:S∣Q*(S*Y)+R:=⟨X,c.symm⟩;have f:S∣Q*(S*Y):=⟨Q*Y,NM ..⟩;exact(Nat.dvd_add_right f).1 j
 have b:r<Y:=Nat.lt_of_mul_lt_mul_left g;have i:X=Q*Y+r:=by
  refine Nat.eq_of_mul_eq_mul_left a ?_;rw[c,MB,NM]
 rw[Pe _ a,i];refine⟨?_,?_⟩
 ·rw[Mt,Nat.mul_add_div d,N3 b];omega
 rw[Mt,Nat.mul_add_mod,ND b]
theorem Fy{n:Nat}(h:(ax n).length-1<(ax n).length):(ax n)[(ax n).length-1]≠0:=fun e=>by
 have b:=df (ax n) _ h;rw[show(ax n).length-1+1=(ax n).length by omega,M6,aO,e,OB,Nk]at b;have a:=b8 ((ax n).take ((ax n).length-1)) fun x c=>bZ n x (ME c)
 rw[Mf,Ns (by omega),<-b]at a;have:=a8 a;omega
theorem Au{d:Nat}(g:0<d)(h:d<4294967296):∃s:Nat,s<32/\(32-(Lib.bitLen d:Int))=(s:Int)/\2147483648<=2^s*d/\2^s*(d+1)<=4294967296:=by
 obtain⟨f,a,c⟩:=Lib.bitLenAux_bounds 64 d (by omega) (by omega);have i:Lib.bitLen d<=32:=Lib.bitLen_le d 32 (by decide) (by rw[show(2:Nat)^32=4294967296 by decide];exact h);change 1<=Lib.bitLen d at f;change 2^(Lib.bitLen d-1)<=d at a;change d<2^Lib.bitLen d at c;generalize Lib.bitLen d=b at*;refine⟨32-b,by omega,by omega,?_,?_⟩
 ·have e:2^(32-b)*2^(b-1)=2147483648:=by rw[<-NZ,show 32-b+(b-1)=31 by omega]
  rw[<-e];exact Nl _ a
 have e:2^(32-b)*2^b=4294967296:=by rw[<-NZ,show 32-b+b=32 by omega]
 rw[<-e];exact Nl _ c
theorem Fz{X V s n la:Nat}(i:s<32)(f:X<4294967296^la)(j:1<=n)(b:n<=la)(c:2147483648*4294967296^(n-1)<=V):2^s*X<V*4294967296^(la+1-n):=by
 have g:2^s<=2147483648:=by
  have a:(2:Nat)^s<=2^31:=MR (by decide) (by omega);have d:(2:Nat)^31=2147483648:=by decide
  omega
 have e:2147483648*4294967296^la=2147483648*4294967296^(n-1)*4294967296^(la+1-n):=by rw[Mu,<-NZ];congr 2;omega
 have a:2^s*X<=2147483648*X:=ML _ g;have d:2147483648*4294967296^(n-1)*4294967296^(la+1-n)<=V*4294967296^(la+1-n):=ML _ c;have h:2147483648*X<2147483648*4294967296^la:=PI f (by decide);omega
def QR(q r:Nat)(W:World)(v:Value):Prop:=∃a b,v=.tuple #[a,b]/\IsD W a q/\IsD W b r
def KR(gq:Nat)(gu:Nat)(la:Nat)(n:Nat)(m:Nat)(s:Nat)(a:Nat)(b:Nat):List (Value->World->Prop):=[
 fun r _=>r=.slice (some ⟨gq,0,none⟩) m m,
 fun r W=>IsD W r a,
 fun r _=>r=.slice (some ⟨gu,0,none⟩) (la+1) (la+1),
 fun r _=>r=.int .i64 (n:Int),
 fun r _=>r=.slice (some ⟨gu,0,none⟩) n (la+1),
 fun r _=>r=.int .u64 (s:Int),
 fun r W=>IsD W r b,
 fun r W=>IsD W r a,
 fun r W=>IsD W r b]
theorem Dw(d:Nat)(f:Nat)(la:Nat)(n:Nat)(m:Nat)(s:Nat)(a:Nat)(b:Nat)(e:World):Stab e (KR d f la n m s a b):=
 .eq<|.cons (fun _ _ _ _ h c=>IsD.below h c)<|.eq<|.eq<|.eq<|.eq<|.cons (fun _ _ _ _ h c=>IsD.below h c)<|.cons (fun _ _ _ _ h c=>IsD.below h c)<|.cons (fun _ _ _ _ h c=>IsD.below h c)<|.nil
theorem KT{u v:Value}{X Y:Nat}{w:World}(hu:IsD w u X)(hv:IsD w v Y)(x4:(ax X).length<=1048576)(h2:2<=(ax Y).length)(A0:Y<=X):Calls Tryz.prog 245 #[u,v] w (gF (QR (X/Y) (X%Y)) w):=by
 obtain⟨A,ca,f,rfl,v3,i9⟩:=hu.open_;obtain⟨B,cb,a,rfl,t0,a0⟩:=hv.open_;have x2:a.length<=f.length:=by rw[i9.out,a0.out];exact a7 A0
 have R3:f.length<=1048576:=by rw[i9.out];exact x4
 have z9:2<=a.length:=by rw[a0.out];exact h2
 have u0:=J v3;have g3:=J t0;have HX:Hid (ay f=X):=by rw[i9.out];exact aO X
 have HY:Hid (ay a=Y):=by rw[a0.out];exact aO Y
 clear hu hv v3 t0;obtain⟨b2,o2,rfl,R6,o3⟩:=g3.out.digit (i:=a.length-1) (by omega);have cd:=o3 (a.length-1) (by omega);have f3:=g3.out.lt (i:=a.length-1) (by omega);have t7:0<a[a.length-1]'(by omega):=by
  refine MS fun e=>?_
  have i3:=a0.out;subst i3;exact Fy (by omega) e
 obtain⟨d,hd⟩:∃d,a[a.length-1]'(by omega)=d:=⟨_,rfl⟩;rw[hd]at cd f3 t7;obtain⟨s,M,q8,m1,t3⟩:=Au t7 f3;obtain⟨n1,n2⟩:=Fv (Y:=Y) (n:=a.length) (d:=d) (s:=s) (by omega) (by rw[<-a0.out]) (by
  have i3:=a0.out;subst i3;exact⟨by omega,hd⟩) m1 t3
 have HL:=J (fun w=>Tryz.bits_LeadingZeros32 (d:Int) w (by omega) (by omega));simp only[Ou,q8]at HL;have i5:=J n1;have g4:=J n2;have g1:(0:Int)<=(a.length:Int)-1:=by omega
 have g2:((a.length:Int)-1).toNat=a.length-1:=by omega
 clear o3 hd m1 t3 n1 n2 q8
 go_enter Tryz.func245,Tryz.ntmps245
 go_wp2_with fail
 refine(HL.out _).mono ?_;rintro e w0 ⟨rfl,rfl⟩;have r2:=J (Cb _ cb a s a.length w0 g3.out (by omega) M (.inl Z))
 go_wp2_with fail
 refine r2.out.mono ?_;rintro e x ⟨vs,c1,rfl,R,t4,v9,_,c5,g0⟩;obtain rfl:c1=0:=by
  rcases M1 c1 with h|h
  ·exact h
  exfalso;have h8:=i5.out;rw[<-HY.out,<-c5]at h8;have:1*4294967296^a.length<=c1*4294967296^a.length:=ML _ h;omega
 rw[Pv,Nk,HY.out]at c5;have E0:w0.heap.size<x.heap.size:=by
  obtain⟨g',r3,e,_,d3,_⟩:=R.lies (by omega);injection e with e1
  injection e1 with e1
  injection e1 with e1
  omega
 have z0:=J R;have I:=J t4;have o:=J v9;have D:=J c5;have Q0:=J g0;have i0:=J (Cb A ca f s (f.length+1) x (u0.out.below g0) (by omega) M (.inr Z));rw[show((f.length+1:Nat):Int)=(f.length:Int)+1 by omega]at i0;clear R t4 v9 c5 g0 r2
 go_wp2_with fail
 refine i0.out.mono ?_;rintro e O ⟨us,c2,rfl,Q,s9,b3,v0,P,c0⟩;obtain rfl:c2=0:=v0 rfl;rw[Pv,Nk,HX.out]at P;have R2:x.heap.size<O.heap.size:=by
  obtain⟨g',r3,e,_,d3,_⟩:=Q.lies (by omega);injection e with e1
  injection e1 with e1
  injection e1 with e1
  omega
 have s1:=J (z0.out.below c0);have G2:=J (Q.base_le (b:=w0.heap.size) (by omega));have Q1:=J s9;have G3:=J b3;have m3:=J P;have D2:=J (aE Q0.out c0 (by omega));clear Q s9 b3 P c0 v0 i0;obtain⟨W,c9,v1,e0,z4⟩:=eO O (f.length+1-a.length) (by omega);have c9:=c9 .i64 .i64;have z2:=J (v1.base_le (b:=w0.heap.size) (by omega));have w6:=J (s1.out.below e0);have q9:=J (G2.out.below e0);have z1:=J (aE D2.out e0 (by omega));have Q3:O.heap.size<W.heap.size:=by omega
 clear v1 e0 z4;rw[show((f.length+1-a.length:Nat):Int)=(f.length:Int)-(a.length:Int)+1 by omega]at c9;have Q2:=J (Fz (X:=X) (V:=2^s*Y) (n:=a.length) (la:=f.length) M (by have:=b8 f u0.out.ok;rwa[HX.out]at this) (by omega) x2 g4.out)
 go_wp2
 clear c9
 go_loopw [10] (fun i wr=>LdInv w0 w0.heap.size x.heap.size O.heap.size a.length f.length (2^s*Y) (2^s*X) vs i wr) (fun i _=>(intOf i+1).toNat)
 case atStart=>exact⟨f.length+1-a.length,us,[],L4 _,Fk (by omega),G3.out,Q1.out,q9.out,by simp,fun d hd=>(by cases hd),by rw[Mq];exact z2.out,w6.out,by rw[m3.out];simp[ay],by rw[m3.out];exact Q2.out,z1.out⟩
 case round=>
  obtain⟨k,U,qs,hk,rfl,k3,s2,v2,q5,k4,S,R,hZ,d3,t9⟩:=hrel;have c:=J k3;have m:=J s2;have b5:=J v2;have p:=J q5;have b1:=J k4;have f4:=J S;have f1:=J R;have h5:=J hZ;have L:=J d3;have d4:=J t9;clear k3 s2 v2 q5 k4 S R hZ d3 t9;cases k with
  |zero=>
   have hZ:=h5.out;rw[Py,NQ]at hZ;have hR:=L.out;rw[Py,NQ]at hR;obtain⟨q1,q2⟩:=Fx (X:=X) (Y:=Y) (s:=s) rfl hZ hR;have S:=f4.out;rw[NI,MI]at S;obtain⟨i1,i2⟩:=S.isN b1.out;have A2:=J (fun(W':World) (hw:Below wr.heap.size wr W')=>o4 (N:=X/Y) (i1.below hw) i2 (by rw[p.out];omega) q1.symm);have b3:(U.take a.length).length=a.length:=by rw[Mf,c.out];omega
   have P:ay (U.take a.length)=ay U:=by
    have h1:=mw U a.length (by rw[c.out];omega);have h2:ay (U.drop a.length)=0:=by
     have h3:=i5.out;have h4:ay U<4294967296^a.length:=by omega
     refine P4 fun hp=>?_
     have:4294967296^a.length*1<=4294967296^a.length*ay (U.drop a.length):=Nl _ hp;omega
    rw[h2,OB,Nk]at h1;exact h1.symm
   have a1:=b5.out.win m.out 0 a.length (f.length+1) (by rw[c.out];omega) (by omega) (by omega);rw[M8]at a1;have G0:=J (fun(W':World) (hw:Below wr.heap.size wr W')=>by
    have h1:=Ie (some ⟨x.heap.size,0,none⟩) (f.length+1) (U.take a.length) s W' (a1.below hw) (by omega) M;rw[b3,P,<-q2]at h1;exact h1)
   have R8:(0:Int)<=(a.length:Int):=by omega
   have Q8:(a.length:Int)<=(f.length:Int)+1:=by omega
   clear hZ hR q1 q2 S i1 i2 b3 P a1
   go_wp2
   refine jh [some 80,some 81,some 82,some 83,some 84,some 85,some 86,some 4,some 5] (KR O.heap.size x.heap.size f.length a.length ((f.length+1-a.length)) s ((X/Y)) ((X%Y))) (by kernel_rfl) (by kernel_rfl) (by rfl) (by rfl) (Dw O.heap.size x.heap.size f.length a.length ((f.length+1-a.length)) s ((X/Y)) ((X%Y)) _) ?_ ?_
   ·refine Steps.cons trivial (fun T W l=>?_) ?_
    ·have e4:T 4=.slice (some ⟨O.heap.size,0,none⟩) ((f.length+1-a.length)) ((f.length+1-a.length)):=l.old 1 7 4 (by kernel_rfl);have t:=l.wi;clear l;refine aC (v:=.slice (some ⟨O.heap.size,0,none⟩) ((f.length+1-a.length)) ((f.length+1-a.length))) (W':=W) ?_ ⟨Z,Below.refl _ _⟩;simp only[execOp,dU,e4];go_simp
    refine Steps.cons trivial (fun T W l=>?_) ?_
    ·have A3:T 80=.slice (some ⟨O.heap.size,0,none⟩) ((f.length+1-a.length)) ((f.length+1-a.length)):=l.fact 1 0 80 (by kernel_rfl);have t:=l.wi;clear l;refine cP ?_ (((A2.out W t)).mono fun e W' h=>h);simp only[execOp,resolve,invoke,NP,M3,NV,dU,A3];go_simp
    refine Steps.cons trivial (fun T W l=>?_) ?_
    ·have e9:T 9=.slice (some ⟨x.heap.size,0,none⟩) (f.length+1) (f.length+1):=l.keep 9 (by rfl);have t:=l.wi;clear l;refine aC (v:=.slice (some ⟨x.heap.size,0,none⟩) (f.length+1) (f.length+1)) (W':=W) ?_ ⟨Z,Below.refl _ _⟩;simp only[execOp,dU,e9];go_simp
    refine Steps.cons trivial (fun T W l=>?_) ?_
    ·have e6:T 6=.int .i64 (a.length:Int):=l.keep 6 (by rfl);have t:=l.wi;clear l;refine aC (v:=.int .i64 (a.length:Int)) (W':=W) ?_ ⟨Z,Below.refl _ _⟩;simp only[execOp,dU,e6];go_simp
    refine Steps.cons trivial (fun T W l=>?_) ?_
    ·have B0:T 82=.slice (some ⟨x.heap.size,0,none⟩) (f.length+1) (f.length+1):=l.fact 1 2 82 (by kernel_rfl);have G1:T 83=.int .i64 (a.length:Int):=l.fact 1 3 83 (by kernel_rfl);have t:=l.wi;clear l;refine aC (v:=.slice (some ⟨x.heap.size,0,none⟩) a.length (f.length+1)) (W':=W) ?_ ⟨Z,Below.refl _ _⟩;simp only[execOp,dU,B0];go_simp;simp only[dU,G1];go_simp
    refine Steps.cons trivial (fun T W l=>?_) ?_
    ·have e7:T 7=.int .u64 (s:Int):=l.keep 7 (by rfl);have t:=l.wi;clear l;refine aC (v:=.int .u64 (s:Int)) (W':=W) ?_ ⟨Z,Below.refl _ _⟩;simp only[execOp,dU,e7];go_simp
    refine Steps.cons trivial (fun T W l=>?_) ?_
    ·have D1:T 84=.slice (some ⟨x.heap.size,0,none⟩) a.length (f.length+1):=l.fact 1 4 84 (by kernel_rfl);have A4:T 85=.int .u64 (s:Int):=l.fact 1 5 85 (by kernel_rfl);have t:=l.wi;clear l;refine cP ?_ (((G0.out W t)).mono fun e W' h=>h);simp only[execOp,resolve,invoke,NP,M3,NV,dU,D1,A4];go_simp
    refine Steps.cons trivial (fun T W l=>?_) ?_
    ·have o1:(fun r W=>IsD W r ((X/Y))) (T 81) W:=l.fact 1 1 81 (by kernel_rfl);simp only at o1;have t:=l.wi;clear l;exact aC (v:=T 81) (W':=W) (by simp only[execOp,dU];go_simp) ⟨o1,Below.refl _ _⟩
    refine Steps.cons trivial (fun T W l=>?_) ?_
    ·have q6:(fun r W=>IsD W r ((X%Y))) (T 86) W:=l.fact 1 6 86 (by kernel_rfl);simp only at q6;have t:=l.wi;clear l;exact aC (v:=T 86) (W':=W) (by simp only[execOp,dU];go_simp) ⟨q6,Below.refl _ _⟩
    exact Steps.nil
   intro us W1 e5 hF hb;obtain⟨y0,R1,rfl,q0⟩:=dL e5;clear e5;obtain⟨y1,R9,rfl,s3⟩:=dL q0;clear q0;obtain⟨y2,R4,rfl,p4⟩:=dL s3;clear s3;obtain⟨y3,Q5,rfl,x0⟩:=dL p4;clear p4;obtain⟨y4,Q7,rfl,r4⟩:=dL x0;clear x0;obtain⟨y5,Q9,rfl,k0⟩:=dL r4;clear r4;obtain⟨y6,Q6,rfl,p0⟩:=dL k0;clear k0;obtain⟨y7,R0,rfl,t1⟩:=dL p0;clear p0;obtain⟨y8,R7,rfl,x1⟩:=dL t1;clear t1;obtain rfl:=vN x1;clear x1;have f7:(fun r W=>IsD W r ((X/Y))) y7 W1:=hF 7 (by decide);have f8:(fun r W=>IsD W r ((X%Y))) y8 W1:=hF 8 (by decide);clear hF;simp only[cj,Nz,PG,O2,Oz,NO];have F7:IsD W1 y7 (X/Y):=f7;have F8:IsD W1 y8 (X%Y):=f8;have C2:=J F7;have z3:=J F8;have x3:=J (aE d4.out hb d4.out.size);clear f7 f8 F7 F8 hb
   go_wp2
   go_ret2
   exact⟨_,Z,⟨_,_,Z,C2.out,z3.out⟩,x3.out⟩
  |succ j=>
   rw[show((j+1:Nat):Int)-1=(j:Int) by omega];obtain⟨A1,H5,m2⟩:=Fw c.out m.out o.out I.out D.out (j:=j) (by omega) L.out;have f5:((U.drop j).take (a.length+1)).length=a.length+1:=by rw[Mf,MQ,c.out];omega
   have hG:Guess ((U.drop j).take (a.length+1)) vs a.length:=⟨z9,f5,o.out,(m.out.drop j).take _,I.out,JR (by omega) o.out I.out D.out g4.out,by rw[D.out];exact m2⟩;have h7:=Dv (some ⟨x.heap.size,j,none⟩) (some ⟨w0.heap.size,0,none⟩) (f.length+1-j) a.length ((U.drop j).take (a.length+1)) vs a.length wr (b5.out.win m.out j (a.length+1) _ (by rw[c.out];omega) (by omega) (by omega)) (by have:=f1.out.win I.out 0 a.length a.length (by rw[o.out];omega) (by omega) (by omega);rw[M8,Me (NX o.out)]at this;exact this) hG (by omega);rw[f5,o.out,D.out]at h7;have u1:=J h7;clear h7 hG f5 A1 H5 m2;have p1:(0:Int)<=(j:Int):=by omega
   have p2:(j:Int)<=(j:Int)+(a.length:Int)+1:=by omega
   have p3:(j:Int)+(a.length:Int)+1<=(f.length:Int)+1:=by omega
   go_wp2_with fail
   rw[show j+a.length+1-j=a.length+1 by omega];refine u1.out.mono ?_;rintro e w3 ⟨g,rfl,t5,n0,z5,gb⟩;have d2:=J (And.intro t5 n0);have m4:=J (show OwnN w3 w0.heap.size (.slice (some ⟨x.heap.size,0,none⟩) U.length (f.length+1)) U by rw[c.out];exact b5.out.below gb);have K:=J (f4.out.below gb);have a2:=J (f1.out.below gb);have q3:=J (aE d4.out gb d4.out.size);have c4:0<2^s*Y:=Mj (OD (by decide) (NF (by decide))) g4.out;have u8:=J (show IsN w3 (some ⟨w0.heap.size,0,none⟩) a.length vs by have:=a2.out.win I.out 0 a.length a.length (by rw[o.out];omega) (by omega) (by omega);rw[M8,Me (NX o.out)]at this;exact this);have h0:=Ft x.heap.size (f.length+1) w0.heap.size j a.length g (f.length+1-j) a.length (some ⟨w0.heap.size,0,none⟩) U vs w3 m4.out m.out u8.out (fun b off e=>by injection e with e;injection e with e;omega) o.out (by rw[c.out];omega) (by omega) z5 (by omega) (by rw[c.out];omega);rw[o.out]at h0;have t2:=J h0;have s5:O.heap.size≠x.heap.size/\O.heap.size≠w0.heap.size/\w0.heap.size≠x.heap.size/\w0.heap.size<=x.heap.size/\w0.heap.size<=O.heap.size:=⟨by omega,by omega,by omega,by omega,by omega⟩;have r0:O.heap.size≠x.heap.size:=by omega
   clear t5 n0 gb u1 h0
   go_wp2_with fail
   rw[show j+a.length+1-j=a.length+1 by omega];refine t2.out.mono ?_;rintro e w4 ⟨bb,y,rfl,q7,v5,Q,F,r1⟩;rw[D.out]at F;have C:=J q7;have d0:=J v5;have d1:=J r1;have a5:=J Q;rw[c.out]at a5;clear q7 v5 Q r1 t2;cases bb with
   |false=>
    rw[if_neg MF,Nk]at F;obtain⟨k1,k2⟩:=Dr c4 d2.out.1 d2.out.2 F;have K1:=J k1;have K2:=J k2;clear F k1 k2;have G:=K.out.keep d1.out r0;have H3:=G.free j;have j2:=G.cell (i:=j) (by have:=p.out;simp;omega);obtain⟨old,E⟩:∃old,(List.replicate (j+1) 0++qs)[j]'(by have:=p.out;simp;omega)=old:=⟨_,rfl⟩;rw[E]at j2;have i4:=J (fun z i hz hi=>LdInv.next (z:=z) (i:=i) (g:=g) s5 hk c.out m.out o.out I.out D.out c4 L.out p.out b1.out K.out a2.out h5.out q3.out d1.out a5.out C.out d0.out K1.out K2.out hz hi);clear G E
    go_wp2
    go_roundw
    case rel=>exact i4.out _ _ (by first|rfl|omega) (by omega)
    case measure=>simp[intOf]
   |true=>
    rw[if_pos Z]at F;have a3:(U.take j++(y++U.drop (j+(a.length+1)))).length=f.length+1:=by rw[m7 (k:=a.length+1) (by rw[c.out];omega) C.out,c.out]
    have H:(U.take j).length=j:=by rw[Mf,c.out];omega
    have t8:Digs (U.take j++(y++U.drop (j+(a.length+1)))):=o0 (m.out.take _) (o0 d0.out (m.out.drop _));have h6:=Fu x.heap.size (f.length+1) w0.heap.size j a.length (f.length+1-j) a.length (some ⟨w0.heap.size,0,none⟩) (U.take j++(y++U.drop (j+(a.length+1)))) vs w4 (by rw[a3];exact a5.out) t8 (u8.out.grown d1.out fun b off e=>by injection e with e;injection e with e;omega) (fun b off e=>by injection e with e;injection e with e;omega) o.out (by rw[a3];omega) (by omega) (by omega) (by rw[a3];omega);rw[o.out]at h6;have s4:=J h6;have l5:=J F;have I0:=J a3;have E0:1<=g:=by
     refine MS fun e=>?_
     have h8:=l5.out;rw[e,Pv,Nk]at h8;have h9:=b8 y d0.out;rw[C.out]at h9;omega
    have R5:IntKind.u64.wrap ((g:Int)-1)=((g-1:Nat):Int):=by rw[IntKind.wrap_u64];omega
    have Q4:g-1<4294967296:=by omega
    clear F a3 t8 h6 H
    go_wp2_with fail
    rw[show j+a.length+1-j=a.length+1 by omega];refine s4.out.mono ?_;rintro e w5 ⟨v4,q,rfl,a4,c3,b0,a9,f0⟩;have H:(U.take j).length=j:=by rw[Mf,c.out];omega
    have e1:((U.take j++(y++U.drop (j+(a.length+1)))).drop j).take (a.length+1)=y:=by
     rw[PS,Md (by omega),H,M2,M8,MI,OW,C.out,M2,Ox,Mq,Me (by rw[C.out];omega)]
    have e2:(U.take j++(y++U.drop (j+(a.length+1)))).take j=U.take j:=by
     rw[OW,H,M2,Ox,Mq,Me (by omega)]
    have e3:(U.take j++(y++U.drop (j+(a.length+1)))).drop (j+(a.length+1))=U.drop (j+(a.length+1)):=by
     rw[<-Mv,PS,Md (by rw[Mb,H,C.out];omega),Mb,H,C.out,M2,M8,MI]
    rw[e1,D.out]at a9;rw[e2,e3,I0.out]at b0;have u2:2^s*Y<=4294967296^(a.length+1):=by
     have:=i5.out;rw[MH];omega
    have l1:=b8 y d0.out;rw[C.out]at l1;have l2:=b8 v4 c3;rw[a4]at l2;obtain⟨k1,k2⟩:=Ds c4 u2 d2.out.1 d2.out.2 l1 l5.out l2 a9;have K1:=J (show g-1=ay ((U.drop j).take (a.length+1))/(2^s*Y) by omega);have K2:=J k2;have q4:=J a4;have v6:=J c3;have f2:=J (d1.out.trans f0);have f9:=J b0;clear H e1 e2 e3 a9 b0 u2 l1 l2 k1 k2 a4 c3 f0 s4;have G:=K.out.keep f2.out r0;have H3:=G.free j;have j2:=G.cell (i:=j) (by have:=p.out;simp;omega);obtain⟨old,E⟩:∃old,(List.replicate (j+1) 0++qs)[j]'(by have:=p.out;simp;omega)=old:=⟨_,rfl⟩;rw[E]at j2;have i4:=J (fun z i hz hi=>LdInv.next (z:=z) (i:=i) (g:=g-1) s5 hk c.out m.out o.out I.out D.out c4 L.out p.out b1.out K.out a2.out h5.out q3.out f2.out f9.out q4.out v6.out K1.out K2.out hz hi);clear G E
    go_wp2
    go_roundw
    case rel=>exact i4.out _ _ (by first|rfl|omega) (by omega)
    case measure=>simp[intOf]
def DdInv(W0:World)(ds:List Nat)(d:Nat)(r i:Value)(wr:World):Prop:=
 ∃(k rs:Nat) (qs:List Nat),k<=ds.length/\i=.int .i64 ((k:Int)-1)/\r=.int .u64 rs/\rs<d/\qs.length=ds.length-k/\Digs qs/\OwnN wr W0.heap.size (.slice (some ⟨W0.heap.size,0,none⟩) ds.length ds.length) (List.replicate k 0++qs)/\ay (ds.drop k)=d*ay qs+rs/\Below W0.heap.size W0 wr/\W0.heap.size<wr.heap.size
theorem Ij{a qs:List Nat}{k d rs x:Nat}(c:k<a.length)(b:a[k]=x)(f:ay (a.drop (k+1))=d*ay qs+rs):
  ay (a.drop k)=d*ay ((rs*4294967296+x)/d::qs)+(rs*4294967296+x)%d:=by
 rw[xP a k c,b,f,ay];have h:=Oa (rs*4294967296+x) d;have e:d*((rs*4294967296+x)/d+4294967296*ay qs)=d*((rs*4294967296+x)/d)+4294967296*(d*ay qs):=by rw[MB,NM d]
 rw[e];omega
theorem FA(n:Nat)(h:n<4294967296):IntKind.u64.wrap (n:Int)%4294967296=n:=by rw[IntKind.wrap_u64];omega
theorem Jd{rs d x:Nat}(h:rs<d)(a:x<4294967296):(rs*4294967296+x)/d<4294967296:=by
 rw[Nt (by omega)];have:(rs+1)*4294967296<=d*4294967296:=ML _ h;rw[Mt 4294967296 d];omega
theorem DdInv.next{a wr:World}{b qs:List Nat}{d k rs x:Nat}{z q i:Int}(n:k<b.length)(s:b[k]=x)(c:x<4294967296)(u:rs<d)(g:qs.length=b.length-(k+1))(l:Digs qs)(v:OwnN wr a.heap.size (.slice (some ⟨a.heap.size,0,none⟩) b.length b.length) (List.replicate (k+1) 0++qs))(o:ay (b.drop (k+1))=d*ay qs+rs)(t:Below a.heap.size a wr)(r:a.heap.size<wr.heap.size)
  (m:z=(((rs*4294967296+x)/d:Nat):Int)) (f:q=(((rs*4294967296+x)%d:Nat):Int)) (w:i=(k:Int)-1):DdInv a b d (.int .u64 q) (.int .i64 i) (wr.setCell ⟨a.heap.size,k,none⟩ (.int .u32 z)):=by
 subst f w;refine⟨k,_,(rs*4294967296+x)/d::qs,by omega,Z,Z,Ni _ (by omega),by simp[g];omega,fun e j=>?_,?_,Ij n s o,t.setCell (p:=⟨a.heap.size,k,none⟩) (L4 _) _,by simpa[World.setCell]using r⟩
 ·rcases Mi.1 j with rfl|h
  ·exact Jd u c
  exact l e h
 have:=v.put (i:=k) (by simp[g];omega) z _ m;rw[qb]at this;exact this
def QD(n d:Nat)(W:World)(v:Value):Prop:=∃a,v=.tuple #[a,.int .u32 ((n%d:Nat):Int)]/\IsD W a (n/d)
theorem wF(A:Option Addr)(c:Nat)(g:List Nat)(d:Nat)(w:World)(h:IsN w A c g)(hl:g.length<=1048576)(u:0<d)(a1:d<4294967296):
  Calls Tryz.prog 173 #[.slice A g.length c,.int .u32 d] w (gF (QD (ay g) d) w):=by
 have HI:=J h;clear h;have a2:((d:Int)==0)=false:=by rw[beq_eq_false_iff_ne];omega
 obtain⟨W,q,C,G,U⟩:=eO w g.length (by omega);have q:=q .i64 .i64;have O:=J C;have N:=J G;have L:w.heap.size<W.heap.size:=by omega
 clear C G U
 go_enter Tryz.func173,Tryz.ntmps173
 go_wp2
 clear q
 go_loopw [7,8] (fun r i wr=>DdInv w g d r i wr) (fun _ i _=>(intOf i+1).toNat)
 case atStart=>exact⟨g.length,0,[],L4 _,Z,Z,u,by simp,fun d u=>by simp at u,by simpa using O.out,by simp[ay],N.out,L⟩
 case round=>
  obtain⟨k,rs,qs,hk,rfl,rfl,M,F,y,j,s,H,T⟩:=hrel;have l:=J j;have HQ:=J s;have f:=J H;have v:=J F;have K:=J y;clear j s H F y;cases k with
  |zero=>
   have j:OwnN wr w.heap.size (.slice (some ⟨w.heap.size,0,none⟩) g.length g.length) qs:=by have:=l.out;rwa[NI,MI]at this
   obtain⟨h4,h5⟩:=j.isN K.out;have R:=HQ.out;rw[M8]at R;have P:ay qs=ay g/d/\ay g%d=rs:=by
    rw[R];exact⟨by rw[Nat.mul_add_div u,N3 M];omega,by rw[Nat.mul_add_mod,ND M]⟩
   have HT:=J (o4 h4 h5 (by have:=v.out;omega) P.1);have HR:=J P.2;clear j h4 h5 R P;have p:rs<4294967296:=by omega
   go_wp2_with fail
   refine HT.out.mono ?_;rintro e w5 ⟨v5,rfl,z,D⟩;have V:=J z;have a0:=J (aE f.out D f.out.size);clear z D
   go_wp2
   go_ret2
   exact⟨_,Z,⟨_,by rw[HR.out];rfl,V.out⟩,a0.out⟩
  |succ k=>
   rw[show((k+1:Nat):Int)-1=(k:Int) by omega];have m:k<g.length:=by omega
   obtain⟨b,off,rfl,hb,hc⟩:=(HI.out.below f.out).digit m;have cx:=hc k m;have a:=HI.out.lt m;obtain⟨x,Q⟩:∃x,g[k]=x:=⟨_,rfl⟩;rw[Q]at cx a;have HX:=J Q;have a3:=l.out.free k;have S:=l.out.cell (i:=k) (by simp;omega);obtain⟨old,o⟩:∃old,(List.replicate (k+1) 0++qs)[k]'(by simp;omega)=old:=⟨_,rfl⟩;rw[o]at S;have E:=B7 rs x (by omega) a;rw[show(((rs*4294967296:Nat)):Int)=(rs:Int)*4294967296 by omega]at E;have I:rs*4294967296+x<18446744073709551616:=by omega
   have n:=Jd M a;have p:(rs*4294967296+x)%d<d:=Ni _ u;obtain⟨t,Y⟩:∃t,rs*4294967296+x=t:=⟨_,rfl⟩;rw[Y]at E I n p;have B:=J Y;have e2:((t:Int)%(d:Int))=((t%d:Nat):Int):=by omega
   have X:=J e2;clear hc Q o Y e2
   go_wp2
   go_roundw
   case rel=>exact DdInv.next m HX.out a M v.out K.out l.out HQ.out f.out T (by rw[B.out];exact FA _ n) (by rw[B.out];first|exact X.out|omega) (by omega)
   case measure=>simp[intOf]
theorem uC{v:Value}{n d:Nat}{w:World}(h:IsD w v n)(b:(ax n).length<=1048576)(e:0<d)(a:d<4294967296):Calls Tryz.prog 173 #[v,.int .u32 d] w (gF (QD n d) w):=by
 obtain⟨A,c,rfl,f⟩:=h;have:=wF A c (ax n) d w f b e a;rwa[aO]at this
def LX(X Y:Nat)(W:World)(r:Value):Prop:=∃a b,r=.tuple #[a,b,.bool true]/\IsD W a (X/Y)/\IsD W b (X%Y)
theorem IsD.zero(W:World):IsD W (.slice none 0 0) 0:=⟨none,0,Z,At.nil _ _ _,fun _=>⟨Z,Z⟩,L4 _,by omega,fun _ h=>by cases h⟩
theorem xY{n:Nat}(h:(ax n).length=1):0<n/\n<4294967296/\ax n=[n]:=by
 have c:n≠0:=fun e=>by rw[e,gX]at h;simp at h
 have b:=fg c;have a:ax (n/4294967296)=[]:=Mr (by rw[b]at h;simpa using h);have d:=xK.1 a;exact⟨by omega,by omega,by rw[b,a,ND (by omega)]⟩
theorem Ce{u v:Value}{X Y:Nat}{w:World}(hu:IsD w u X)(hv:IsD w v Y)(b5:(ax X).length<=1048576)(c3:(ax Y).length<=1048576)(hY:0<Y):Calls Tryz.prog 210 #[u,v] w (gF (LX X Y) w):=by
 have HC:=J (kY hu (by omega));have HV:=J hv;obtain⟨A0,c0,rfl,_⟩:=hu;obtain⟨B0,e0,rfl,_⟩:=hv
 go_enter Tryz.func210,Tryz.ntmps210
 go_wp2_with fail
 refine HC.out.mono ?_;rintro e w1 ⟨v1,rfl,O,x⟩;obtain⟨A1,c1,dx,rfl,V,o⟩:=O.open_;have R:=J V;have U:=J x;have S:=J o.out;have G:=x.size;clear O V x o HC;have K:=J (kY (HV.out.below U.out) (by omega))
 go_wp2_with fail
 refine K.out.mono ?_;rintro e w2 ⟨v2,rfl,a0,r⟩;obtain⟨A2,c2,z,rfl,P,o⟩:=a0.open_;have p:=J P;have C:=J (R.out.below r);have b1:=J (aE U.out r G);have j:=J o.out;have Q:w.heap.size<=w2.heap.size:=Ma G r.size;clear a0 P r o K R;have b3:0<z.length:=by
  rcases M1 z.length with h|h
  ·rw[j.out]at h;have:=bR.1 h;omega
  exact h
 have g1:((z.length:Int)==0)=false:=by rw[beq_eq_false_iff_ne];omega
 have d:(eo (X:Int) (Y:Int)<0)↔X<Y:=by
  rcases OQ X Y with h|h|h
  ·rw[km h];omega
  ·rw[ju h];omega
  rw[jt h];omega
 have A:=J (Fl (C.out.isD S.out) (p.out.isD j.out) (by omega) (by omega));obtain⟨cm,W⟩:∃cm,eo (X:Int) (Y:Int)=cm:=⟨_,rfl⟩;rw[W]at A d;clear W
 go_wp2_with fail
 refine A.out.mono ?_;rintro e w3 ⟨v3,rfl,a1,g⟩;obtain rfl:=a1;have y:=J ((C.out.isD S.out).below g);have b2:=J ((p.out.isD j.out).below g);have F:=J (p.out.below g);have B:=J (aE b1.out g Q);have q:w.heap.size<=w3.heap.size:=Ma Q g.size;clear g A C p;by_cases f:X<Y
 ·have a3:cm<0:=d.2 f;clear d;have HN:=J (B6 y.out (by omega))
  go_wp2_with fail
  refine HN.out.mono ?_;rintro e w4 ⟨v4,rfl,c,a⟩;have k:=J c;have l:=J (aE B.out a q);clear c a
  go_wp2
  go_ret3
  exact⟨_,Z,⟨_,_,Z,by rw[N3 f];exact IsD.zero _,by rw[ND f];exact k.out⟩,l.out⟩
 have a3:¬cm<0:=fun h=>f (d.1 h)
 have a4:Y<=X:=by omega
 clear d;by_cases h1:z.length=1
 ·have g2:((z.length:Int)==1)=true:=by rw[beq_iff_eq];omega
  obtain⟨E,s,L⟩:=xY (n:=Y) (by rw[<-j.out];exact h1);have t:z=[Y]:=by rw[j.out,L]
  obtain⟨b,off,rfl,hb,hc⟩:=F.out.digit (i:=0) (by omega);have c0:=hc 0 (by omega);simp only[t,ON,Nk]at c0;clear hc L t;have H:=J (uC y.out (by omega) E s);have M:X%Y<4294967296:=Nat.lt_trans (Ni _ E) s;obtain⟨m,hm⟩:∃m,X%Y=m:=⟨_,rfl⟩;have HM:=J hm;rw[hm]at M;unfold QD at H;rw[hm]at H;clear hm
  go_wp2_with fail
  refine H.out.mono ?_;rintro e w4 ⟨v4,rfl,⟨q4,rfl,c⟩,a⟩;have k:=J c;have l:=J (aE B.out a q);have a2:w.heap.size<=w4.heap.size:=Ma q a.size;clear c a;have HF:=J (qc m w4 (by omega))
  go_wp2_with fail
  refine HF.out.mono ?_;rintro e w5 ⟨v5,rfl,T,D⟩;have b0:=J T;have I:=J (k.out.below D);have a5:=J (aE l.out D a2);clear T D
  go_wp2
  go_ret3
  exact⟨_,Z,⟨_,_,Z,I.out,by rw[HM.out];exact b0.out⟩,a5.out⟩
 have g2:((z.length:Int)==1)=false:=by rw[beq_eq_false_iff_ne];omega
 have H:=J (KT y.out b2.out (by omega) (by rw[<-j.out];omega) a4)
 go_wp2_with fail
 refine H.out.mono ?_;rintro e w4 ⟨v4,rfl,⟨q4,r4,rfl,c,N⟩,a⟩;have k:=J c;have a9:=J N;have l:=J (aE B.out a q);clear c N a
 go_wp2
 go_ret3
 exact⟨_,Z,⟨_,_,Z,k.out,a9.out⟩,l.out⟩
def LK(w:World)(G M:Nat)(x y:Value)(wr:World):Prop:=∃a b:Nat,IsD wr x a/\IsD wr y b/\a<=M/\b<=M/\Nat.gcd a b=G/\Below w.heap.size w wr
theorem IsD.num{W:World}{v:Value}{n:Nat}(h:IsD W v n):oX v W=n:=by
 obtain⟨A,c,rfl,k⟩:=h;have e:=aO n;generalize ax n=l at*;cases A with
 |none=>
  have:l=[]:=Mr (k.nil Z).1;subst this;exact e
 |some a=>
  rw[<-e];show ay ((List.range l.length).map fun i=>match W.cell? ⟨a.block,a.off+i,none⟩with
   |some (.int _ d)=>d.toNat
   |_=>0)=ay l
  congr 1;apply OX
  ·simp
  intro j o g;obtain⟨b,off,f,_,m⟩:=k.digit g;injection f with f
  subst f;simp[m j g]
theorem KU{u v:Value}{X Y:Nat}{w:World}(hu:IsD w u X)(hv:IsD w v Y)(a3:(ax X).length<=1048576)(a1:(ax Y).length<=1048576):Calls Tryz.prog 209 #[u,v] w (gF (fun W r=>IsD W r (Nat.gcd X Y)) w):=by
 have HC:=J (B6 hu (by omega));have HV:=J hv;have A:Hid (∀n,n<=max X Y->(ax n).length<=1048576):=fun n hn=>by
  rcases Nat.le_total X Y with h|h
  ·exact Ma (a7 (by omega)) a1
  exact Ma (a7 (by omega)) a3
 obtain⟨A0,c0,rfl,_⟩:=hu;obtain⟨B0,e0,rfl,_⟩:=hv
 go_enter Tryz.func209,Tryz.ntmps209
 go_wp2_with fail
 refine HC.out.mono ?_;rintro e w1 ⟨v1,rfl,C,q⟩;have a2:=J C;have G:=J q;have B:=q.size;clear C q HC;have E:=J (B6 (HV.out.below G.out) (by omega))
 go_wp2_with fail
 refine E.out.mono ?_;rintro e w2 ⟨v2,rfl,I,l⟩;have S:=J I;have F:=J (a2.out.below l);have a5:=J (aE G.out l B);have a9:w.heap.size<=w2.heap.size:=Ma B l.size;clear I l E
 go_wp2
 go_loopw [5,6] (fun x y wr=>LK w (Nat.gcd X Y) (max X Y) x y wr) (fun _ y wr=>oX y wr)
 case atStart=>exact⟨X,Y,F.out,S.out,by omega,by omega,Z,a5.out⟩
 case round=>
  obtain⟨a,b,Q,O,ha,hb,hg,p⟩:=hrel;have P:=J Q;have L:=J O;have N:=J hg;have k:=J p;have o:=p.size;have H:=J O.num;obtain⟨Ax,cx,dx,rfl,R,V⟩:=Q.open_;obtain⟨Ay,cy,dy,rfl,a0,m⟩:=O.open_;clear Q O hg p R a0;by_cases h0:0<dy.length
  ·have j:0<b:=by
    rcases M1 b with h|h
    ·rw[m.out,h,gX]at h0;simp at h0
    exact h
   by_cases M:dx.length<=2/\dy.length<=2
   ·obtain⟨M,U⟩:=M;have e2:(4294967296^2:Nat)=18446744073709551616:=by decide
    have z:a<18446744073709551616:=by
     have:=b8 (ax a) (bZ a);rw[aO,<-V.out]at this;exact Mj this (by rw[<-e2];exact MR (by decide) M)
    have t:b<18446744073709551616:=by
     have:=b8 (ax b) (bZ b);rw[aO,<-m.out]at this;exact Mj this (by rw[<-e2];exact MR (by decide) U)
    have K:=J (Dj P.out L.out z t);rw[N.out]at K;clear e2
    go_wp2_with fail
    refine K.out.mono ?_;rintro e w4 ⟨v4,rfl,d,c⟩;have a4:=J d;have i:=J (aE k.out c o);clear d c
    go_wp2
    go_ret
    exact⟨_,Z,a4.out,i.out⟩
   have K:=J (Ce P.out L.out (A.out a ha) (A.out b hb) j);by_cases U:dx.length<=2
   ·have h3:¬dy.length<=2:=fun h=>M ⟨U,h⟩
    go_wp2_with fail
    refine K.out.mono ?_;rintro e w4 ⟨v4,rfl,⟨q4,r4,rfl,d,g⟩,c⟩;have f:=J g;have s:=J (L.out.below c);have i:=J (aE k.out c o);clear d g c
    go_wp2
    go_roundw
    case rel=>exact⟨b,a%b,s.out,f.out,hb,by have:=Nat.mod_le a b;omega,by rw[<-N.out,Ot b,<-P2,Ot],i.out⟩
    case measure=>rw[H.out,f.out.num];exact Ni _ j
   go_wp2_with fail
   refine K.out.mono ?_;rintro e w4 ⟨v4,rfl,⟨q4,r4,rfl,d,g⟩,c⟩;have f:=J g;have s:=J (L.out.below c);have i:=J (aE k.out c o);clear d g c
   go_wp2
   go_roundw
   case rel=>exact⟨b,a%b,s.out,f.out,hb,by have:=Nat.mod_le a b;omega,by rw[<-N.out,Ot b,<-P2,Ot],i.out⟩
   case measure=>rw[H.out,f.out.num];exact Ni _ j
  have j:b=0:=bR.1 (by rw[<-m.out];omega);have D:Nat.gcd X Y=a:=by rw[<-N.out,j,O9]
  have T:=J D;clear D
  go_wp2
  go_ret
  exact⟨_,Z,by rw[T.out];exact P.out,k.out⟩
end Go.Proofs.YtfoejfohbkmmeaaGreatDoor
