import Derived.Test.YtfoejfohbkmmeaaGreatDoorQ18
import Derived.Test.YtfoejfohbkmmeaaGreatDoorQ03
import Derived.Test.YtfoejfohbkmmeaaGreatDoorQ00
set_option maxRecDepth 100000
set_option maxHeartbeats 8000000
namespace Go.Proofs.YtfoejfohbkmmeaaGreatDoor
open Go.RowKit
open Lib renaming hid→J
theorem OwnN.win{w:World}{base g m d:Nat}{L:List Nat}(h:OwnN w base (.slice (some ⟨g,0,none⟩) m d) L)(p:Digs L)(j k c:Nat)(s:j+k<=L.length)(v:k<=c)(q:c<=9223372036854775807):IsN w (some ⟨g,j,none⟩) c ((L.drop j).take k):=by
 have f:((L.drop j).take k).length=k:=by rw[Mf,MS];omega
 refine⟨fun r=>⟨g,j,Z,?_,fun i u l=>?_⟩,fun e=>(by cases e),by omega,q,(p.drop j).take k⟩
 ·rw[cZ,f]at r;obtain⟨t,n,e,_,b,_⟩:=h.lies (by omega);injection e with a
  injection a with a
  injection a with a
  rw[a];exact b
 have o:=(L7.1 l).1;rw[cZ,f]at o;rw[h.cell (i:=j+i) (by omega),<-l];simp only[ce,MQ];rw[MZ,if_pos o,Nd,L4 (by omega)];rfl
theorem OwnN.keep{w w':World}{base g c n a:Nat}{L:List Nat}(h:OwnN w base (.slice (some ⟨g,0,none⟩) n a) L)(d:w.grownBy w' (some c))(b:g≠c):OwnN w' base (.slice (some ⟨g,0,none⟩) n a) L:=by
 unfold OwnN at h⊢;refine h.kept d (.inr ?_);show some g≠some c
 exact fun e=>b (by injection e)
theorem EV{Y n d s:Nat}(m:1<=n)(f:(ay Y).length=n)(c:∃h:n-1<(ay Y).length,(ay Y)[n-1]=d)(j:2147483648<=2^s*d)(k:2^s*(d+1)<=4294967296):2^s*Y<4294967296^n/\2147483648*4294967296^(n-1)<=2^s*Y:=by
 obtain⟨b,c⟩:=c;have e:=cQ (ay Y) (n-1) b;rw[show n-1+1=n by omega,Me (Ob f),aI,c]at e;have l:=b4 ((ay Y).take (n-1)) fun x i=>bY Y x (MC i)
 rw[Mf,f,Nl (by omega)]at l;have o:4294967296^n=4294967296^(n-1)*4294967296:=by rw[<-MM];congr 1;omega
 generalize 4294967296^(n-1)=P at*;generalize aB ((ay Y).take (n-1))=t at*;generalize 2^s=S at*;constructor
 ·have a:S*Y<S*(P*(d+1))\/S=0:=by
   rcases M1 S with h|h
   ·exact .inr h
   left;refine PK ?_ h;rw[MF];omega
  rcases a with a|a
  ·have g:S*(P*(d+1))<=P*4294967296:=by rw[NO];exact Nw _ k
   omega
  subst a;omega
 have a:P*2147483648<=P*(S*d):=Nw _ j;have g:S*(P*d)<=S*Y:=Nw _ (by omega);rw[NO]at g;omega
theorem Je{vs:List Nat}{n V:Nat}(i:1<=n)(c:vs.length=n)(g:Digs vs)(d:aB vs=V)(h:2147483648*4294967296^(n-1)<=V):∀h:n-1<vs.length,2147483648<=vs[n-1]:=fun b=>by
 have e:=cQ vs (n-1) b;rw[show n-1+1=n by omega,Me (Ob c),d]at e;have f:=b4 (vs.take (n-1)) (g.take _);rw[Mf,c,Nl (by omega)]at f;generalize 4294967296^(n-1)=P at*;generalize aB (vs.take (n-1))=t at*;generalize vs[n-1]=x at*;rcases MI x 2147483648 with a|a
 ·exfalso;have:P*(x+1)<=P*2147483648:=Nw _ a;rw[MF]at this;omega
 exact a
theorem EW{U vs:List Nat}{j n V la:Nat}(p:U.length=la+1)(m:Digs U)(d:vs.length=n)(f:Digs vs)(k:aB vs=V)(u:j+n<=la)(h:aB U<V*4294967296^(j+1)):
  aB U=aB (U.take j)+4294967296^j*aB ((U.drop j).take (n+1))/\aB (U.drop (j+(n+1)))=0/\aB ((U.drop j).take (n+1))<4294967296*V:=by
 have i:=mb U j (by omega);have a:=mb (U.drop j) (n+1) (by rw[MS];omega);rw[List.drop_drop]at a;have c:=b4 vs f;rw[d,k]at c;rw[MM]at h;have o:0<4294967296^j:=NN (by decide);have l:(4294967296:Nat)^(n+1)=4294967296^n*4294967296:=MM ..;generalize q:(4294967296:Nat)^j=P at*;generalize (4294967296:Nat)^n=R at*;rw[l]at a;generalize aB (U.take j)=t at*;generalize aB ((U.drop j).take (n+1))=x at*;generalize aB (U.drop (j+(n+1)))=y at*;generalize aB (U.drop j)=z at*;have r:z<4294967296*V:=by
  rcases MI z (4294967296*V)with b|b
  ·exact b
  exfalso;have s:P*(4294967296*V)<=P*z:=Nw _ b;have e:V*(P*4294967296)=P*(4294967296*V):=by rw[NO,Mt V]
  omega
 have g:y=0:=by
  refine P6 fun g=>?_
  have:R*4294967296*1<=R*4294967296*y:=Nw _ g;omega
 subst g;rw[Oy,No]at a;exact⟨by rw[i,a],Z,by omega⟩
def LdInv(w:World)(gv gu gq n la V Z:Nat)(vs:List Nat)(i:Value)(wr:World):Prop:=
 ∃(k:Nat) (U qs:List Nat),k<=la+1-n/\i=.int .i64 ((k:Int)-1)/\U.length=la+1/\Digs U/\OwnN wr w.heap.size (.slice (some ⟨gu,0,none⟩) (la+1) (la+1)) U/\qs.length=la+1-n-k/\Digs qs/\OwnN wr w.heap.size (.slice (some ⟨gq,0,none⟩) (la+1-n) (la+1-n)) (List.replicate k 0++qs)/\OwnN wr w.heap.size (.slice (some ⟨gv,0,none⟩) n n) vs/\Z=aB qs*4294967296^k*V+aB U/\aB U<V*4294967296^k/\Below w.heap.size w wr
theorem Hc{U a qs:List Nat}{j n V la Z g:Nat}(v:U.length=la+1)(w:j+n<=la)(u:a.length=n+1)(f:Digs U)(i:aB U=aB (U.take j)+4294967296^j*aB ((U.drop j).take (n+1)))(l:aB (U.drop (j+(n+1)))=0)(r:g=aB ((U.drop j).take (n+1))/V)(c:aB a=aB ((U.drop j).take (n+1))%V)(k:0<V)(b:Z=aB qs*4294967296^(j+1)*V+aB U):
  Z=aB (g::qs)*4294967296^j*V+aB (U.take j++(a++U.drop (j+(n+1))))/\aB (U.take j++(a++U.drop (j+(n+1))))<V*4294967296^j:=by
 have m:aB (U.take j++(a++U.drop (j+(n+1))))=aB (U.take j)+4294967296^j*aB a:=by
  rw[eg,eg,l,Oy,No,Mf,Nl (by omega)]
 have s:=b4 (U.take j) (f.take _);rw[Mf,Nl (by omega)]at s;have e:=Oe (aB ((U.drop j).take (n+1))) V;have d:=Ni (aB ((U.drop j).take (n+1))) k;rw[<-r,<-c]at e;rw[<-c]at d;rw[m,aB];rw[MM]at b;generalize (4294967296:Nat)^j=P at*;generalize aB (U.take j)=t at*;generalize aB ((U.drop j).take (n+1))=x at*;generalize aB a=o at*;generalize aB qs=q at*;constructor
 ·rw[b,i,<-e,MF P,M3,M3];have p:q*(P*4294967296)*V=4294967296*q*P*V:=by
   congr 1;rw[Mt P,<-Mu,Mt q]
  have h:P*(V*g)=g*P*V:=by rw[Mt V,<-Mu,Mt P]
  rw[p,h];omega
 have:P*(o+1)<=P*V:=Nw _ d;rw[MF]at this;rw[Mt V];omega
theorem sg{w wr m:World}{s h c n la V Z j g:Nat}{vs U a qs:List Nat}{z i:Int}(Q:c≠h/\c≠s/\s≠h/\w.heap.size<=h/\w.heap.size<=c)(L:j+1<=la+1-n)(t:U.length=la+1)(b:Digs U)(C:vs.length=n)(E:Digs vs)(R:aB vs=V)(H:0<V)(u:aB U<V*4294967296^(j+1))(r:qs.length=la+1-n-(j+1))(y:Digs qs)
  (B:OwnN wr w.heap.size (.slice (some ⟨c,0,none⟩) (la+1-n) (la+1-n)) (List.replicate (j+1) 0++qs)) (x:OwnN wr w.heap.size (.slice (some ⟨s,0,none⟩) n n) vs) (P:Z=aB qs*4294967296^(j+1)*V+aB U) (G:Below w.heap.size w wr) (f:wr.grownBy m (some h)) (A:OwnN m w.heap.size (.slice (some ⟨h,0,none⟩) (la+1) (la+1)) (U.take j++(a++U.drop (j+(n+1))))) (l:a.length=n+1) (v:Digs a) (I:g=aB ((U.drop j).take (n+1))/V) (T:aB a=aB ((U.drop j).take (n+1))%V) (O:z=(g:Int)) (hi:i=(j:Int)-1):
  LdInv w s h c n la V Z vs (.int .i64 i) (m.setCell ⟨c,j,none⟩ (.int .u32 z)):=by
 subst hi;obtain⟨J,M,q3,q4,W⟩:=Q;obtain⟨Y,S,N⟩:=EW t b C E R (j:=j) (by omega) u;have o:g<4294967296:=by rw[I,Nz H];exact N
 have q:=jw m c j (.int .u32 z);have D:Below w.heap.size w m:=G.grown f G.size fun k e=>by injection e with e;omega
 obtain⟨X,K⟩:=Hc t (by omega) l b Y S I T H P;refine⟨j,U.take j++(a++U.drop (j+(n+1))),g::qs,by omega,Zz,by rw[mJ (k:=n+1) (by omega) l,t],oC (b.take _) (oC v (b.drop _)),A.keep q (fun e=>J e.symm),by rw[Mb,r];omega,fun d F=>?_,?_,(x.keep f q3).keep q (fun e=>M e.symm),X,K,D.setCell (p:=⟨c,j,none⟩) W _⟩
 ·rcases Mi.1 F with rfl|F
  ·exact o
  exact y d F
 have:=(B.keep f J).put (i:=j) (by simp[r];omega) z g O;rw[pE]at this;exact this
theorem EX{X Y s V R Q:Nat}(g:V=2^s*Y)(a:2^s*X=Q*V+R)(i:R<V):X/Y=Q/\X%Y=R/2^s:=by
 have c:0<2^s:=NN (by decide);generalize 2^s=S at*;subst g;have j:0<Y:=NG fun e=>by subst e;omega
 obtain⟨r,rfl⟩:∃r,R=S*r:=by
  have f:S∣Q*(S*Y)+R:=⟨X,a.symm⟩;have h:S∣Q*(S*Y):=⟨Q*Y,NO ..⟩;exact(Nat.dvd_add_right h).1 f
 have b:r<Y:=Nat.lt_of_mul_lt_mul_left i;have d:X=Q*Y+r:=by
  refine Nat.eq_of_mul_eq_mul_left c ?_;rw[a,MF,NO]
 rw[Pe _ c,d];refine⟨?_,?_⟩
 ·rw[Mt,Nat.mul_add_div j,Oa b];omega
 rw[Mt,Nat.mul_add_mod,NZ b]
theorem EY{n:Nat}(h:(ay n).length-1<(ay n).length):(ay n)[(ay n).length-1]≠0:=fun e=>by
 have a:=cQ (ay n) _ h;rw[show(ay n).length-1+1=(ay n).length by omega,M9,aI,e,Oy,No]at a;have b:=b4 ((ay n).take ((ay n).length-1)) fun x c=>bY n x (MC c)
 rw[Mf,Nl (by omega),<-a]at b;have:=aR b;omega
theorem zI{d:Nat}(g:0<d)(h:d<4294967296):∃s:Nat,s<32/\(32-(Lib.bitLen d:Int))=(s:Int)/\2147483648<=2^s*d/\2^s*(d+1)<=4294967296:=by
 obtain⟨f,a,c⟩:=Lib.bitLenAux_bounds 64 d (by omega) (by omega);have i:Lib.bitLen d<=32:=Lib.bitLen_le d 32 (by decide) (by rw[show(2:Nat)^32=4294967296 by decide];exact h);change 1<=Lib.bitLen d at f;change 2^(Lib.bitLen d-1)<=d at a;change d<2^Lib.bitLen d at c;generalize Lib.bitLen d=b at*;refine⟨32-b,by omega,by omega,?_,?_⟩
 ·have e:2^(32-b)*2^(b-1)=2147483648:=by rw[<-N2,show 32-b+(b-1)=31 by omega]
  rw[<-e];exact Nw _ a
 have e:2^(32-b)*2^b=4294967296:=by rw[<-N2,show 32-b+b=32 by omega]
 rw[<-e];exact Nw _ c
theorem EZ{X V s n la:Nat}(h:s<32)(a:X<4294967296^la)(i:1<=n)(f:n<=la)(c:2147483648*4294967296^(n-1)<=V):2^s*X<V*4294967296^(la+1-n):=by
 have b:2^s<=2147483648:=by
  have d:(2:Nat)^s<=2^31:=MP (by decide) (by omega);have g:(2:Nat)^31=2147483648:=by decide
  omega
 have e:2147483648*4294967296^la=2147483648*4294967296^(n-1)*4294967296^(la+1-n):=by rw[Mu,<-N2];congr 2;omega
 have d:2^s*X<=2147483648*X:=MJ _ b;have g:2147483648*4294967296^(n-1)*4294967296^(la+1-n)<=V*4294967296^(la+1-n):=MJ _ c;have j:2147483648*X<2147483648*4294967296^la:=PK a (by decide);omega
def QR(q r:Nat)(W:World)(v:Value):Prop:=∃a b,v=.tuple #[a,b]/\IsD W a q/\IsD W b r
def Kl(gq:Nat)(gu:Nat)(la:Nat)(n:Nat)(m:Nat)(s:Nat)(a:Nat)(b:Nat):List (Value->World->Prop):=[
 fun r _=>r=.slice (some ⟨gq,0,none⟩) m m,
 fun r W=>IsD W r a,
 fun r _=>r=.slice (some ⟨gu,0,none⟩) (la+1) (la+1),
 fun r _=>r=.int .i64 (n:Int),
 fun r _=>r=.slice (some ⟨gu,0,none⟩) n (la+1),
 fun r _=>r=.int .u64 (s:Int),
 fun r W=>IsD W r b,
 fun r W=>IsD W r a,
 fun r W=>IsD W r b]
theorem CZ(f:Nat)(d:Nat)(la:Nat)(n:Nat)(m:Nat)(s:Nat)(a:Nat)(b:Nat)(e:World):Stab e (Kl f d la n m s a b):=
 .eq<|.cons (fun _ _ _ _ h c=>IsD.below h c)<|.eq<|.eq<|.eq<|.eq<|.cons (fun _ _ _ _ h c=>IsD.below h c)<|.cons (fun _ _ _ _ h c=>IsD.below h c)<|.cons (fun _ _ _ _ h c=>IsD.below h c)<|.nil
theorem Km{u v:Value}{X Y:Nat}{w:World}(hu:IsD w u X)(hv:IsD w v Y)(u0:(ay X).length<=1048576)(h2:2<=(ay Y).length)(w7:Y<=X):Calls Tryz.prog 245 #[u,v] w (Gives (QR (X/Y) (X%Y)) w):=by
 obtain⟨A,ca,f,rfl,q5,f2⟩:=hu.open_;obtain⟨B,cb,a,rfl,r6,P⟩:=hv.open_;have x2:a.length<=f.length:=by rw[f2.out,P.out];exact aS w7
 have B2:f.length<=1048576:=by rw[f2.out];exact u0
 have v6:2<=a.length:=by rw[P.out];exact h2
 have l0:=J q5;have h5:=J r6;have HX:Hid (aB f=X):=by rw[f2.out];exact aI X
 have HY:Hid (aB a=Y):=by rw[P.out];exact aI Y
 clear hu hv q5 r6;obtain⟨b2,o2,rfl,D1,t7⟩:=h5.out.digit (i:=a.length-1) (by omega);have cd:=t7 (a.length-1) (by omega);have d6:=h5.out.lt (i:=a.length-1) (by omega);have o3:0<a[a.length-1]'(by omega):=by
  refine NG fun e=>?_
  have f6:=P.out;subst f6;exact EY (by omega) e
 obtain⟨d,hd⟩:∃d,a[a.length-1]'(by omega)=d:=⟨_,rfl⟩;rw[hd]at cd d6 o3;obtain⟨s,L,t3,r0,m2⟩:=zI o3 d6;obtain⟨n1,n2⟩:=EV (Y:=Y) (n:=a.length) (d:=d) (s:=s) (by omega) (by rw[<-P.out]) (by
  have f6:=P.out;subst f6;exact⟨by omega,hd⟩) r0 m2
 have HL:=J (fun w=>Tryz.bits_LeadingZeros32 (d:Int) w (by omega) (by omega));simp only[Oq,t3]at HL;have f1:=J n1;have f9:=J n2;have g1:(0:Int)<=(a.length:Int)-1:=by omega
 have g2:((a.length:Int)-1).toNat=a.length-1:=by omega
 clear t7 hd r0 m2 n1 n2 t3
 go_enter Tryz.func245,Tryz.ntmps245
 go_wp2_with fail
 refine(HL.out _).mono ?_;rintro e w0 ⟨rfl,rfl⟩;have r2:=J (BN _ cb a s a.length w0 h5.out (by omega) L (.inl Z))
 go_wp2_with fail
 refine r2.out.mono ?_;rintro e x ⟨vs,c1,rfl,a0,m9,t8,_,c7,g0⟩;obtain rfl:c1=0:=by
  rcases M1 c1 with h|h
  ·exact h
  exfalso;have h8:=f1.out;rw[<-HY.out,<-c7]at h8;have:1*4294967296^a.length<=c1*4294967296^a.length:=MJ _ h;omega
 rw[O7,No,HY.out]at c7;have z2:w0.heap.size<x.heap.size:=by
  obtain⟨g',q0,e,_,c6,_⟩:=a0.lies (by omega);injection e with e1
  injection e1 with e1
  injection e1 with e1
  omega
 have v3:=J a0;have I:=J m9;have o:=J t8;have D:=J c7;have A1:=J g0;have f4:=J (BN A ca f s (f.length+1) x (l0.out.below g0) (by omega) L (.inr Z));rw[show((f.length+1:Nat):Int)=(f.length:Int)+1 by omega]at f4;clear a0 m9 t8 c7 g0 r2
 go_wp2_with fail
 refine f4.out.mono ?_;rintro e S ⟨us,c2,rfl,O,t1,a3,j3,R,b3⟩;obtain rfl:c2=0:=j3 rfl;rw[O7,No,HX.out]at R;have A6:x.heap.size<S.heap.size:=by
  obtain⟨g',q0,e,_,c6,_⟩:=O.lies (by omega);injection e with e1
  injection e1 with e1
  injection e1 with e1
  omega
 have i3:=J (v3.out.below b3);have A0:=J (O.base_le (b:=w0.heap.size) (by omega));have v7:=J t1;have u3:=J a3;have k3:=J R;have x1:=J (ak A1.out b3 (by omega));clear O t1 a3 R b3 j3 f4;obtain⟨W,d3,i0,c5,z1⟩:=eF S (f.length+1-a.length) (by omega);have d3:=d3 .i64 .i64;have x0:=J (i0.base_le (b:=w0.heap.size) (by omega));have r1:=J (i3.out.below c5);have s3:=J (A0.out.below c5);have u2:=J (ak x1.out c5 (by omega));have A3:S.heap.size<W.heap.size:=by omega
 clear i0 c5 z1;rw[show((f.length+1-a.length:Nat):Int)=(f.length:Int)-(a.length:Int)+1 by omega]at d3;have v0:=J (EZ (X:=X) (V:=2^s*Y) (n:=a.length) (la:=f.length) L (by have:=b4 f l0.out.ok;rwa[HX.out]at this) (by omega) x2 f9.out)
 go_wp2
 clear d3
 go_loopw [10] (fun i wr=>LdInv w0 w0.heap.size x.heap.size S.heap.size a.length f.length (2^s*Y) (2^s*X) vs i wr) (fun i _=>(intOf i+1).toNat)
 case atStart=>exact⟨f.length+1-a.length,us,[],L5 _,EK (by omega),u3.out,v7.out,s3.out,by simp,fun d hd=>(by cases hd),by rw[MA];exact x0.out,r1.out,by rw[k3.out];simp[aB],by rw[k3.out];exact v0.out,u2.out⟩
 case round=>
  obtain⟨k,U,qs,hk,rfl,m3,l5,s4,m1,k5,Q,a0,hZ,c6,k0⟩:=hrel;have c:=J m3;have m:=J l5;have b1:=J s4;have p:=J m1;have a2:=J k5;have d5:=J Q;have d7:=J a0;have g4:=J hZ;have K:=J c6;have c9:=J k0;clear m3 l5 s4 m1 k5 Q a0 hZ c6 k0;cases k with
  |zero=>
   have hZ:=g4.out;rw[Py,Oh]at hZ;have hR:=K.out;rw[Py,Oh]at hR;obtain⟨q1,q2⟩:=EX (X:=X) (Y:=Y) (s:=s) rfl hZ hR;have Q:=d5.out;rw[NI,M6]at Q;obtain⟨i1,i2⟩:=Q.isN a2.out;have v5:=J (fun(W':World) (hw:Below wr.heap.size wr W')=>oD (N:=X/Y) (i1.below hw) i2 (by rw[p.out];omega) q1.symm);have a3:(U.take a.length).length=a.length:=by rw[Mf,c.out];omega
   have R:aB (U.take a.length)=aB U:=by
    have h1:=mb U a.length (by rw[c.out];omega);have h2:aB (U.drop a.length)=0:=by
     have h3:=f1.out;have h4:aB U<4294967296^a.length:=by omega
     refine P6 fun hp=>?_
     have:4294967296^a.length*1<=4294967296^a.length*aB (U.drop a.length):=Nw _ hp;omega
    rw[h2,Oy,No]at h1;exact h1.symm
   have a5:=b1.out.win m.out 0 a.length (f.length+1) (by rw[c.out];omega) (by omega) (by omega);rw[Nx]at a5;have w9:=J (fun(W':World) (hw:Below wr.heap.size wr W')=>by
    have h1:=G9 (some ⟨x.heap.size,0,none⟩) (f.length+1) (U.take a.length) s W' (a5.below hw) (by omega) L;rw[a3,R,<-q2]at h1;exact h1)
   have B7:(0:Int)<=(a.length:Int):=by omega
   have A7:(a.length:Int)<=(f.length:Int)+1:=by omega
   clear hZ hR q1 q2 Q i1 i2 a3 R a5
   go_wp2
   refine ft [some 80,some 81,some 82,some 83,some 84,some 85,some 86,some 4,some 5] (Kl S.heap.size x.heap.size f.length a.length ((f.length+1-a.length)) s ((X/Y)) ((X%Y))) (by kernel_rfl) (by kernel_rfl) (by rfl) (by rfl) (CZ S.heap.size x.heap.size f.length a.length ((f.length+1-a.length)) s ((X/Y)) ((X%Y)) _) ?_ ?_
   ·refine Steps.cons trivial (fun T W l=>?_) ?_
    ·have e4:T 4=.slice (some ⟨S.heap.size,0,none⟩) ((f.length+1-a.length)) ((f.length+1-a.length)):=l.old 1 7 4 (by kernel_rfl);have t:=l.wi;clear l;refine aq (v:=.slice (some ⟨S.heap.size,0,none⟩) ((f.length+1-a.length)) ((f.length+1-a.length))) (W':=W) ?_ ⟨Z,Below.refl _ _⟩;simp only[execOp,cA,e4];go_simp
    refine Steps.cons trivial (fun T W l=>?_) ?_
    ·have v4:T 80=.slice (some ⟨S.heap.size,0,none⟩) ((f.length+1-a.length)) ((f.length+1-a.length)):=l.fact 1 0 80 (by kernel_rfl);have t:=l.wi;clear l;refine bJ ?_ (((v5.out W t)).mono fun e W' h=>h);simp only[execOp,resolve,invoke,Nf,MX,ND,cA,v4];go_simp
    refine Steps.cons trivial (fun T W l=>?_) ?_
    ·have e9:T 9=.slice (some ⟨x.heap.size,0,none⟩) (f.length+1) (f.length+1):=l.keep 9 (by rfl);have t:=l.wi;clear l;refine aq (v:=.slice (some ⟨x.heap.size,0,none⟩) (f.length+1) (f.length+1)) (W':=W) ?_ ⟨Z,Below.refl _ _⟩;simp only[execOp,cA,e9];go_simp
    refine Steps.cons trivial (fun T W l=>?_) ?_
    ·have e6:T 6=.int .i64 (a.length:Int):=l.keep 6 (by rfl);have t:=l.wi;clear l;refine aq (v:=.int .i64 (a.length:Int)) (W':=W) ?_ ⟨Z,Below.refl _ _⟩;simp only[execOp,cA,e6];go_simp
    refine Steps.cons trivial (fun T W l=>?_) ?_
    ·have v2:T 82=.slice (some ⟨x.heap.size,0,none⟩) (f.length+1) (f.length+1):=l.fact 1 2 82 (by kernel_rfl);have z5:T 83=.int .i64 (a.length:Int):=l.fact 1 3 83 (by kernel_rfl);have t:=l.wi;clear l;refine aq (v:=.slice (some ⟨x.heap.size,0,none⟩) a.length (f.length+1)) (W':=W) ?_ ⟨Z,Below.refl _ _⟩;simp only[execOp,cA,v2];go_simp;simp only[cA,z5];go_simp
    refine Steps.cons trivial (fun T W l=>?_) ?_
    ·have e7:T 7=.int .u64 (s:Int):=l.keep 7 (by rfl);have t:=l.wi;clear l;refine aq (v:=.int .u64 (s:Int)) (W':=W) ?_ ⟨Z,Below.refl _ _⟩;simp only[execOp,cA,e7];go_simp
    refine Steps.cons trivial (fun T W l=>?_) ?_
    ·have y9:T 84=.slice (some ⟨x.heap.size,0,none⟩) a.length (f.length+1):=l.fact 1 4 84 (by kernel_rfl);have w6:T 85=.int .u64 (s:Int):=l.fact 1 5 85 (by kernel_rfl);have t:=l.wi;clear l;refine bJ ?_ (((w9.out W t)).mono fun e W' h=>h);simp only[execOp,resolve,invoke,Nf,MX,ND,cA,y9,w6];go_simp
    refine Steps.cons trivial (fun T W l=>?_) ?_
    ·have t0:(fun r W=>IsD W r ((X/Y))) (T 81) W:=l.fact 1 1 81 (by kernel_rfl);simp only at t0;have t:=l.wi;clear l;exact aq (v:=T 81) (W':=W) (by simp only[execOp,cA];go_simp) ⟨t0,Below.refl _ _⟩
    refine Steps.cons trivial (fun T W l=>?_) ?_
    ·have t9:(fun r W=>IsD W r ((X%Y))) (T 86) W:=l.fact 1 6 86 (by kernel_rfl);simp only at t9;have t:=l.wi;clear l;exact aq (v:=T 86) (W':=W) (by simp only[execOp,cA];go_simp) ⟨t9,Below.refl _ _⟩
    exact Steps.nil
   intro us W1 d9 hF hb;obtain⟨y0,B6,rfl,r5⟩:=aY d9;clear d9;obtain⟨y1,A9,rfl,t2⟩:=aY r5;clear r5;obtain⟨y2,A4,rfl,p7⟩:=aY t2;clear t2;obtain⟨y3,B3,rfl,q6⟩:=aY p7;clear p7;obtain⟨y4,B1,rfl,q8⟩:=aY q6;clear q6;obtain⟨y5,B5,rfl,t4⟩:=aY q8;clear q8;obtain⟨y6,B9,rfl,s6⟩:=aY t4;clear t4;obtain⟨y7,C2,rfl,p4⟩:=aY s6;clear s6;obtain⟨y8,B0,rfl,h6⟩:=aY p4;clear p4;obtain rfl:=kS h6;clear h6;have f7:(fun r W=>IsD W r ((X/Y))) y7 W1:=hF 7 (by decide);have f8:(fun r W=>IsD W r ((X%Y))) y8 W1:=hF 8 (by decide);clear hF;simp only[b8,Mn,MD,Mj,Mv,Ms];have F7:IsD W1 y7 (X/Y):=f7;have F8:IsD W1 y8 (X%Y):=f8;have v1:=J F7;have z3:=J F8;have u8:=J (ak c9.out hb c9.out.size);clear f7 f8 F7 F8 hb
   go_wp2
   go_ret2
   exact⟨_,Z,⟨_,_,Z,v1.out,z3.out⟩,u8.out⟩
  |succ j=>
   rw[show((j+1:Nat):Int)-1=(j:Int) by omega];obtain⟨v9,z9,s2⟩:=EW c.out m.out o.out I.out D.out (j:=j) (by omega) K.out;have f3:((U.drop j).take (a.length+1)).length=a.length+1:=by rw[Mf,MS,c.out];omega
   have hG:Guess ((U.drop j).take (a.length+1)) vs a.length:=⟨v6,f3,o.out,(m.out.drop j).take _,I.out,Je (by omega) o.out I.out D.out f9.out,by rw[D.out];exact s2⟩;have f0:=CY (some ⟨x.heap.size,j,none⟩) (some ⟨w0.heap.size,0,none⟩) (f.length+1-j) a.length ((U.drop j).take (a.length+1)) vs a.length wr (b1.out.win m.out j (a.length+1) _ (by rw[c.out];omega) (by omega) (by omega)) (by have:=d7.out.win I.out 0 a.length a.length (by rw[o.out];omega) (by omega) (by omega);rw[Nx,Me (Ob o.out)]at this;exact this) hG (by omega);rw[f3,o.out,D.out]at f0;have k4:=J f0;clear f0 hG f3 v9 z9 s2;have p1:(0:Int)<=(j:Int):=by omega
   have p2:(j:Int)<=(j:Int)+(a.length:Int)+1:=by omega
   have p3:(j:Int)+(a.length:Int)+1<=(f.length:Int)+1:=by omega
   go_wp2_with fail
   rw[show j+a.length+1-j=a.length+1 by omega];refine k4.out.mono ?_;rintro e w3 ⟨g,rfl,t5,s5,u1,gb⟩;have d0:=J (And.intro t5 s5);have q9:=J (show OwnN w3 w0.heap.size (.slice (some ⟨x.heap.size,0,none⟩) U.length (f.length+1)) U by rw[c.out];exact b1.out.below gb);have M:=J (d5.out.below gb);have b5:=J (d7.out.below gb);have p0:=J (ak c9.out gb c9.out.size);have d2:0<2^s*Y:=Mp (Oi (by decide) (NN (by decide))) f9.out;have i4:=J (show IsN w3 (some ⟨w0.heap.size,0,none⟩) a.length vs by have:=b5.out.win I.out 0 a.length a.length (by rw[o.out];omega) (by omega) (by omega);rw[Nx,Me (Ob o.out)]at this;exact this);have g3:=ET x.heap.size (f.length+1) w0.heap.size j a.length g (f.length+1-j) a.length (some ⟨w0.heap.size,0,none⟩) U vs w3 q9.out m.out i4.out (fun b off e=>by injection e with e;injection e with e;omega) o.out (by rw[c.out];omega) (by omega) u1 (by omega) (by rw[c.out];omega);rw[o.out]at g3;have q4:=J g3;have q7:S.heap.size≠x.heap.size/\S.heap.size≠w0.heap.size/\w0.heap.size≠x.heap.size/\w0.heap.size<=x.heap.size/\w0.heap.size<=S.heap.size:=⟨by omega,by omega,by omega,by omega,by omega⟩;have h7:S.heap.size≠x.heap.size:=by omega
   clear t5 s5 gb k4 g3
   go_wp2_with fail
   rw[show j+a.length+1-j=a.length+1 by omega];refine q4.out.mono ?_;rintro e w4 ⟨bb,y,rfl,o1,r7,O,H,q3⟩;rw[D.out]at H;have E:=J o1;have d1:=J r7;have c4:=J q3;have a4:=J O;rw[c.out]at a4;clear o1 r7 O q3 q4;cases bb with
   |false=>
    rw[if_neg MR,No]at H;obtain⟨k1,k2⟩:=CT d2 d0.out.1 d0.out.2 H;have K1:=J k1;have K2:=J k2;clear H k1 k2;have G:=M.out.keep c4.out h7;have z4:=G.free j;have g9:=G.cell (i:=j) (by have:=p.out;simp;omega);obtain⟨old,C⟩:∃old,(List.replicate (j+1) 0++qs)[j]'(by have:=p.out;simp;omega)=old:=⟨_,rfl⟩;rw[C]at g9;have f5:=J (fun z i hz hi=>sg (z:=z) (i:=i) (g:=g) q7 hk c.out m.out o.out I.out D.out d2 K.out p.out a2.out M.out b5.out g4.out p0.out c4.out a4.out E.out d1.out K1.out K2.out hz hi);clear G C
    go_wp2
    go_roundw
    case rel=>exact f5.out _ _ (by first|rfl|omega) (by omega)
    case measure=>simp[intOf]
   |true=>
    rw[if_pos Z]at H;have b0:(U.take j++(y++U.drop (j+(a.length+1)))).length=f.length+1:=by rw[mJ (k:=a.length+1) (by rw[c.out];omega) E.out,c.out]
    have F:(U.take j).length=j:=by rw[Mf,c.out];omega
    have s1:Digs (U.take j++(y++U.drop (j+(a.length+1)))):=oC (m.out.take _) (oC d1.out (m.out.drop _));have h0:=EU x.heap.size (f.length+1) w0.heap.size j a.length (f.length+1-j) a.length (some ⟨w0.heap.size,0,none⟩) (U.take j++(y++U.drop (j+(a.length+1)))) vs w4 (by rw[b0];exact a4.out) s1 (i4.out.grown c4.out fun b off e=>by injection e with e;injection e with e;omega) (fun b off e=>by injection e with e;injection e with e;omega) o.out (by rw[b0];omega) (by omega) (by omega) (by rw[b0];omega);rw[o.out]at h0;have r3:=J h0;have r4:=J H;have z0:=J b0;have z2:1<=g:=by
     refine NG fun e=>?_
     have h8:=r4.out;rw[e,O7,No]at h8;have h9:=b4 y d1.out;rw[E.out]at h9;omega
    have A5:IntKind.u64.wrap ((g:Int)-1)=((g-1:Nat):Int):=by rw[IntKind.wrap_u64];omega
    have A2:g-1<4294967296:=by omega
    clear H b0 s1 h0 F
    go_wp2_with fail
    rw[show j+a.length+1-j=a.length+1 by omega];refine r3.out.mono ?_;rintro e w5 ⟨i5,q,rfl,c0,a1,a9,c3,d4⟩;have F:(U.take j).length=j:=by rw[Mf,c.out];omega
    have e1:((U.take j++(y++U.drop (j+(a.length+1)))).drop j).take (a.length+1)=y:=by
     rw[PU,Mg (by omega),F,M4,Nx,M6,OX,E.out,M4,Ou,MA,Me (by rw[E.out];omega)]
    have e2:(U.take j++(y++U.drop (j+(a.length+1)))).take j=U.take j:=by
     rw[OX,F,M4,Ou,MA,Me (by omega)]
    have e3:(U.take j++(y++U.drop (j+(a.length+1)))).drop (j+(a.length+1))=U.drop (j+(a.length+1)):=by
     rw[<-MG,PU,Mg (by rw[Mc,F,E.out];omega),Mc,F,E.out,M4,Nx,M6]
    rw[e1,D.out]at c3;rw[e2,e3,z0.out]at a9;have m4:2^s*Y<=4294967296^(a.length+1):=by
     have:=f1.out;rw[MM];omega
    have l1:=b4 y d1.out;rw[E.out]at l1;have l2:=b4 i5 a1;rw[c0]at l2;obtain⟨k1,k2⟩:=CU d2 m4 d0.out.1 d0.out.2 l1 r4.out l2 c3;have K1:=J (show g-1=aB ((U.drop j).take (a.length+1))/(2^s*Y) by omega);have K2:=J k2;have n0:=J c0;have i9:=J a1;have e0:=J (c4.out.trans d4);have e5:=J a9;clear F e1 e2 e3 c3 a9 m4 l1 l2 k1 k2 c0 a1 d4 r3;have G:=M.out.keep e0.out h7;have z4:=G.free j;have g9:=G.cell (i:=j) (by have:=p.out;simp;omega);obtain⟨old,C⟩:∃old,(List.replicate (j+1) 0++qs)[j]'(by have:=p.out;simp;omega)=old:=⟨_,rfl⟩;rw[C]at g9;have f5:=J (fun z i hz hi=>sg (z:=z) (i:=i) (g:=g-1) q7 hk c.out m.out o.out I.out D.out d2 K.out p.out a2.out M.out b5.out g4.out p0.out e0.out e5.out n0.out i9.out K1.out K2.out hz hi);clear G C
    go_wp2
    go_roundw
    case rel=>exact f5.out _ _ (by first|rfl|omega) (by omega)
    case measure=>simp[intOf]
def DdInv(W0:World)(ds:List Nat)(d:Nat)(r i:Value)(wr:World):Prop:=
 ∃(k rs:Nat) (qs:List Nat),k<=ds.length/\i=.int .i64 ((k:Int)-1)/\r=.int .u64 rs/\rs<d/\qs.length=ds.length-k/\Digs qs/\OwnN wr W0.heap.size (.slice (some ⟨W0.heap.size,0,none⟩) ds.length ds.length) (List.replicate k 0++qs)/\aB (ds.drop k)=d*aB qs+rs/\Below W0.heap.size W0 wr/\W0.heap.size<wr.heap.size
theorem Hd{a qs:List Nat}{k d rs x:Nat}(f:k<a.length)(b:a[k]=x)(c:aB (a.drop (k+1))=d*aB qs+rs):
  aB (a.drop k)=d*aB ((rs*4294967296+x)/d::qs)+(rs*4294967296+x)%d:=by
 rw[xh a k f,b,c,aB];have h:=Oe (rs*4294967296+x) d;have e:d*((rs*4294967296+x)/d+4294967296*aB qs)=d*((rs*4294967296+x)/d)+4294967296*(d*aB qs):=by rw[MF,NO d]
 rw[e];omega
theorem E1(n:Nat)(h:n<4294967296):IntKind.u64.wrap (n:Int)%4294967296=n:=by rw[IntKind.wrap_u64];omega
theorem Iq{rs d x:Nat}(h:rs<d)(a:x<4294967296):(rs*4294967296+x)/d<4294967296:=by
 rw[Nz (by omega)];have:(rs+1)*4294967296<=d*4294967296:=MJ _ h;rw[Mt 4294967296 d];omega
theorem zJ{a wr:World}{b qs:List Nat}{d k rs x:Nat}{z q i:Int}(w:k<b.length)(j:b[k]=x)(c:x<4294967296)(m:rs<d)(g:qs.length=b.length-(k+1))(l:Digs qs)(r:OwnN wr a.heap.size (.slice (some ⟨a.heap.size,0,none⟩) b.length b.length) (List.replicate (k+1) 0++qs))(s:aB (b.drop (k+1))=d*aB qs+rs)(n:Below a.heap.size a wr)(t:a.heap.size<wr.heap.size)
  (v:z=(((rs*4294967296+x)/d:Nat):Int)) (f:q=(((rs*4294967296+x)%d:Nat):Int)) (u:i=(k:Int)-1):DdInv a b d (.int .u64 q) (.int .i64 i) (wr.setCell ⟨a.heap.size,k,none⟩ (.int .u32 z)):=by
 subst f u;refine⟨k,_,(rs*4294967296+x)/d::qs,by omega,Z,Z,Ni _ (by omega),by simp[g];omega,fun e o=>?_,?_,Hd w j s,n.setCell (p:=⟨a.heap.size,k,none⟩) (L5 _) _,by simpa[World.setCell]using t⟩
 ·rcases Mi.1 o with rfl|h
  ·exact Iq m c
  exact l e h
 have:=r.put (i:=k) (by simp[g];omega) z _ v;rw[pE]at this;exact this
def QD(n d:Nat)(W:World)(v:Value):Prop:=∃a,v=.tuple #[a,.int .u32 ((n%d:Nat):Int)]/\IsD W a (n/d)
theorem vT(A:Option Addr)(c:Nat)(g:List Nat)(d:Nat)(w:World)(h:IsN w A c g)(hl:g.length<=1048576)(L:0<d)(a1:d<4294967296):
  Calls Tryz.prog 173 #[.slice A g.length c,.int .u32 d] w (Gives (QD (aB g) d) w):=by
 have HI:=J h;clear h;have a2:((d:Int)==0)=false:=by rw[beq_eq_false_iff_ne];omega
 obtain⟨W,q,y,B,a0⟩:=eF w g.length (by omega);have q:=q .i64 .i64;have P:=J y;have Q:=J B;have I:w.heap.size<W.heap.size:=by omega
 clear y B a0
 go_enter Tryz.func173,Tryz.ntmps173
 go_wp2
 clear q
 go_loopw [7,8] (fun r i wr=>DdInv w g d r i wr) (fun _ i _=>(intOf i+1).toNat)
 case atStart=>exact⟨g.length,0,[],L5 _,Z,Z,L,by simp,fun d L=>by simp at L,by simpa using P.out,by simp[aB],Q.out,I⟩
 case round=>
  obtain⟨k,rs,qs,hk,rfl,rfl,M,F,E,j,C,v,S⟩:=hrel;have l:=J j;have HQ:=J C;have a:=J v;have K:=J F;have s:=J E;clear j C v F E;cases k with
  |zero=>
   have j:OwnN wr w.heap.size (.slice (some ⟨w.heap.size,0,none⟩) g.length g.length) qs:=by have:=l.out;rwa[NI,M6]at this
   obtain⟨h4,h5⟩:=j.isN s.out;have Y:=HQ.out;rw[Nx]at Y;have X:aB qs=aB g/d/\aB g%d=rs:=by
    rw[Y];exact⟨by rw[Nat.mul_add_div L,Oa M];omega,by rw[Nat.mul_add_mod,NZ M]⟩
   have HT:=J (oD h4 h5 (by have:=K.out;omega) X.1);have HR:=J X.2;clear j h4 h5 Y X;have n:rs<4294967296:=by omega
   go_wp2_with fail
   refine HT.out.mono ?_;rintro e w5 ⟨v5,rfl,D,u⟩;have T:=J D;have U:=J (ak a.out u a.out.size);clear D u
   go_wp2
   go_ret2
   exact⟨_,Z,⟨_,by rw[HR.out];rfl,T.out⟩,U.out⟩
  |succ k=>
   rw[show((k+1:Nat):Int)-1=(k:Int) by omega];have m:k<g.length:=by omega
   obtain⟨b,off,rfl,hb,hc⟩:=(HI.out.below a.out).digit m;have cx:=hc k m;have f:=HI.out.lt m;obtain⟨x,N⟩:∃x,g[k]=x:=⟨_,rfl⟩;rw[N]at cx f;have HX:=J N;have a3:=l.out.free k;have R:=l.out.cell (i:=k) (by simp;omega);obtain⟨old,o⟩:∃old,(List.replicate (k+1) 0++qs)[k]'(by simp;omega)=old:=⟨_,rfl⟩;rw[o]at R;have z:=BH rs x (by omega) f;rw[show(((rs*4294967296:Nat)):Int)=(rs:Int)*4294967296 by omega]at z;have G:rs*4294967296+x<18446744073709551616:=by omega
   have p:=Iq M f;have n:(rs*4294967296+x)%d<d:=Ni _ L;obtain⟨t,O⟩:∃t,rs*4294967296+x=t:=⟨_,rfl⟩;rw[O]at z G p n;have H:=J O;have e2:((t:Int)%(d:Int))=((t%d:Nat):Int):=by omega
   have V:=J e2;clear hc N o O e2
   go_wp2
   go_roundw
   case rel=>exact zJ m HX.out f M K.out s.out l.out HQ.out a.out S (by rw[H.out];exact E1 _ p) (by rw[H.out];first|exact V.out|omega) (by omega)
   case measure=>simp[intOf]
theorem uk{v:Value}{n d:Nat}{w:World}(h:IsD w v n)(e:(ay n).length<=1048576)(f:0<d)(a:d<4294967296):Calls Tryz.prog 173 #[v,.int .u32 d] w (Gives (QD n d) w):=by
 obtain⟨A,c,rfl,b⟩:=h;have:=vT A c (ay n) d w b e f a;rwa[aI]at this
def LX(X Y:Nat)(W:World)(r:Value):Prop:=∃a b,r=.tuple #[a,b,.bool true]/\IsD W a (X/Y)/\IsD W b (X%Y)
theorem IsD.zero(W:World):IsD W (.slice none 0 0) 0:=⟨none,0,Z,At.nil _ _ _,fun _=>⟨Z,Z⟩,L5 _,by omega,fun _ h=>by cases h⟩
theorem xx{n:Nat}(h:(ay n).length=1):0<n/\n<4294967296/\ay n=[n]:=by
 have c:n≠0:=fun e=>by rw[e,gB]at h;simp at h
 have b:=fb c;have a:ay (n/4294967296)=[]:=Mk (by rw[b]at h;simpa using h);have d:=xb.1 a;exact⟨by omega,by omega,by rw[b,a,NZ (by omega)]⟩
theorem vU{u v:Value}{X Y:Nat}{w:World}(hu:IsD w u X)(hv:IsD w v Y)(b5:(ay X).length<=1048576)(c3:(ay Y).length<=1048576)(hY:0<Y):Calls Tryz.prog 210 #[u,v] w (Gives (LX X Y) w):=by
 have HC:=J (jT hu (by omega));have HV:=J hv;obtain⟨A0,c0,rfl,_⟩:=hu;obtain⟨B0,e0,rfl,_⟩:=hv
 go_enter Tryz.func210,Tryz.ntmps210
 go_wp2_with fail
 refine HC.out.mono ?_;rintro e w1 ⟨v1,rfl,O,B⟩;obtain⟨A1,c1,dx,rfl,K,o⟩:=O.open_;have M:=J K;have a0:=J B;have N:=J o.out;have P:=B.size;clear O K B o HC;have H:=J (jT (HV.out.below a0.out) (by omega))
 go_wp2_with fail
 refine H.out.mono ?_;rintro e w2 ⟨v2,rfl,S,q⟩;obtain⟨A2,c2,C,rfl,R,o⟩:=S.open_;have r:=J R;have y:=J (M.out.below q);have a5:=J (ak a0.out q P);have j:=J o.out;have F:w.heap.size<=w2.heap.size:=L6 P q.size;clear S R q o H M;have b3:0<C.length:=by
  rcases M1 C.length with h|h
  ·rw[j.out]at h;have:=bR.1 h;omega
  exact h
 have g1:((C.length:Int)==0)=false:=by rw[beq_eq_false_iff_ne];omega
 have c:(eu (X:Int) (Y:Int)<0)↔X<Y:=by
  rcases OE X Y with h|h|h
  ·rw[iX h];omega
  ·rw[iz h];omega
  rw[iy h];omega
 have D:=J (BJ (y.out.isD N.out) (r.out.isD j.out) (by omega) (by omega));obtain⟨cm,U⟩:∃cm,eu (X:Int) (Y:Int)=cm:=⟨_,rfl⟩;rw[U]at D c;clear U
 go_wp2_with fail
 refine D.out.mono ?_;rintro e w3 ⟨v3,rfl,a2,g⟩;obtain rfl:=a2;have A:=J ((y.out.isD N.out).below g);have a9:=J ((r.out.isD j.out).below g);have G:=J (r.out.below g);have z:=J (ak a5.out g F);have p:w.heap.size<=w3.heap.size:=L6 F g.size;clear g D y r;by_cases f:X<Y
 ·have a3:cm<0:=c.2 f;clear c;have HN:=J (uf A.out (by omega))
  go_wp2_with fail
  refine HN.out.mono ?_;rintro e w4 ⟨v4,rfl,d,a⟩;have l:=J d;have k:=J (ak z.out a p);clear d a
  go_wp2
  go_ret3
  exact⟨_,Z,⟨_,_,Z,by rw[Oa f];exact IsD.zero _,by rw[NZ f];exact l.out⟩,k.out⟩
 have a3:¬cm<0:=fun h=>f (c.1 h)
 have a4:Y<=X:=by omega
 clear c;by_cases h1:C.length=1
 ·have g2:((C.length:Int)==1)=true:=by rw[beq_iff_eq];omega
  obtain⟨V,s,L⟩:=xx (n:=Y) (by rw[<-j.out];exact h1);have t:C=[Y]:=by rw[j.out,L]
  obtain⟨b,off,rfl,hb,hc⟩:=G.out.digit (i:=0) (by omega);have c0:=hc 0 (by omega);simp only[t,Ow,No]at c0;clear hc L t;have I:=J (uk A.out (by omega) V s);have Q:X%Y<4294967296:=Nat.lt_trans (Ni _ V) s;obtain⟨m,hm⟩:∃m,X%Y=m:=⟨_,rfl⟩;have HM:=J hm;rw[hm]at Q;unfold QD at I;rw[hm]at I;clear hm
  go_wp2_with fail
  refine I.out.mono ?_;rintro e w4 ⟨v4,rfl,⟨q4,rfl,d⟩,a⟩;have l:=J d;have k:=J (ak z.out a p);have b1:w.heap.size<=w4.heap.size:=L6 p a.size;clear d a;have HF:=J (ji m w4 (by omega))
  go_wp2_with fail
  refine HF.out.mono ?_;rintro e w5 ⟨v5,rfl,W,x⟩;have a1:=J W;have E:=J (l.out.below x);have b2:=J (ak k.out x b1);clear W x
  go_wp2
  go_ret3
  exact⟨_,Z,⟨_,_,Z,E.out,by rw[HM.out];exact a1.out⟩,b2.out⟩
 have g2:((C.length:Int)==1)=false:=by rw[beq_eq_false_iff_ne];omega
 have I:=J (Km A.out a9.out (by omega) (by rw[<-j.out];omega) a4)
 go_wp2_with fail
 refine I.out.mono ?_;rintro e w4 ⟨v4,rfl,⟨q4,r4,rfl,d,T⟩,a⟩;have l:=J d;have b0:=J T;have k:=J (ak z.out a p);clear d T a
 go_wp2
 go_ret3
 exact⟨_,Z,⟨_,_,Z,l.out,b0.out⟩,k.out⟩
def Lz(w:World)(G M:Nat)(x y:Value)(wr:World):Prop:=∃a b:Nat,IsD wr x a/\IsD wr y b/\a<=M/\b<=M/\Nat.gcd a b=G/\Below w.heap.size w wr
theorem IsD.num{W:World}{v:Value}{n:Nat}(h:IsD W v n):ov v W=n:=by
 obtain⟨A,c,rfl,k⟩:=h;have e:=aI n;generalize ay n=l at*;cases A with
 |none=>
  have:l=[]:=Mk (k.nil Z).1;subst this;exact e
 |some a=>
  rw[<-e];show aB ((List.range l.length).map fun i=>match W.cell? ⟨a.block,a.off+i,none⟩with
   |some (.int _ d)=>d.toNat
   |_=>0)=aB l
  congr 1;apply OY
  ·simp
  intro j o g;obtain⟨b,off,f,_,m⟩:=k.digit g;injection f with f
  subst f;simp[m j g]
theorem Ko{u v:Value}{X Y:Nat}{w:World}(hu:IsD w u X)(hv:IsD w v Y)(R:(ay X).length<=1048576)(S:(ay Y).length<=1048576):Calls Tryz.prog 209 #[u,v] w (Gives (fun W r=>IsD W r (Nat.gcd X Y)) w):=by
 have HC:=J (uf hu (by omega));have HV:=J hv;have H:Hid (∀n,n<=max X Y->(ay n).length<=1048576):=fun n hn=>by
  rcases Qt X Y with h|h
  ·exact L6 (aS (by omega)) S
  exact L6 (aS (by omega)) R
 obtain⟨A0,c0,rfl,_⟩:=hu;obtain⟨B0,e0,rfl,_⟩:=hv
 go_enter Tryz.func209,Tryz.ntmps209
 go_wp2_with fail
 refine HC.out.mono ?_;rintro e w1 ⟨v1,rfl,t,q⟩;have a0:=J t;have K:=J q;have z:=q.size;clear t q HC;have C:=J (uf (HV.out.below K.out) (by omega))
 go_wp2_with fail
 refine C.out.mono ?_;rintro e w2 ⟨v2,rfl,B,l⟩;have a1:=J B;have A:=J (a0.out.below l);have a4:=J (ak K.out l z);have a9:w.heap.size<=w2.heap.size:=L6 z l.size;clear B l C
 go_wp2
 go_loopw [5,6] (fun x y wr=>Lz w (Nat.gcd X Y) (max X Y) x y wr) (fun _ y wr=>ov y wr)
 case atStart=>exact⟨X,Y,A.out,a1.out,by omega,by omega,Z,a4.out⟩
 case round=>
  obtain⟨a,b,P,O,ha,Q,hg,m⟩:=hrel;have HX:=J P;have M:=J O;have L:=J hg;have k:=J m;have p:=m.size;have G:=J O.num;obtain⟨Ax,cx,dx,rfl,U,a2⟩:=P.open_;obtain⟨Ay,cy,dy,rfl,T,o⟩:=O.open_;clear P O hg m U T;by_cases h0:0<dy.length
  ·have i:0<b:=by
    rcases M1 b with h|h
    ·rw[o.out,h,gB]at h0;simp at h0
    exact h
   by_cases N:dx.length<=2/\dy.length<=2
   ·obtain⟨N,h2⟩:=N;have V:(4294967296^2:Nat)=18446744073709551616:=by decide
    have E:a<18446744073709551616:=by
     have:=b4 (ay a) (bY a);rw[aI,<-a2.out]at this;exact Mp this (by rw[<-V];exact MP (by decide) N)
    have D:b<18446744073709551616:=by
     have:=b4 (ay b) (bY b);rw[aI,<-o.out]at this;exact Mp this (by rw[<-V];exact MP (by decide) h2)
    have F:=J (CL HX.out M.out E D);rw[L.out]at F;clear V
    go_wp2_with fail
    refine F.out.mono ?_;rintro e w4 ⟨v4,rfl,d,c⟩;have a5:=J d;have g:=J (ak k.out c p);clear d c
    go_wp2
    go_ret
    exact⟨_,Z,a5.out,g.out⟩
   have F:=J (vU HX.out M.out (H.out a ha) (H.out b Q) i);by_cases h2:dx.length<=2
   ·have h3:¬dy.length<=2:=fun h=>N ⟨h2,h⟩
    go_wp2_with fail
    refine F.out.mono ?_;rintro e w4 ⟨v4,rfl,⟨q4,r4,rfl,d,f⟩,c⟩;have j:=J f;have s:=J (M.out.below c);have g:=J (ak k.out c p);clear d f c
    go_wp2
    go_roundw
    case rel=>exact⟨b,a%b,s.out,j.out,Q,by have:=Nat.mod_le a b;omega,by rw[<-L.out,Oo b,<-P4,Oo],g.out⟩
    case measure=>rw[G.out,j.out.num];exact Ni _ i
   go_wp2_with fail
   refine F.out.mono ?_;rintro e w4 ⟨v4,rfl,⟨q4,r4,rfl,d,f⟩,c⟩;have j:=J f;have s:=J (M.out.below c);have g:=J (ak k.out c p);clear d f c
   go_wp2
   go_roundw
   case rel=>exact⟨b,a%b,s.out,j.out,Q,by have:=Nat.mod_le a b;omega,by rw[<-L.out,Oo b,<-P4,Oo],g.out⟩
   case measure=>rw[G.out,j.out.num];exact Ni _ i
  have i:b=0:=bR.1 (by rw[<-o.out];omega);have I:Nat.gcd X Y=a:=by rw[<-L.out,i,Pa]
  have a3:=J I;clear I
  go_wp2
  go_ret
  exact⟨_,Z,by rw[a3.out];exact HX.out,k.out⟩
end Go.Proofs.YtfoejfohbkmmeaaGreatDoor
