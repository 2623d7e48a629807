import Derived.Test.YtfoejfohbkmmeaaGreatDoorU19
import Derived.Test.YtfoejfohbkmmeaaGreatDoorU03
import Derived.Test.YtfoejfohbkmmeaaGreatDoorU00
set_option maxRecDepth 100000
set_option maxHeartbeats 8000000
namespace Go.Proofs.YtfoejfohbkmmeaaGreatDoor
open Go.RowKit
open Lib renaming hid→J
theorem OwnN.win{w:World}{base g m d:Nat}{L:List Nat}(h:OwnN w base (.slice (some ⟨g,0,none⟩) m d) L)(r:Digs L)(j k c:Nat)(v:j+k<=L.length)(s:k<=c)(p:c<=9223372036854775807):IsN w (some ⟨g,j,none⟩) c ((L.drop j).take k):=by
 have f:((L.drop j).take k).length=k:=by rw[Mf,MS];omega
 refine⟨fun q=>⟨g,j,Z,?_,fun i u n=>?_⟩,fun e=>(by cases e),by omega,p,(r.drop j).take k⟩
 ·rw[cZ,f]at q;obtain⟨t,o,e,_,b,_⟩:=h.lies (by omega);injection e with a
  injection a with a
  injection a with a
  rw[a];exact b
 have l:=(L7.1 n).1;rw[cZ,f]at l;rw[h.cell (i:=j+i) (by omega),<-n];simp only[ce,MQ];rw[MZ,if_pos l,Nd,L4 (by omega)];rfl
theorem OwnN.keep{w w':World}{base g c n a:Nat}{L:List Nat}(h:OwnN w base (.slice (some ⟨g,0,none⟩) n a) L)(d:w.grownBy w' (some c))(b:g≠c):OwnN w' base (.slice (some ⟨g,0,none⟩) n a) L:=by
 unfold OwnN at h⊢;refine h.kept d (.inr ?_);show some g≠some c
 exact fun e=>b (by injection e)
theorem EV{Y n d s:Nat}(o:1<=n)(f:(ay Y).length=n)(b:∃h:n-1<(ay Y).length,(ay Y)[n-1]=d)(k:2147483648<=2^s*d)(l:2^s*(d+1)<=4294967296):2^s*Y<4294967296^n/\2147483648*4294967296^(n-1)<=2^s*Y:=by
 obtain⟨c,b⟩:=b;have e:=cQ (ay Y) (n-1) c;rw[show n-1+1=n by omega,Me (Ob f),aI,b]at e;have i:=b4 ((ay Y).take (n-1)) fun x j=>bY Y x (MC j)
 rw[Mf,f,Nl (by omega)]at i;have m:4294967296^n=4294967296^(n-1)*4294967296:=by rw[<-MM];congr 1;omega
 generalize 4294967296^(n-1)=P at*;generalize aB ((ay Y).take (n-1))=t at*;generalize 2^s=S at*;constructor
 ·have a:S*Y<S*(P*(d+1))\/S=0:=by
   rcases M1 S with h|h
   ·exact .inr h
   left;refine PK ?_ h;rw[MF];omega
  rcases a with a|a
  ·have g:S*(P*(d+1))<=P*4294967296:=by rw[NO];exact Nw _ l
   omega
  subst a;omega
 have a:P*2147483648<=P*(S*d):=Nw _ k;have g:S*(P*d)<=S*Y:=Nw _ (by omega);rw[NO]at g;omega
theorem Je{vs:List Nat}{n V:Nat}(i:1<=n)(c:vs.length=n)(g:Digs vs)(f:aB vs=V)(h:2147483648*4294967296^(n-1)<=V):∀h:n-1<vs.length,2147483648<=vs[n-1]:=fun b=>by
 have e:=cQ vs (n-1) b;rw[show n-1+1=n by omega,Me (Ob c),f]at e;have d:=b4 (vs.take (n-1)) (g.take _);rw[Mf,c,Nl (by omega)]at d;generalize 4294967296^(n-1)=P at*;generalize aB (vs.take (n-1))=t at*;generalize vs[n-1]=x at*;rcases MI x 2147483648 with a|a
 ·exfalso;have:P*(x+1)<=P*2147483648:=Nw _ a;rw[MF]at this;omega
 exact a
theorem EW{U vs:List Nat}{j n V la:Nat}(s:U.length=la+1)(_:Digs U)(g:vs.length=n)(f:Digs vs)(k:aB vs=V)(p:j+n<=la)(h:aB U<V*4294967296^(j+1)):
  aB U=aB (U.take j)+4294967296^j*aB ((U.drop j).take (n+1))/\aB (U.drop (j+(n+1)))=0/\aB ((U.drop j).take (n+1))<4294967296*V:=by
 have l:=mb U j (by omega);have a:=mb (U.drop j) (n+1) (by rw[MS];omega);rw[List.drop_drop]at a;have b:=b4 vs f;rw[g,k]at b;rw[MM]at h;have q:0<4294967296^j:=NN (by decide);have i:(4294967296:Nat)^(n+1)=4294967296^n*4294967296:=MM ..;generalize m:(4294967296:Nat)^j=P at*;generalize (4294967296:Nat)^n=R at*;rw[i]at a;generalize aB (U.take j)=t at*;generalize aB ((U.drop j).take (n+1))=x at*;generalize aB (U.drop (j+(n+1)))=y at*;generalize aB (U.drop j)=z at*;have o:z<4294967296*V:=by
  rcases MI z (4294967296*V)with c|c
  ·exact c
  exfalso;have u:P*(4294967296*V)<=P*z:=Nw _ c;have e:V*(P*4294967296)=P*(4294967296*V):=by rw[NO,Mt V]
  omega
 have d:y=0:=by
  refine P6 fun d=>?_
  have:R*4294967296*1<=R*4294967296*y:=Nw _ d;omega
 subst d;rw[Oy,No]at a;exact⟨by rw[l,a],Z,by omega⟩
def LdInv(w:World)(gv gu gq n la V Z:Nat)(vs:List Nat)(i:Value)(wr:World):Prop:=
 ∃(k:Nat) (U qs:List Nat),k<=la+1-n/\i=.int .i64 ((k:Int)-1)/\U.length=la+1/\Digs U/\OwnN wr w.heap.size (.slice (some ⟨gu,0,none⟩) (la+1) (la+1)) U/\qs.length=la+1-n-k/\Digs qs/\OwnN wr w.heap.size (.slice (some ⟨gq,0,none⟩) (la+1-n) (la+1-n)) (List.replicate k 0++qs)/\OwnN wr w.heap.size (.slice (some ⟨gv,0,none⟩) n n) vs/\Z=aB qs*4294967296^k*V+aB U/\aB U<V*4294967296^k/\Below w.heap.size w wr
theorem Hc{U a qs:List Nat}{j n V la Z g:Nat}(w:U.length=la+1)(v:j+n<=la)(u:a.length=n+1)(l:Digs U)(m:aB U=aB (U.take j)+4294967296^j*aB ((U.drop j).take (n+1)))(s:aB (U.drop (j+(n+1)))=0)(k:g=aB ((U.drop j).take (n+1))/V)(d:aB a=aB ((U.drop j).take (n+1))%V)(p:0<V)(e:Z=aB qs*4294967296^(j+1)*V+aB U):
  Z=aB (g::qs)*4294967296^j*V+aB (U.take j++(a++U.drop (j+(n+1))))/\aB (U.take j++(a++U.drop (j+(n+1))))<V*4294967296^j:=by
 have i:aB (U.take j++(a++U.drop (j+(n+1))))=aB (U.take j)+4294967296^j*aB a:=by
  rw[eg,eg,s,Oy,No,Mf,Nl (by omega)]
 have h:=b4 (U.take j) (l.take _);rw[Mf,Nl (by omega)]at h;have c:=Oe (aB ((U.drop j).take (n+1))) V;have b:=Ni (aB ((U.drop j).take (n+1))) p;rw[<-k,<-d]at c;rw[<-d]at b;rw[i,aB];rw[MM]at e;generalize (4294967296:Nat)^j=P at*;generalize aB (U.take j)=t at*;generalize aB ((U.drop j).take (n+1))=x at*;generalize aB a=o at*;generalize aB qs=q at*;constructor
 ·rw[e,m,<-c,MF P,M3,M3];have f:q*(P*4294967296)*V=4294967296*q*P*V:=by
   congr 1;rw[Mt P,<-Mu,Mt q]
  have r:P*(V*g)=g*P*V:=by rw[Mt V,<-Mu,Mt P]
  rw[f,r];omega
 have:P*(o+1)<=P*V:=Nw _ b;rw[MF]at this;rw[Mt V];omega
theorem sg{w wr l:World}{s h c n la V Z j g:Nat}{vs U a qs:List Nat}{z i:Int}(hq:c≠h/\c≠s/\s≠h/\w.heap.size<=h/\w.heap.size<=c)(R:j+1<=la+1-n)(B:U.length=la+1)(b:Digs U)(v:vs.length=n)(u:Digs vs)(W:aB vs=V)(J:0<V)(x:aB U<V*4294967296^(j+1))(o:qs.length=la+1-n-(j+1))(C:Digs qs)
  (t:OwnN wr w.heap.size (.slice (some ⟨c,0,none⟩) (la+1-n) (la+1-n)) (List.replicate (j+1) 0++qs)) (D:OwnN wr w.heap.size (.slice (some ⟨s,0,none⟩) n n) vs) (Q:Z=aB qs*4294967296^(j+1)*V+aB U) (G:Below w.heap.size w wr) (f:wr.grownBy l (some h)) (E:OwnN l w.heap.size (.slice (some ⟨h,0,none⟩) (la+1) (la+1)) (U.take j++(a++U.drop (j+(n+1))))) (q:a.length=n+1) (y:Digs a) (H:g=aB ((U.drop j).take (n+1))/V) (Y:aB a=aB ((U.drop j).take (n+1))%V) (L:z=(g:Int)) (P:i=(j:Int)-1):
  LdInv w s h c n la V Z vs (.int .i64 i) (l.setCell ⟨c,j,none⟩ (.int .u32 z)):=by
 subst P;obtain⟨I,q2,N,q4,K⟩:=hq;obtain⟨O,S,M⟩:=EW B b v u W (j:=j) (by omega) x;have r:g<4294967296:=by rw[H,Nz J];exact M
 have m:=jw l c j (.int .u32 z);have F:Below w.heap.size w l:=G.grown f G.size fun k e=>by injection e with e;omega
 obtain⟨T,X⟩:=Hc B (by omega) q b O S H Y J Q;refine⟨j,U.take j++(a++U.drop (j+(n+1))),g::qs,by omega,Zz,by rw[mJ (k:=n+1) (by omega) q,B],oC (b.take _) (oC y (b.drop _)),E.keep m (fun e=>I e.symm),by rw[Mb,o];omega,fun d A=>?_,?_,(D.keep f N).keep m (fun e=>q2 e.symm),T,X,F.setCell (p:=⟨c,j,none⟩) K _⟩
 ·rcases Mi.1 A with rfl|A
  ·exact r
  exact C d A
 have:=(t.keep f I).put (i:=j) (by simp[o];omega) z g L;rw[pE]at this;exact this
theorem EX{X Y s V R Q:Nat}(i:V=2^s*Y)(a:2^s*X=Q*V+R)(h:R<V):X/Y=Q/\X%Y=R/2^s:=by
 have b:0<2^s:=NN (by decide);generalize 2^s=S at*;subst i;have g:0<Y:=NG fun e=>by subst e;omega
 obtain⟨r,rfl⟩:∃r,R=S*r:=by
  have j:S∣Q*(S*Y)+R:=⟨X,a.symm⟩;have d:S∣Q*(S*Y):=⟨Q*Y,NO ..⟩;exact(Nat.dvd_add_right d).1 j
 have c:r<Y:=Nat.lt_of_mul_lt_mul_left h;have f:X=Q*Y+r:=by
  refine Nat.eq_of_mul_eq_mul_left b ?_;rw[a,MF,NO]
 rw[Pe _ b,f];refine⟨?_,?_⟩
 ·rw[Mt,Nat.mul_add_div g,Oa c];omega
 rw[Mt,Nat.mul_add_mod,NZ c]
theorem EY{n:Nat}(h:(ay n).length-1<(ay n).length):(ay n)[(ay n).length-1]≠0:=fun e=>by
 have b:=cQ (ay n) _ h;rw[show(ay n).length-1+1=(ay n).length by omega,M9,aI,e,Oy,No]at b;have a:=b4 ((ay n).take ((ay n).length-1)) fun x c=>bY n x (MC c)
 rw[Mf,Nl (by omega),<-b]at a;have:=aR a;omega
theorem zI{d:Nat}(i:0<d)(h:d<4294967296):∃s:Nat,s<32/\(32-(Lib.bitLen d:Int))=(s:Int)/\2147483648<=2^s*d/\2^s*(d+1)<=4294967296:=by
 obtain⟨f,c,a⟩:=Lib.bitLenAux_bounds 64 d (by omega) (by omega);have g:Lib.bitLen d<=32:=Lib.bitLen_le d 32 (by decide) (by rw[show(2:Nat)^32=4294967296 by decide];exact h);change 1<=Lib.bitLen d at f;change 2^(Lib.bitLen d-1)<=d at c;change d<2^Lib.bitLen d at a;generalize Lib.bitLen d=b at*;refine⟨32-b,by omega,by omega,?_,?_⟩
 ·have e:2^(32-b)*2^(b-1)=2147483648:=by rw[<-N2,show 32-b+(b-1)=31 by omega]
  rw[<-e];exact Nw _ c
 have e:2^(32-b)*2^b=4294967296:=by rw[<-N2,show 32-b+b=32 by omega]
 rw[<-e];exact Nw _ a
theorem EZ{X V s n la:Nat}(i:s<32)(b:X<4294967296^la)(h:1<=n)(a:n<=la)(d:2147483648*4294967296^(n-1)<=V):2^s*X<V*4294967296^(la+1-n):=by
 have f:2^s<=2147483648:=by
  have g:(2:Nat)^s<=2^31:=MP (by decide) (by omega);have c:(2:Nat)^31=2147483648:=by decide
  omega
 have e:2147483648*4294967296^la=2147483648*4294967296^(n-1)*4294967296^(la+1-n):=by rw[Mu,<-N2];congr 2;omega
 have g:2^s*X<=2147483648*X:=MJ _ f;have c:2147483648*4294967296^(n-1)*4294967296^(la+1-n)<=V*4294967296^(la+1-n):=MJ _ d;have j:2147483648*X<2147483648*4294967296^la:=PK b (by decide);omega
def QR(q r:Nat)(W:World)(v:Value):Prop:=∃a b,v=.tuple #[a,b]/\IsD W a q/\IsD W b r
def Kl(gq:Nat)(gu:Nat)(la:Nat)(n:Nat)(m:Nat)(s:Nat)(a:Nat)(b:Nat):List (Value->World->Prop):=[
 fun r _=>r=.slice (some ⟨gq,0,none⟩) m m,
 fun r W=>IsD W r a,
 fun r _=>r=.slice (some ⟨gu,0,none⟩) (la+1) (la+1),
 fun r _=>r=.int .i64 (n:Int),
 fun r _=>r=.slice (some ⟨gu,0,none⟩) n (la+1),
 fun r _=>r=.int .u64 (s:Int),
 fun r W=>IsD W r b,
 fun r W=>IsD W r a,
 fun r W=>IsD W r b]
theorem CZ(e:Nat)(d:Nat)(la:Nat)(n:Nat)(m:Nat)(s:Nat)(a:Nat)(b:Nat)(f:World):Stab f (Kl e d la n m s a b):=
 .eq<|.cons (fun _ _ _ _ h c=>IsD.below h c)<|.eq<|.eq<|.eq<|.eq<|.cons (fun _ _ _ _ h c=>IsD.below h c)<|.cons (fun _ _ _ _ h c=>IsD.below h c)<|.cons (fun _ _ _ _ h c=>IsD.below h c)<|.nil
theorem Km{u v:Value}{X Y:Nat}{w:World}(hu:IsD w u X)(hv:IsD w v Y)(z5:(ay X).length<=1048576)(h2:2<=(ay Y).length)(u3:Y<=X):Calls Tryz.prog 245 #[u,v] w (Gives (QR (X/Y) (X%Y)) w):=by
 obtain⟨A,ca,f,rfl,t8,g4⟩:=hu.open_;obtain⟨B,cb,a,rfl,p5,O⟩:=hv.open_;have A2:a.length<=f.length:=by rw[g4.out,O.out];exact aS u3
 have B1:f.length<=1048576:=by rw[g4.out];exact z5
 have z3:2<=a.length:=by rw[O.out];exact h2
 have t5:=J t8;have f6:=J p5;have HX:Hid (aB f=X):=by rw[g4.out];exact aI X
 have HY:Hid (aB a=Y):=by rw[O.out];exact aI Y
 clear hu hv t8 p5;obtain⟨b2,o2,rfl,C2,t0⟩:=f6.out.digit (i:=a.length-1) (by omega);have cd:=t0 (a.length-1) (by omega);have d9:=f6.out.lt (i:=a.length-1) (by omega);have t9:0<a[a.length-1]'(by omega):=by
  refine NG fun e=>?_
  have f0:=O.out;subst f0;exact EY (by omega) e
 obtain⟨d,hd⟩:∃d,a[a.length-1]'(by omega)=d:=⟨_,rfl⟩;rw[hd]at cd d9 t9;obtain⟨s,L,o3,k4,r1⟩:=zI t9 d9;obtain⟨n1,n2⟩:=EV (Y:=Y) (n:=a.length) (d:=d) (s:=s) (by omega) (by rw[<-O.out]) (by
  have f0:=O.out;subst f0;exact⟨by omega,hd⟩) k4 r1
 have HL:=J (fun w=>Tryz.bits_LeadingZeros32 (d:Int) w (by omega) (by omega));simp only[Oq,o3]at HL;have e5:=J n1;have f9:=J n2;have g1:(0:Int)<=(a.length:Int)-1:=by omega
 have g2:((a.length:Int)-1).toNat=a.length-1:=by omega
 clear t0 hd k4 r1 n1 n2 o3
 go_enter Tryz.func245,Tryz.ntmps245
 go_wp2_with fail
 refine(HL.out _).mono ?_;rintro e w0 ⟨rfl,rfl⟩;have j3:=J (BN _ cb a s a.length w0 f6.out (by omega) L (.inl Z))
 go_wp2_with fail
 refine j3.out.mono ?_;rintro e x ⟨vs,c1,rfl,S,i4,s5,_,c4,g3⟩;obtain rfl:c1=0:=by
  rcases M1 c1 with h|h
  ·exact h
  exfalso;have h8:=e5.out;rw[<-HY.out,<-c4]at h8;have:1*4294967296^a.length<=c1*4294967296^a.length:=MJ _ h;omega
 rw[O7,No,HY.out]at c4;have v3:w0.heap.size<x.heap.size:=by
  obtain⟨g',r0,e,_,c9,_⟩:=S.lies (by omega);injection e with e1
  injection e1 with e1
  injection e1 with e1
  omega
 have w9:=J S;have H:=J i4;have m:=J s5;have D:=J c4;have z0:=J g3;have h0:=J (BN A ca f s (f.length+1) x (t5.out.below g3) (by omega) L (.inr Z));rw[show((f.length+1:Nat):Int)=(f.length:Int)+1 by omega]at h0;clear S i4 s5 c4 g3 j3
 go_wp2_with fail
 refine h0.out.mono ?_;rintro e R ⟨us,c2,rfl,a0,q6,b1,t1,P,a2⟩;obtain rfl:c2=0:=t1 rfl;rw[O7,No,HX.out]at P;have B3:x.heap.size<R.heap.size:=by
  obtain⟨g',r0,e,_,c9,_⟩:=a0.lies (by omega);injection e with e1
  injection e1 with e1
  injection e1 with e1
  omega
 have s3:=J (w9.out.below a2);have v0:=J (a0.base_le (b:=w0.heap.size) (by omega));have A0:=J q6;have u2:=J b1;have m9:=J P;have v2:=J (ak z0.out a2 (by omega));clear a0 q6 b1 P a2 t1 h0;obtain⟨W,d0,m3,d2,u8⟩:=eF R (f.length+1-a.length) (by omega);have d0:=d0 .i64 .i64;have z1:=J (m3.base_le (b:=w0.heap.size) (by omega));have k3:=J (s3.out.below d2);have t7:=J (v0.out.below d2);have w7:=J (ak v2.out d2 (by omega));have A5:R.heap.size<W.heap.size:=by omega
 clear m3 d2 u8;rw[show((f.length+1-a.length:Nat):Int)=(f.length:Int)-(a.length:Int)+1 by omega]at d0;have x0:=J (EZ (X:=X) (V:=2^s*Y) (n:=a.length) (la:=f.length) L (by have:=b4 f t5.out.ok;rwa[HX.out]at this) (by omega) A2 f9.out)
 go_wp2
 clear d0
 go_loopw [10] (fun i wr=>LdInv w0 w0.heap.size x.heap.size R.heap.size a.length f.length (2^s*Y) (2^s*X) vs i wr) (fun i _=>(intOf i+1).toNat)
 case atStart=>exact⟨f.length+1-a.length,us,[],L5 _,EK (by omega),u2.out,A0.out,t7.out,by simp,fun d hd=>(by cases hd),by rw[MA];exact z1.out,k3.out,by rw[m9.out];simp[aB],by rw[m9.out];exact x0.out,w7.out⟩
 case round=>
  obtain⟨k,U,qs,hk,rfl,l0,p7,q4,r3,p0,Q,S,hZ,c9,o1⟩:=hrel;have c:=J l0;have o:=J p7;have a1:=J q4;have p:=J r3;have a3:=J p0;have d7:=J Q;have d4:=J S;have h6:=J hZ;have M:=J c9;have d1:=J o1;clear l0 p7 q4 r3 p0 Q S hZ c9 o1;cases k with
  |zero=>
   have hZ:=h6.out;rw[Py,Oh]at hZ;have hR:=M.out;rw[Py,Oh]at hR;obtain⟨q1,q2⟩:=EX (X:=X) (Y:=Y) (s:=s) rfl hZ hR;have Q:=d7.out;rw[NI,M6]at Q;obtain⟨i1,i2⟩:=Q.isN a3.out;have v6:=J (fun(W':World) (hw:Below wr.heap.size wr W')=>oD (N:=X/Y) (i1.below hw) i2 (by rw[p.out];omega) q1.symm);have b1:(U.take a.length).length=a.length:=by rw[Mf,c.out];omega
   have P:aB (U.take a.length)=aB U:=by
    have h1:=mb U a.length (by rw[c.out];omega);have h2:aB (U.drop a.length)=0:=by
     have h3:=e5.out;have h4:aB U<4294967296^a.length:=by omega
     refine P6 fun hp=>?_
     have:4294967296^a.length*1<=4294967296^a.length*aB (U.drop a.length):=Nw _ hp;omega
    rw[h2,Oy,No]at h1;exact h1.symm
   have b0:=a1.out.win o.out 0 a.length (f.length+1) (by rw[c.out];omega) (by omega) (by omega);rw[Nx]at b0;have y9:=J (fun(W':World) (hw:Below wr.heap.size wr W')=>by
    have h1:=G9 (some ⟨x.heap.size,0,none⟩) (f.length+1) (U.take a.length) s W' (b0.below hw) (by omega) L;rw[b1,P,<-q2]at h1;exact h1)
   have B5:(0:Int)<=(a.length:Int):=by omega
   have B7:(a.length:Int)<=(f.length:Int)+1:=by omega
   clear hZ hR q1 q2 Q i1 i2 b1 P b0
   go_wp2
   refine ft [some 80,some 81,some 82,some 83,some 84,some 85,some 86,some 4,some 5] (Kl R.heap.size x.heap.size f.length a.length ((f.length+1-a.length)) s ((X/Y)) ((X%Y))) (by kernel_rfl) (by kernel_rfl) (by rfl) (by rfl) (CZ R.heap.size x.heap.size f.length a.length ((f.length+1-a.length)) s ((X/Y)) ((X%Y)) _) ?_ ?_
   ·refine Steps.cons trivial (fun T W l=>?_) ?_
    ·have e4:T 4=.slice (some ⟨R.heap.size,0,none⟩) ((f.length+1-a.length)) ((f.length+1-a.length)):=l.old 1 7 4 (by kernel_rfl);have t:=l.wi;clear l;refine aq (v:=.slice (some ⟨R.heap.size,0,none⟩) ((f.length+1-a.length)) ((f.length+1-a.length))) (W':=W) ?_ ⟨Z,Below.refl _ _⟩;simp only[execOp,cA,e4];go_simp
    refine Steps.cons trivial (fun T W l=>?_) ?_
    ·have A1:T 80=.slice (some ⟨R.heap.size,0,none⟩) ((f.length+1-a.length)) ((f.length+1-a.length)):=l.fact 1 0 80 (by kernel_rfl);have t:=l.wi;clear l;refine bJ ?_ (((v6.out W t)).mono fun e W' h=>h);simp only[execOp,resolve,invoke,Nf,MX,ND,cA,A1];go_simp
    refine Steps.cons trivial (fun T W l=>?_) ?_
    ·have e9:T 9=.slice (some ⟨x.heap.size,0,none⟩) (f.length+1) (f.length+1):=l.keep 9 (by rfl);have t:=l.wi;clear l;refine aq (v:=.slice (some ⟨x.heap.size,0,none⟩) (f.length+1) (f.length+1)) (W':=W) ?_ ⟨Z,Below.refl _ _⟩;simp only[execOp,cA,e9];go_simp
    refine Steps.cons trivial (fun T W l=>?_) ?_
    ·have e6:T 6=.int .i64 (a.length:Int):=l.keep 6 (by rfl);have t:=l.wi;clear l;refine aq (v:=.int .i64 (a.length:Int)) (W':=W) ?_ ⟨Z,Below.refl _ _⟩;simp only[execOp,cA,e6];go_simp
    refine Steps.cons trivial (fun T W l=>?_) ?_
    ·have x2:T 82=.slice (some ⟨x.heap.size,0,none⟩) (f.length+1) (f.length+1):=l.fact 1 2 82 (by kernel_rfl);have w6:T 83=.int .i64 (a.length:Int):=l.fact 1 3 83 (by kernel_rfl);have t:=l.wi;clear l;refine aq (v:=.slice (some ⟨x.heap.size,0,none⟩) a.length (f.length+1)) (W':=W) ?_ ⟨Z,Below.refl _ _⟩;simp only[execOp,cA,x2];go_simp;simp only[cA,w6];go_simp
    refine Steps.cons trivial (fun T W l=>?_) ?_
    ·have e7:T 7=.int .u64 (s:Int):=l.keep 7 (by rfl);have t:=l.wi;clear l;refine aq (v:=.int .u64 (s:Int)) (W':=W) ?_ ⟨Z,Below.refl _ _⟩;simp only[execOp,cA,e7];go_simp
    refine Steps.cons trivial (fun T W l=>?_) ?_
    ·have z4:T 84=.slice (some ⟨x.heap.size,0,none⟩) a.length (f.length+1):=l.fact 1 4 84 (by kernel_rfl);have v5:T 85=.int .u64 (s:Int):=l.fact 1 5 85 (by kernel_rfl);have t:=l.wi;clear l;refine bJ ?_ (((y9.out W t)).mono fun e W' h=>h);simp only[execOp,resolve,invoke,Nf,MX,ND,cA,z4,v5];go_simp
    refine Steps.cons trivial (fun T W l=>?_) ?_
    ·have k0:(fun r W=>IsD W r ((X/Y))) (T 81) W:=l.fact 1 1 81 (by kernel_rfl);simp only at k0;have t:=l.wi;clear l;exact aq (v:=T 81) (W':=W) (by simp only[execOp,cA];go_simp) ⟨k0,Below.refl _ _⟩
    refine Steps.cons trivial (fun T W l=>?_) ?_
    ·have q7:(fun r W=>IsD W r ((X%Y))) (T 86) W:=l.fact 1 6 86 (by kernel_rfl);simp only at q7;have t:=l.wi;clear l;exact aq (v:=T 86) (W':=W) (by simp only[execOp,cA];go_simp) ⟨q7,Below.refl _ _⟩
    exact Steps.nil
   intro us W1 d6 hF hb;obtain⟨y0,D1,rfl,q9⟩:=aY d6;clear d6;obtain⟨y1,A9,rfl,u0⟩:=aY q9;clear q9;obtain⟨y2,D2,rfl,p4⟩:=aY u0;clear u0;obtain⟨y3,B0,rfl,q8⟩:=aY p4;clear p4;obtain⟨y4,D6,rfl,r2⟩:=aY q8;clear q8;obtain⟨y5,A7,rfl,m2⟩:=aY r2;clear r2;obtain⟨y6,A6,rfl,r5⟩:=aY m2;clear m2;obtain⟨y7,B2,rfl,k5⟩:=aY r5;clear r5;obtain⟨y8,B6,rfl,l5⟩:=aY k5;clear k5;obtain rfl:=kS l5;clear l5;have f7:(fun r W=>IsD W r ((X/Y))) y7 W1:=hF 7 (by decide);have f8:(fun r W=>IsD W r ((X%Y))) y8 W1:=hF 8 (by decide);clear hF;simp only[b8,Mn,MD,Mj,Mv,Ms];have F7:IsD W1 y7 (X/Y):=f7;have F8:IsD W1 y8 (X%Y):=f8;have A3:=J F7;have z9:=J F8;have z2:=J (ak d1.out hb d1.out.size);clear f7 f8 F7 F8 hb
   go_wp2
   go_ret2
   exact⟨_,Z,⟨_,_,Z,A3.out,z9.out⟩,z2.out⟩
  |succ j=>
   rw[show((j+1:Nat):Int)-1=(j:Int) by omega];obtain⟨v7,x1,r6⟩:=EW c.out o.out m.out H.out D.out (j:=j) (by omega) M.out;have h5:((U.drop j).take (a.length+1)).length=a.length+1:=by rw[Mf,MS,c.out];omega
   have hG:Guess ((U.drop j).take (a.length+1)) vs a.length:=⟨z3,h5,m.out,(o.out.drop j).take _,H.out,Je (by omega) m.out H.out D.out f9.out,by rw[D.out];exact r6⟩;have f2:=CY (some ⟨x.heap.size,j,none⟩) (some ⟨w0.heap.size,0,none⟩) (f.length+1-j) a.length ((U.drop j).take (a.length+1)) vs a.length wr (a1.out.win o.out j (a.length+1) _ (by rw[c.out];omega) (by omega) (by omega)) (by have:=d4.out.win H.out 0 a.length a.length (by rw[m.out];omega) (by omega) (by omega);rw[Nx,Me (Ob m.out)]at this;exact this) hG (by omega);rw[h5,m.out,D.out]at f2;have i3:=J f2;clear f2 hG h5 v7 x1 r6;have p1:(0:Int)<=(j:Int):=by omega
   have p2:(j:Int)<=(j:Int)+(a.length:Int)+1:=by omega
   have p3:(j:Int)+(a.length:Int)+1<=(f.length:Int)+1:=by omega
   go_wp2_with fail
   rw[show j+a.length+1-j=a.length+1 by omega];refine i3.out.mono ?_;rintro e w3 ⟨g,rfl,i5,s2,v1,gb⟩;have d3:=J (And.intro i5 s2);have q5:=J (show OwnN w3 w0.heap.size (.slice (some ⟨x.heap.size,0,none⟩) U.length (f.length+1)) U by rw[c.out];exact a1.out.below gb);have K:=J (d7.out.below gb);have a5:=J (d4.out.below gb);have r4:=J (ak d1.out gb d1.out.size);have c7:0<2^s*Y:=Mp (Oi (by decide) (NN (by decide))) f9.out;have s6:=J (show IsN w3 (some ⟨w0.heap.size,0,none⟩) a.length vs by have:=a5.out.win H.out 0 a.length a.length (by rw[m.out];omega) (by omega) (by omega);rw[Nx,Me (Ob m.out)]at this;exact this);have h7:=ET x.heap.size (f.length+1) w0.heap.size j a.length g (f.length+1-j) a.length (some ⟨w0.heap.size,0,none⟩) U vs w3 q5.out o.out s6.out (fun b off e=>by injection e with e;injection e with e;omega) m.out (by rw[c.out];omega) (by omega) v1 (by omega) (by rw[c.out];omega);rw[m.out]at h7;have i9:=J h7;have t3:R.heap.size≠x.heap.size/\R.heap.size≠w0.heap.size/\w0.heap.size≠x.heap.size/\w0.heap.size<=x.heap.size/\w0.heap.size<=R.heap.size:=⟨by omega,by omega,by omega,by omega,by omega⟩;have i0:R.heap.size≠x.heap.size:=by omega
   clear i5 s2 gb i3 h7
   go_wp2_with fail
   rw[show j+a.length+1-j=a.length+1 by omega];refine i9.out.mono ?_;rintro e w4 ⟨bb,y,rfl,n0,t2,a0,F,u1⟩;rw[D.out]at F;have C:=J n0;have c6:=J t2;have c5:=J u1;have c0:=J a0;rw[c.out]at c0;clear n0 t2 a0 u1 i9;cases bb with
   |false=>
    rw[if_neg MR,No]at F;obtain⟨k1,k2⟩:=CT c7 d3.out.1 d3.out.2 F;have K1:=J k1;have K2:=J k2;clear F k1 k2;have I:=K.out.keep c5.out i0;have v4:=I.free j;have f1:=I.cell (i:=j) (by have:=p.out;simp;omega);obtain⟨old,E⟩:∃old,(List.replicate (j+1) 0++qs)[j]'(by have:=p.out;simp;omega)=old:=⟨_,rfl⟩;rw[E]at f1;have f3:=J (fun z i hz hi=>sg (z:=z) (i:=i) (g:=g) t3 hk c.out o.out m.out H.out D.out c7 M.out p.out a3.out K.out a5.out h6.out r4.out c5.out c0.out C.out c6.out K1.out K2.out hz hi);clear I E
    go_wp2
    go_roundw
    case rel=>exact f3.out _ _ (by first|rfl|omega) (by omega)
    case measure=>simp[intOf]
   |true=>
    rw[if_pos Z]at F;have b5:(U.take j++(y++U.drop (j+(a.length+1)))).length=f.length+1:=by rw[mJ (k:=a.length+1) (by rw[c.out];omega) C.out,c.out]
    have G:(U.take j).length=j:=by rw[Mf,c.out];omega
    have t4:Digs (U.take j++(y++U.drop (j+(a.length+1)))):=oC (o.out.take _) (oC c6.out (o.out.drop _));have f4:=EU x.heap.size (f.length+1) w0.heap.size j a.length (f.length+1-j) a.length (some ⟨w0.heap.size,0,none⟩) (U.take j++(y++U.drop (j+(a.length+1)))) vs w4 (by rw[b5];exact c0.out) t4 (s6.out.grown c5.out fun b off e=>by injection e with e;injection e with e;omega) (fun b off e=>by injection e with e;injection e with e;omega) m.out (by rw[b5];omega) (by omega) (by omega) (by rw[b5];omega);rw[m.out]at f4;have m1:=J f4;have s4:=J F;have v9:=J b5;have v3:1<=g:=by
     refine NG fun e=>?_
     have h8:=s4.out;rw[e,O7,No]at h8;have h9:=b4 y c6.out;rw[C.out]at h9;omega
    have B9:IntKind.u64.wrap ((g:Int)-1)=((g-1:Nat):Int):=by rw[IntKind.wrap_u64];omega
    have A4:g-1<4294967296:=by omega
    clear F b5 t4 f4 G
    go_wp2_with fail
    rw[show j+a.length+1-j=a.length+1 by omega];refine m1.out.mono ?_;rintro e w5 ⟨s1,q,rfl,b3,a4,a9,c3,d5⟩;have G:(U.take j).length=j:=by rw[Mf,c.out];omega
    have e1:((U.take j++(y++U.drop (j+(a.length+1)))).drop j).take (a.length+1)=y:=by
     rw[PU,Mg (by omega),G,M4,Nx,M6,OX,C.out,M4,Ou,MA,Me (by rw[C.out];omega)]
    have e2:(U.take j++(y++U.drop (j+(a.length+1)))).take j=U.take j:=by
     rw[OX,G,M4,Ou,MA,Me (by omega)]
    have e3:(U.take j++(y++U.drop (j+(a.length+1)))).drop (j+(a.length+1))=U.drop (j+(a.length+1)):=by
     rw[<-MG,PU,Mg (by rw[Mc,G,C.out];omega),Mc,G,C.out,M4,Nx,M6]
    rw[e1,D.out]at c3;rw[e2,e3,v9.out]at a9;have m4:2^s*Y<=4294967296^(a.length+1):=by
     have:=e5.out;rw[MM];omega
    have l1:=b4 y c6.out;rw[C.out]at l1;have l2:=b4 s1 a4;rw[b3]at l2;obtain⟨k1,k2⟩:=CU c7 m4 d3.out.1 d3.out.2 l1 s4.out l2 c3;have K1:=J (show g-1=aB ((U.drop j).take (a.length+1))/(2^s*Y) by omega);have K2:=J k2;have q3:=J b3;have q0:=J a4;have e0:=J (c5.out.trans d5);have g0:=J a9;clear G e1 e2 e3 c3 a9 m4 l1 l2 k1 k2 b3 a4 d5 m1;have I:=K.out.keep e0.out i0;have v4:=I.free j;have f1:=I.cell (i:=j) (by have:=p.out;simp;omega);obtain⟨old,E⟩:∃old,(List.replicate (j+1) 0++qs)[j]'(by have:=p.out;simp;omega)=old:=⟨_,rfl⟩;rw[E]at f1;have f3:=J (fun z i hz hi=>sg (z:=z) (i:=i) (g:=g-1) t3 hk c.out o.out m.out H.out D.out c7 M.out p.out a3.out K.out a5.out h6.out r4.out e0.out g0.out q3.out q0.out K1.out K2.out hz hi);clear I E
    go_wp2
    go_roundw
    case rel=>exact f3.out _ _ (by first|rfl|omega) (by omega)
    case measure=>simp[intOf]
end Go.Proofs.YtfoejfohbkmmeaaGreatDoor
