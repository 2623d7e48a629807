import Derived.Test.YtfoejfohbkmmeaaGreatDoorB17
import Derived.Test.YtfoejfohbkmmeaaGreatDoorB01
import Derived.Test.YtfoejfohbkmmeaaGreatDoorB00
set_option maxRecDepth 100000
set_option maxHeartbeats 8000000
namespace Go.Proofs.YtfoejfohbkmmeaaGreatDoor
open Go.RowKit
open Lib renaming hid→J
theorem OwnN.win{w:World}{base g m d:Nat}{L:List Nat}(h:OwnN w base (.slice (some ⟨g,0,none⟩) m d) L)(r:Digs L)(j k c:Nat)(t:j+k<=L.length)(s:k<=c)(q:c<=9223372036854775807):IsN w (some ⟨g,j,none⟩) c ((L.drop j).take k):=by
 have f:((L.drop j).take k).length=k:=by rw[Ox,OP];omega
 refine⟨fun p=>⟨g,j,Z,?_,fun i u o=>?_⟩,fun e=>(by cases e),by omega,q,(r.drop j).take k⟩
 ·rw[dG,f]at p;obtain⟨v,n,e,_,b,_⟩:=h.lies (by omega);injection e with a
  injection a with a
  injection a with a
  rw[a];exact b
 have l:=(Ok.1 o).1;rw[dG,f]at l;rw[h.cell (i:=j+i) (by omega),<-o];simp only[cG,O2];rw[Ph,if_pos l,PB,Og (by omega)];rfl
theorem OwnN.keep{w w':World}{base g b n a:Nat}{L:List Nat}(h:OwnN w base (.slice (some ⟨g,0,none⟩) n a) L)(d:w.grownBy w' (some b))(c:g≠b):OwnN w' base (.slice (some ⟨g,0,none⟩) n a) L:=by
 unfold OwnN at h⊢;refine h.kept d (.inr ?_);show some g≠some b
 exact fun e=>c (by injection e)
theorem Hb{Y n d s:Nat}(o:1<=n)(f:(az Y).length=n)(c:∃h:n-1<(az Y).length,(az Y)[n-1]=d)(i:2147483648<=2^s*d)(l:2^s*(d+1)<=4294967296):2^s*Y<4294967296^n/\2147483648*4294967296^(n-1)<=2^s*Y:=by
 obtain⟨b,c⟩:=c;have e:=dp (az Y) (n-1) b;rw[show n-1+1=n by omega,Oy (Qb f),aS,c]at e;have k:=cf ((az Y).take (n-1)) fun x j=>cE Y x (OV j)
 rw[Ox,f,PM (by omega)]at k;have m:4294967296^n=4294967296^(n-1)*4294967296:=by rw[<-OO];congr 1;omega
 generalize 4294967296^(n-1)=P at*;generalize aE ((az Y).take (n-1))=t at*;generalize 2^s=S at*;constructor
 ·have a:S*Y<S*(P*(d+1))\/S=0:=by
   rcases Pg S with h|h
   ·exact .inr h
   left;refine RY ?_ h;rw[OU];omega
  rcases a with a|a
  ·have g:S*(P*(d+1))<=P*4294967296:=by rw[P1];exact PL _ l
   omega
  subst a;omega
 have a:P*2147483648<=P*(S*d):=PL _ i;have g:S*(P*d)<=S*Y:=PL _ (by omega);rw[P1]at g;omega
theorem L1{vs:List Nat}{n V:Nat}(i:1<=n)(c:vs.length=n)(g:Digs vs)(f:aE vs=V)(h:2147483648*4294967296^(n-1)<=V):∀h:n-1<vs.length,2147483648<=vs[n-1]:=fun a=>by
 have e:=dp vs (n-1) a;rw[show n-1+1=n by omega,Oy (Qb c),f]at e;have d:=cf (vs.take (n-1)) (g.take _);rw[Ox,c,PM (by omega)]at d;generalize 4294967296^(n-1)=P at*;generalize aE (vs.take (n-1))=t at*;generalize vs[n-1]=x at*;rcases OS x 2147483648 with b|b
 ·exfalso;have:P*(x+1)<=P*2147483648:=PL _ b;rw[OU]at this;omega
 exact b
theorem Hc{U vs:List Nat}{j n V la:Nat}(r:U.length=la+1)(s:Digs U)(f:vs.length=n)(c:Digs vs)(l:aE vs=V)(u:j+n<=la)(d:aE U<V*4294967296^(j+1)):
  aE U=aE (U.take j)+4294967296^j*aE ((U.drop j).take (n+1))/\aE (U.drop (j+(n+1)))=0/\aE ((U.drop j).take (n+1))<4294967296*V:=by
 have i:=nf U j (by omega);have a:=nf (U.drop j) (n+1) (by rw[OP];omega);rw[List.drop_drop]at a;have b:=cf vs c;rw[f,l]at b;rw[OO]at d;have m:0<4294967296^j:=Pw (by decide);have k:(4294967296:Nat)^(n+1)=4294967296^n*4294967296:=OO ..;generalize o:(4294967296:Nat)^j=P at*;generalize (4294967296:Nat)^n=R at*;rw[k]at a;generalize aE (U.take j)=t at*;generalize aE ((U.drop j).take (n+1))=x at*;generalize aE (U.drop (j+(n+1)))=y at*;generalize aE (U.drop j)=z at*;have p:z<4294967296*V:=by
  rcases OS z (4294967296*V)with g|g
  ·exact g
  exfalso;have q:P*(4294967296*V)<=P*z:=PL _ g;have e:V*(P*4294967296)=P*(4294967296*V):=by rw[P1,OF V]
  omega
 have h:y=0:=by
  refine Sp fun h=>?_
  have:R*4294967296*1<=R*4294967296*y:=PL _ h;omega
 subst h;rw[QN,PI]at a;exact⟨by rw[i,a],Z,by omega⟩
def LdInv(w:World)(gv gu gq n la V Z:Nat)(vs:List Nat)(i:Value)(wr:World):Prop:=
 ∃(k:Nat) (U qs:List Nat),k<=la+1-n/\i=.int .i64 ((k:Int)-1)/\U.length=la+1/\Digs U/\OwnN wr w.heap.size (.slice (some ⟨gu,0,none⟩) (la+1) (la+1)) U/\qs.length=la+1-n-k/\Digs qs/\OwnN wr w.heap.size (.slice (some ⟨gq,0,none⟩) (la+1-n) (la+1-n)) (List.replicate k 0++qs)/\OwnN wr w.heap.size (.slice (some ⟨gv,0,none⟩) n n) vs/\Z=aE qs*4294967296^k*V+aE U/\aE U<V*4294967296^k/\Below w.heap.size w wr
theorem Ka{U a qs:List Nat}{j n V la Z g:Nat}(v:U.length=la+1)(w:j+n<=la)(u:a.length=n+1)(m:Digs U)(h:aE U=aE (U.take j)+4294967296^j*aE ((U.drop j).take (n+1)))(r:aE (U.drop (j+(n+1)))=0)(f:g=aE ((U.drop j).take (n+1))/V)(d:aE a=aE ((U.drop j).take (n+1))%V)(l:0<V)(c:Z=aE qs*4294967296^(j+1)*V+aE U):
  Z=aE (g::qs)*4294967296^j*V+aE (U.take j++(a++U.drop (j+(n+1))))/\aE (U.take j++(a++U.drop (j+(n+1))))<V*4294967296^j:=by
 have p:aE (U.take j++(a++U.drop (j+(n+1))))=aE (U.take j)+4294967296^j*aE a:=by
  rw[fl,fl,r,QN,PI,Ox,PM (by omega)]
 have i:=cf (U.take j) (m.take _);rw[Ox,PM (by omega)]at i;have b:=Qv (aE ((U.drop j).take (n+1))) V;have e:=Pe (aE ((U.drop j).take (n+1))) l;rw[<-f,<-d]at b;rw[<-d]at e;rw[p,aE];rw[OO]at c;generalize (4294967296:Nat)^j=P at*;generalize aE (U.take j)=t at*;generalize aE ((U.drop j).take (n+1))=x at*;generalize aE a=o at*;generalize aE qs=q at*;constructor
 ·rw[c,h,<-b,OU P,Pf,Pf];have s:q*(P*4294967296)*V=4294967296*q*P*V:=by
   congr 1;rw[OF P,<-OL,OF q]
  have k:P*(V*g)=g*P*V:=by rw[OF V,<-OL,OF P]
  rw[s,k];omega
 have:P*(o+1)<=P*V:=PL _ e;rw[OU]at this;rw[OF V];omega
theorem tC{w wr q:World}{s h c n la V Z j g:Nat}{vs U a qs:List Nat}{z i:Int}(hq:c≠h/\c≠s/\s≠h/\w.heap.size<=h/\w.heap.size<=c)(L:j+1<=la+1-n)(t:U.length=la+1)(b:Digs U)(u:vs.length=n)(D:Digs vs)(Q:aE vs=V)(J:0<V)(E:aE U<V*4294967296^(j+1))(r:qs.length=la+1-n-(j+1))(F:Digs qs)
  (x:OwnN wr w.heap.size (.slice (some ⟨c,0,none⟩) (la+1-n) (la+1-n)) (List.replicate (j+1) 0++qs)) (A:OwnN wr w.heap.size (.slice (some ⟨s,0,none⟩) n n) vs) (M:Z=aE qs*4294967296^(j+1)*V+aE U) (H:Below w.heap.size w wr) (f:wr.grownBy q (some h)) (v:OwnN q w.heap.size (.slice (some ⟨h,0,none⟩) (la+1) (la+1)) (U.take j++(a++U.drop (j+(n+1))))) (o:a.length=n+1) (B:Digs a) (G:g=aE ((U.drop j).take (n+1))/V) (hs:aE a=aE ((U.drop j).take (n+1))%V) (T:z=(g:Int)) (K:i=(j:Int)-1):
  LdInv w s h c n la V Z vs (.int .i64 i) (q.setCell ⟨c,j,none⟩ (.int .u32 z)):=by
 subst K;obtain⟨I,S,P,q4,O⟩:=hq;obtain⟨X,R,Y⟩:=Hc t b u D Q (j:=j) (by omega) E;have l:g<4294967296:=by rw[G,Pr J];exact Y
 have m:=jZ q c j (.int .u32 z);have C:Below w.heap.size w q:=H.grown f H.size fun k e=>by injection e with e;omega
 obtain⟨W,N⟩:=Ka t (by omega) o b X R G hs J M;refine⟨j,U.take j++(a++U.drop (j+(n+1))),g::qs,by omega,Zz,by rw[nF (k:=n+1) (by omega) o,t],pq (b.take _) (pq B (b.drop _)),v.keep m (fun e=>I e.symm),by rw[Oi,r];omega,fun d y=>?_,?_,(A.keep f P).keep m (fun e=>S e.symm),W,N,C.setCell (p:=⟨c,j,none⟩) O _⟩
 ·rcases OC.1 y with rfl|y
  ·exact l
  exact F d y
 have:=(x.keep f I).put (i:=j) (by simp[r];omega) z g T;rw[vJ]at this;exact this
theorem Hd{X Y s V R Q:Nat}(h:V=2^s*Y)(b:2^s*X=Q*V+R)(g:R<V):X/Y=Q/\X%Y=R/2^s:=by
 have c:0<2^s:=Pw (by decide);generalize 2^s=S at*;subst h;have d:0<Y:=Pc fun e=>by subst e;omega
 obtain⟨r,rfl⟩:∃r,R=S*r:=by
  have f:S∣Q*(S*Y)+R:=⟨X,b.symm⟩;have j:S∣Q*(S*Y):=⟨Q*Y,P1 ..⟩;exact(Nat.dvd_add_right j).1 f
 have a:r<Y:=Nat.lt_of_mul_lt_mul_left g;have i:X=Q*Y+r:=by
  refine Nat.eq_of_mul_eq_mul_left c ?_;rw[b,OU,P1]
 rw[Q3 _ c,i];refine⟨?_,?_⟩
 ·rw[OF,Nat.mul_add_div d,Qg a];omega
 rw[OF,Sh,OY a]
theorem He{n:Nat}(h:(az n).length-1<(az n).length):(az n)[(az n).length-1]≠0:=fun e=>by
 have a:=dp (az n) _ h;rw[show(az n).length-1+1=(az n).length by omega,Pl,aS,e,QN,PI]at a;have b:=cf ((az n).take ((az n).length-1)) fun x c=>cE n x (OV c)
 rw[Ox,PM (by omega),<-a]at b;have:=bk b;omega
theorem BX{d:Nat}(i:0<d)(h:d<4294967296):∃s:Nat,s<32/\(32-(Lib.bitLen d:Int))=(s:Int)/\2147483648<=2^s*d/\2^s*(d+1)<=4294967296:=by
 obtain⟨f,c,a⟩:=Lib.bitLenAux_bounds 64 d (by omega) (by omega);have g:Lib.bitLen d<=32:=Lib.bitLen_le d 32 (by decide) (by rw[show(2:Nat)^32=4294967296 by decide];exact h);change 1<=Lib.bitLen d at f;change 2^(Lib.bitLen d-1)<=d at c;change d<2^Lib.bitLen d at a;generalize Lib.bitLen d=b at*;refine⟨32-b,by omega,by omega,?_,?_⟩
 ·have e:2^(32-b)*2^(b-1)=2147483648:=by rw[<-PN,show 32-b+(b-1)=31 by omega]
  rw[<-e];exact PL _ c
 have e:2^(32-b)*2^b=4294967296:=by rw[<-PN,show 32-b+b=32 by omega]
 rw[<-e];exact PL _ a
theorem Hf{X V s n la:Nat}(i:s<32)(f:X<4294967296^la)(j:1<=n)(a:n<=la)(d:2147483648*4294967296^(n-1)<=V):2^s*X<V*4294967296^(la+1-n):=by
 have b:2^s<=2147483648:=by
  have g:(2:Nat)^s<=2^31:=OQ (by decide) (by omega);have c:(2:Nat)^31=2147483648:=by decide
  omega
 have e:2147483648*4294967296^la=2147483648*4294967296^(n-1)*4294967296^(la+1-n):=by rw[OL,<-PN];congr 2;omega
 have g:2^s*X<=2147483648*X:=OT _ b;have c:2147483648*4294967296^(n-1)*4294967296^(la+1-n)<=V*4294967296^(la+1-n):=OT _ d;have h:2147483648*X<2147483648*4294967296^la:=RY f (by decide);omega
def QR(q r:Nat)(W:World)(v:Value):Prop:=∃a b,v=.tuple #[a,b]/\IsD W a q/\IsD W b r
def M1(gq:Nat)(gu:Nat)(la:Nat)(n:Nat)(m:Nat)(s:Nat)(a:Nat)(b:Nat):List (Value->World->Prop):=[
 fun r _=>r=.slice (some ⟨gq,0,none⟩) m m,
 fun r W=>IsD W r a,
 fun r _=>r=.slice (some ⟨gu,0,none⟩) (la+1) (la+1),
 fun r _=>r=.int .i64 (n:Int),
 fun r _=>r=.slice (some ⟨gu,0,none⟩) n (la+1),
 fun r _=>r=.int .u64 (s:Int),
 fun r W=>IsD W r b,
 fun r W=>IsD W r a,
 fun r W=>IsD W r b]
theorem EN(d:Nat)(f:Nat)(la:Nat)(n:Nat)(m:Nat)(s:Nat)(a:Nat)(b:Nat)(e:World):Stab e (M1 d f la n m s a b):=
 .eq<|.cons (fun _ _ _ _ h c=>IsD.below h c)<|.eq<|.eq<|.eq<|.eq<|.cons (fun _ _ _ _ h c=>IsD.below h c)<|.cons (fun _ _ _ _ h c=>IsD.below h c)<|.cons (fun _ _ _ _ h c=>IsD.below h c)<|.nil
theorem M2{u v:Value}{X Y:Nat}{w:World}(hu:IsD w u X)(hv:IsD w v Y)(z9:(az X).length<=1048576)(h2:2<=(az Y).length)(x2:Y<=X):Calls Tryz.prog 245 #[u,v] w (gU (QR (X/Y) (X%Y)) w):=by
 obtain⟨A,ca,f,rfl,k3,g0⟩:=hu.open_;obtain⟨B,cb,a,rfl,u3,Q⟩:=hv.open_;have x0:a.length<=f.length:=by rw[g0.out,Q.out];exact bi x2
 have S4:f.length<=1048576:=by rw[g0.out];exact z9
 have x1:2<=a.length:=by rw[Q.out];exact h2
 have k0:=J k3;have h6:=J u3;have HX:Hid (aE f=X):=by rw[g0.out];exact aS X
 have HY:Hid (aE a=Y):=by rw[Q.out];exact aS Y
 clear hu hv k3 u3;obtain⟨b2,o2,rfl,R1,u4⟩:=h6.out.digit (i:=a.length-1) (by omega);have cd:=u4 (a.length-1) (by omega);have f0:=h6.out.lt (i:=a.length-1) (by omega);have s1:0<a[a.length-1]'(by omega):=by
  refine Pc fun e=>?_
  have h7:=Q.out;subst h7;exact He (by omega) e
 obtain⟨d,hd⟩:∃d,a[a.length-1]'(by omega)=d:=⟨_,rfl⟩;rw[hd]at cd f0 s1;obtain⟨s,L,q9,q0,s2⟩:=BX s1 f0;obtain⟨n1,n2⟩:=Hb (Y:=Y) (n:=a.length) (d:=d) (s:=s) (by omega) (by rw[<-Q.out]) (by
  have h7:=Q.out;subst h7;exact⟨by omega,hd⟩) q0 s2
 have HL:=J (fun w=>Tryz.bits_LeadingZeros32 (d:Int) w (by omega) (by omega));simp only[QI,q9]at HL;have g4:=J n1;have f3:=J n2;have g1:(0:Int)<=(a.length:Int)-1:=by omega
 have g2:((a.length:Int)-1).toNat=a.length-1:=by omega
 clear u4 hd q0 s2 n1 n2 q9
 go_enter Tryz.func245,Tryz.ntmps245
 go_wp2_with fail
 refine(HL.out _).mono ?_;rintro e w0 ⟨rfl,rfl⟩;have t1:=J (DH _ cb a s a.length w0 h6.out (by omega) L (.inl Z))
 go_wp2_with fail
 refine t1.out.mono ?_;rintro e x ⟨vs,c1,rfl,a0,l5,r1,_,d1,i5⟩;obtain rfl:c1=0:=by
  rcases Pg c1 with h|h
  ·exact h
  exfalso;have h8:=g4.out;rw[<-HY.out,<-d1]at h8;have:1*4294967296^a.length<=c1*4294967296^a.length:=OT _ h;omega
 rw[RK,PI,HY.out]at d1;have v2:w0.heap.size<x.heap.size:=by
  obtain⟨g',m4,e,_,c4,_⟩:=a0.lies (by omega);injection e with e1
  injection e1 with e1
  injection e1 with e1
  omega
 have z4:=J a0;have G:=J l5;have m:=J r1;have D:=J d1;have v6:=J i5;have i4:=J (DH A ca f s (f.length+1) x (k0.out.below i5) (by omega) L (.inr Z));rw[show((f.length+1:Nat):Int)=(f.length:Int)+1 by omega]at i4;clear a0 l5 r1 d1 i5 t1
 go_wp2_with fail
 refine i4.out.mono ?_;rintro e P ⟨us,c2,rfl,R,r3,a1,l0,S,a2⟩;obtain rfl:c2=0:=l0 rfl;rw[RK,PI,HX.out]at S;have S5:x.heap.size<P.heap.size:=by
  obtain⟨g',m4,e,_,c4,_⟩:=R.lies (by omega);injection e with e1
  injection e1 with e1
  injection e1 with e1
  omega
 have t3:=J (z4.out.below a2);have z3:=J (R.base_le (b:=w0.heap.size) (by omega));have v3:=J r3;have z2:=J a1;have q3:=J S;have w7:=J (aF v6.out a2 (by omega));clear R r3 a1 S a2 l0 i4;obtain⟨W,c5,o3,d3,D2⟩:=fd P (f.length+1-a.length) (by omega);have c5:=c5 .i64 .i64;have A3:=J (o3.base_le (b:=w0.heap.size) (by omega));have l4:=J (t3.out.below d3);have n0:=J (z3.out.below d3);have B0:=J (aF w7.out d3 (by omega));have G0:P.heap.size<W.heap.size:=by omega
 clear o3 d3 D2;rw[show((f.length+1-a.length:Nat):Int)=(f.length:Int)-(a.length:Int)+1 by omega]at c5;have z0:=J (Hf (X:=X) (V:=2^s*Y) (n:=a.length) (la:=f.length) L (by have:=cf f k0.out.ok;rwa[HX.out]at this) (by omega) x0 f3.out)
 go_wp2
 clear c5
 go_loopw [10] (fun i wr=>LdInv w0 w0.heap.size x.heap.size P.heap.size a.length f.length (2^s*Y) (2^s*X) vs i wr) (fun i _=>(intOf i+1).toNat)
 case atStart=>exact⟨f.length+1-a.length,us,[],Oh _,GX (by omega),z2.out,v3.out,n0.out,by simp,fun d hd=>(by cases hd),by rw[O5];exact A3.out,l4.out,by rw[q3.out];simp[aE],by rw[q3.out];exact z0.out,B0.out⟩
 case round=>
  obtain⟨k,U,qs,hk,rfl,m2,l7,q8,q7,v1,O,a0,hZ,c4,k4⟩:=hrel;have c:=J m2;have o:=J l7;have a4:=J q8;have p:=J q7;have a9:=J v1;have e0:=J O;have f2:=J a0;have g3:=J hZ;have K:=J c4;have d0:=J k4;clear m2 l7 q8 q7 v1 O a0 hZ c4 k4;cases k with
  |zero=>
   have hZ:=g3.out;rw[QO,Qc]at hZ;have hR:=K.out;rw[QO,Qc]at hR;obtain⟨q1,q2⟩:=Hd (X:=X) (Y:=Y) (s:=s) rfl hZ hR;have O:=e0.out;rw[P3,Py]at O;obtain⟨i1,i2⟩:=O.isN a9.out;have A1:=J (fun(W':World) (hw:Below wr.heap.size wr W')=>pr (N:=X/Y) (i1.below hw) i2 (by rw[p.out];omega) q1.symm);have a1:(U.take a.length).length=a.length:=by rw[Ox,c.out];omega
   have S:aE (U.take a.length)=aE U:=by
    have h1:=nf U a.length (by rw[c.out];omega);have h2:aE (U.drop a.length)=0:=by
     have h3:=g4.out;have h4:aE U<4294967296^a.length:=by omega
     refine Sp fun hp=>?_
     have:4294967296^a.length*1<=4294967296^a.length*aE (U.drop a.length):=PL _ hp;omega
    rw[h2,QN,PI]at h1;exact h1.symm
   have b4:=a4.out.win o.out 0 a.length (f.length+1) (by rw[c.out];omega) (by omega) (by omega);rw[PQ]at b4;have y9:=J (fun(W':World) (hw:Below wr.heap.size wr W')=>by
    have h1:=J7 (some ⟨x.heap.size,0,none⟩) (f.length+1) (U.take a.length) s W' (b4.below hw) (by omega) L;rw[a1,S,<-q2]at h1;exact h1)
   have S2:(0:Int)<=(a.length:Int):=by omega
   have S0:(a.length:Int)<=(f.length:Int)+1:=by omega
   clear hZ hR q1 q2 O i1 i2 a1 S b4
   go_wp2
   refine rS [some 80,some 81,some 82,some 83,some 84,some 85,some 86,some 4,some 5] (M1 P.heap.size x.heap.size f.length a.length ((f.length+1-a.length)) s ((X/Y)) ((X%Y))) (by kernel_rfl) (by kernel_rfl) (by rfl) (by rfl) (EN P.heap.size x.heap.size f.length a.length ((f.length+1-a.length)) s ((X/Y)) ((X%Y)) _) ?_ ?_
   ·refine Steps.cons trivial (fun T W l=>?_) ?_
    ·have e4:T 4=.slice (some ⟨P.heap.size,0,none⟩) ((f.length+1-a.length)) ((f.length+1-a.length)):=l.old 1 7 4 (by kernel_rfl);have t:=l.wi;clear l;refine aB (v:=.slice (some ⟨P.heap.size,0,none⟩) ((f.length+1-a.length)) ((f.length+1-a.length))) (W':=W) ?_ ⟨Z,Below.refl _ _⟩;simp only[execOp,dm,e4];go_simp
    refine Steps.cons trivial (fun T W l=>?_) ?_
    ·have A4:T 80=.slice (some ⟨P.heap.size,0,none⟩) ((f.length+1-a.length)) ((f.length+1-a.length)):=l.fact 1 0 80 (by kernel_rfl);have t:=l.wi;clear l;refine cP ?_ (((A1.out W t)).mono fun e W' h=>h);simp only[execOp,resolve,invoke,Qn,Pt,QM,dm,A4];go_simp
    refine Steps.cons trivial (fun T W l=>?_) ?_
    ·have e9:T 9=.slice (some ⟨x.heap.size,0,none⟩) (f.length+1) (f.length+1):=l.keep 9 (by rfl);have t:=l.wi;clear l;refine aB (v:=.slice (some ⟨x.heap.size,0,none⟩) (f.length+1) (f.length+1)) (W':=W) ?_ ⟨Z,Below.refl _ _⟩;simp only[execOp,dm,e9];go_simp
    refine Steps.cons trivial (fun T W l=>?_) ?_
    ·have e6:T 6=.int .i64 (a.length:Int):=l.keep 6 (by rfl);have t:=l.wi;clear l;refine aB (v:=.int .i64 (a.length:Int)) (W':=W) ?_ ⟨Z,Below.refl _ _⟩;simp only[execOp,dm,e6];go_simp
    refine Steps.cons trivial (fun T W l=>?_) ?_
    ·have z1:T 82=.slice (some ⟨x.heap.size,0,none⟩) (f.length+1) (f.length+1):=l.fact 1 2 82 (by kernel_rfl);have v8:T 83=.int .i64 (a.length:Int):=l.fact 1 3 83 (by kernel_rfl);have t:=l.wi;clear l;refine aB (v:=.slice (some ⟨x.heap.size,0,none⟩) a.length (f.length+1)) (W':=W) ?_ ⟨Z,Below.refl _ _⟩;simp only[execOp,dm,z1];go_simp;simp only[dm,v8];go_simp
    refine Steps.cons trivial (fun T W l=>?_) ?_
    ·have e7:T 7=.int .u64 (s:Int):=l.keep 7 (by rfl);have t:=l.wi;clear l;refine aB (v:=.int .u64 (s:Int)) (W':=W) ?_ ⟨Z,Below.refl _ _⟩;simp only[execOp,dm,e7];go_simp
    refine Steps.cons trivial (fun T W l=>?_) ?_
    ·have z5:T 84=.slice (some ⟨x.heap.size,0,none⟩) a.length (f.length+1):=l.fact 1 4 84 (by kernel_rfl);have A0:T 85=.int .u64 (s:Int):=l.fact 1 5 85 (by kernel_rfl);have t:=l.wi;clear l;refine cP ?_ (((y9.out W t)).mono fun e W' h=>h);simp only[execOp,resolve,invoke,Qn,Pt,QM,dm,z5,A0];go_simp
    refine Steps.cons trivial (fun T W l=>?_) ?_
    ·have u0:(fun r W=>IsD W r ((X/Y))) (T 81) W:=l.fact 1 1 81 (by kernel_rfl);simp only at u0;have t:=l.wi;clear l;exact aB (v:=T 81) (W':=W) (by simp only[execOp,dm];go_simp) ⟨u0,Below.refl _ _⟩
    refine Steps.cons trivial (fun T W l=>?_) ?_
    ·have t7:(fun r W=>IsD W r ((X%Y))) (T 86) W:=l.fact 1 6 86 (by kernel_rfl);simp only at t7;have t:=l.wi;clear l;exact aB (v:=T 86) (W':=W) (by simp only[execOp,dm];go_simp) ⟨t7,Below.refl _ _⟩
    exact Steps.nil
   intro us W1 f1 hF hb;obtain⟨y0,S1,rfl,p4⟩:=ci f1;clear f1;obtain⟨y1,I0,rfl,q5⟩:=ci p4;clear p4;obtain⟨y2,H6,rfl,q4⟩:=ci q5;clear q5;obtain⟨y3,S3,rfl,o1⟩:=ci q4;clear q4;obtain⟨y4,S9,rfl,l3⟩:=ci o1;clear o1;obtain⟨y5,G2,rfl,s4⟩:=ci l3;clear l3;obtain⟨y6,G1,rfl,u2⟩:=ci s4;clear s4;obtain⟨y7,G3,rfl,t5⟩:=ci u2;clear u2;obtain⟨y8,S8,rfl,l6⟩:=ci t5;clear t5;obtain rfl:=C8 l6;clear l6;have f7:(fun r W=>IsD W r ((X/Y))) y7 W1:=hF 7 (by decide);have f8:(fun r W=>IsD W r ((X%Y))) y8 W1:=hF 8 (by decide);clear hF;simp only[cM,PW,SM,RZ,Q5,Qe];have F7:IsD W1 y7 (X/Y):=f7;have F8:IsD W1 y8 (X%Y):=f8;have v4:=J F7;have w6:=J F8;have v5:=J (aF d0.out hb d0.out.size);clear f7 f8 F7 F8 hb
   go_wp2
   go_ret2
   exact⟨_,Z,⟨_,_,Z,v4.out,w6.out⟩,v5.out⟩
  |succ j=>
   rw[show((j+1:Nat):Int)-1=(j:Int) by omega];obtain⟨C2,A2,m3⟩:=Hc c.out o.out m.out G.out D.out (j:=j) (by omega) K.out;have f9:((U.drop j).take (a.length+1)).length=a.length+1:=by rw[Ox,OP,c.out];omega
   have hG:Guess ((U.drop j).take (a.length+1)) vs a.length:=⟨x1,f9,m.out,(o.out.drop j).take _,G.out,L1 (by omega) m.out G.out D.out f3.out,by rw[D.out];exact m3⟩;have h5:=EM (some ⟨x.heap.size,j,none⟩) (some ⟨w0.heap.size,0,none⟩) (f.length+1-j) a.length ((U.drop j).take (a.length+1)) vs a.length wr (a4.out.win o.out j (a.length+1) _ (by rw[c.out];omega) (by omega) (by omega)) (by have:=f2.out.win G.out 0 a.length a.length (by rw[m.out];omega) (by omega) (by omega);rw[PQ,Oy (Qb m.out)]at this;exact this) hG (by omega);rw[f9,m.out,D.out]at h5;have r0:=J h5;clear h5 hG f9 C2 A2 m3;have p1:(0:Int)<=(j:Int):=by omega
   have p2:(j:Int)<=(j:Int)+(a.length:Int)+1:=by omega
   have p3:(j:Int)+(a.length:Int)+1<=(f.length:Int)+1:=by omega
   go_wp2_with fail
   rw[show j+a.length+1-j=a.length+1 by omega];refine r0.out.mono ?_;rintro e w3 ⟨g,rfl,l8,t8,v9,gb⟩;have d2:=J (And.intro l8 t8);have r2:=J (show OwnN w3 w0.heap.size (.slice (some ⟨x.heap.size,0,none⟩) U.length (f.length+1)) U by rw[c.out];exact a4.out.below gb);have M:=J (e0.out.below gb);have b5:=J (f2.out.below gb);have s5:=J (aF d0.out gb d0.out.size);have c9:0<2^s*Y:=Oz (QZ (by decide) (Pw (by decide))) f3.out;have u1:=J (show IsN w3 (some ⟨w0.heap.size,0,none⟩) a.length vs by have:=b5.out.win G.out 0 a.length a.length (by rw[m.out];omega) (by omega) (by omega);rw[PQ,Oy (Qb m.out)]at this;exact this);have h0:=G9 x.heap.size (f.length+1) w0.heap.size j a.length g (f.length+1-j) a.length (some ⟨w0.heap.size,0,none⟩) U vs w3 r2.out o.out u1.out (fun b off e=>by injection e with e;injection e with e;omega) m.out (by rw[c.out];omega) (by omega) v9 (by omega) (by rw[c.out];omega);rw[m.out]at h0;have m1:=J h0;have p0:P.heap.size≠x.heap.size/\P.heap.size≠w0.heap.size/\w0.heap.size≠x.heap.size/\w0.heap.size<=x.heap.size/\w0.heap.size<=P.heap.size:=⟨by omega,by omega,by omega,by omega,by omega⟩;have k5:P.heap.size≠x.heap.size:=by omega
   clear l8 t8 gb r0 h0
   go_wp2_with fail
   rw[show j+a.length+1-j=a.length+1 by omega];refine m1.out.mono ?_;rintro e w4 ⟨bb,y,rfl,t9,u8,R,F,s3⟩;rw[D.out]at F;have C:=J t9;have d4:=J u8;have c3:=J s3;have b1:=J R;rw[c.out]at b1;clear t9 u8 R s3 m1;cases bb with
   |false=>
    rw[if_neg Pd,PI]at F;obtain⟨k1,k2⟩:=EI c9 d2.out.1 d2.out.2 F;have K1:=J k1;have K2:=J k2;clear F k1 k2;have H:=M.out.keep c3.out k5;have w8:=H.free j;have i9:=H.cell (i:=j) (by have:=p.out;simp;omega);obtain⟨old,E⟩:∃old,(List.replicate (j+1) 0++qs)[j]'(by have:=p.out;simp;omega)=old:=⟨_,rfl⟩;rw[E]at i9;have i0:=J (fun z i hz hi=>tC (z:=z) (i:=i) (g:=g) p0 hk c.out o.out m.out G.out D.out c9 K.out p.out a9.out M.out b5.out g3.out s5.out c3.out b1.out C.out d4.out K1.out K2.out hz hi);clear H E
    go_wp2
    go_roundw
    case rel=>exact i0.out _ _ (by first|rfl|omega) (by omega)
    case measure=>simp[intOf]
   |true=>
    rw[if_pos Z]at F;have b3:(U.take j++(y++U.drop (j+(a.length+1)))).length=f.length+1:=by rw[nF (k:=a.length+1) (by rw[c.out];omega) C.out,c.out]
    have I:(U.take j).length=j:=by rw[Ox,c.out];omega
    have t2:Digs (U.take j++(y++U.drop (j+(a.length+1)))):=pq (o.out.take _) (pq d4.out (o.out.drop _));have f6:=Ha x.heap.size (f.length+1) w0.heap.size j a.length (f.length+1-j) a.length (some ⟨w0.heap.size,0,none⟩) (U.take j++(y++U.drop (j+(a.length+1)))) vs w4 (by rw[b3];exact b1.out) t2 (u1.out.grown c3.out fun b off e=>by injection e with e;injection e with e;omega) (fun b off e=>by injection e with e;injection e with e;omega) m.out (by rw[b3];omega) (by omega) (by omega) (by rw[b3];omega);rw[m.out]at f6;have t4:=J f6;have r4:=J F;have D1:=J b3;have v2:1<=g:=by
     refine Pc fun e=>?_
     have h8:=r4.out;rw[e,RK,PI]at h8;have h9:=cf y d4.out;rw[C.out]at h9;omega
    have S7:IntKind.u64.wrap ((g:Int)-1)=((g-1:Nat):Int):=by rw[IntKind.wrap_u64];omega
    have E0:g-1<4294967296:=by omega
    clear F b3 t2 f6 I
    go_wp2_with fail
    rw[show j+a.length+1-j=a.length+1 by omega];refine t4.out.mono ?_;rintro e w5 ⟨t0,q,rfl,c0,a5,b0,a3,e5⟩;have I:(U.take j).length=j:=by rw[Ox,c.out];omega
    have e1:((U.take j++(y++U.drop (j+(a.length+1)))).drop j).take (a.length+1)=y:=by
     rw[R8,Ov (by omega),I,Pb,PQ,Py,Rk,C.out,Pb,Ri,O5,Oy (by rw[C.out];omega)]
    have e2:(U.take j++(y++U.drop (j+(a.length+1)))).take j=U.take j:=by
     rw[Rk,I,Pb,Ri,O5,Oy (by omega)]
    have e3:(U.take j++(y++U.drop (j+(a.length+1)))).drop (j+(a.length+1))=U.drop (j+(a.length+1)):=by
     rw[<-O0,R8,Ov (by rw[Oj,I,C.out];omega),Oj,I,C.out,Pb,PQ,Py]
    rw[e1,D.out]at a3;rw[e2,e3,D1.out]at b0;have v0:2^s*Y<=4294967296^(a.length+1):=by
     have:=g4.out;rw[OO];omega
    have l1:=cf y d4.out;rw[C.out]at l1;have l2:=cf t0 a5;rw[c0]at l2;obtain⟨k1,k2⟩:=EJ c9 v0 d2.out.1 d2.out.2 l1 r4.out l2 a3;have K1:=J (show g-1=aE ((U.drop j).take (a.length+1))/(2^s*Y) by omega);have K2:=J k2;have l9:=J c0;have q6:=J a5;have e8:=J (c3.out.trans e5);have i3:=J b0;clear I e1 e2 e3 a3 b0 v0 l1 l2 k1 k2 c0 a5 e5 t4;have H:=M.out.keep e8.out k5;have w8:=H.free j;have i9:=H.cell (i:=j) (by have:=p.out;simp;omega);obtain⟨old,E⟩:∃old,(List.replicate (j+1) 0++qs)[j]'(by have:=p.out;simp;omega)=old:=⟨_,rfl⟩;rw[E]at i9;have i0:=J (fun z i hz hi=>tC (z:=z) (i:=i) (g:=g-1) p0 hk c.out o.out m.out G.out D.out c9 K.out p.out a9.out M.out b5.out g3.out s5.out e8.out i3.out l9.out q6.out K1.out K2.out hz hi);clear H E
    go_wp2
    go_roundw
    case rel=>exact i0.out _ _ (by first|rfl|omega) (by omega)
    case measure=>simp[intOf]
def DdInv(W0:World)(ds:List Nat)(d:Nat)(r i:Value)(wr:World):Prop:=
 ∃(k rs:Nat) (qs:List Nat),k<=ds.length/\i=.int .i64 ((k:Int)-1)/\r=.int .u64 rs/\rs<d/\qs.length=ds.length-k/\Digs qs/\OwnN wr W0.heap.size (.slice (some ⟨W0.heap.size,0,none⟩) ds.length ds.length) (List.replicate k 0++qs)/\aE (ds.drop k)=d*aE qs+rs/\Below W0.heap.size W0 wr/\W0.heap.size<wr.heap.size
theorem Kb{a qs:List Nat}{k d rs x:Nat}(b:k<a.length)(f:a[k]=x)(c:aE (a.drop (k+1))=d*aE qs+rs):
  aE (a.drop k)=d*aE ((rs*4294967296+x)/d::qs)+(rs*4294967296+x)%d:=by
 rw[GV a k b,f,c,aE];have h:=Qv (rs*4294967296+x) d;have e:d*((rs*4294967296+x)/d+4294967296*aE qs)=d*((rs*4294967296+x)/d)+4294967296*(d*aE qs):=by rw[OU,P1 d]
 rw[e];omega
theorem Hg(n:Nat)(h:n<4294967296):IntKind.u64.wrap (n:Int)%4294967296=n:=by rw[IntKind.wrap_u64];omega
theorem Lh{rs d x:Nat}(h:rs<d)(a:x<4294967296):(rs*4294967296+x)/d<4294967296:=by
 rw[Pr (by omega)];have:(rs+1)*4294967296<=d*4294967296:=OT _ h;rw[OF 4294967296 d];omega
theorem BY{a wr:World}{b qs:List Nat}{d k rs x:Nat}{z q i:Int}(r:k<b.length)(s:b[k]=x)(c:x<4294967296)(t:rs<d)(g:qs.length=b.length-(k+1))(w:Digs qs)(l:OwnN wr a.heap.size (.slice (some ⟨a.heap.size,0,none⟩) b.length b.length) (List.replicate (k+1) 0++qs))(m:aE (b.drop (k+1))=d*aE qs+rs)(o:Below a.heap.size a wr)(u:a.heap.size<wr.heap.size)
  (n:z=(((rs*4294967296+x)/d:Nat):Int)) (f:q=(((rs*4294967296+x)%d:Nat):Int)) (j:i=(k:Int)-1):DdInv a b d (.int .u64 q) (.int .i64 i) (wr.setCell ⟨a.heap.size,k,none⟩ (.int .u32 z)):=by
 subst f j;refine⟨k,_,(rs*4294967296+x)/d::qs,by omega,Z,Z,Pe _ (by omega),by simp[g];omega,fun e v=>?_,?_,Kb r s m,o.setCell (p:=⟨a.heap.size,k,none⟩) (Oh _) _,by simpa[World.setCell]using u⟩
 ·rcases OC.1 v with rfl|h
  ·exact Lh t c
  exact w e h
 have:=l.put (i:=k) (by simp[g];omega) z _ n;rw[vJ]at this;exact this
def QD(n d:Nat)(W:World)(v:Value):Prop:=∃a,v=.tuple #[a,.int .u32 ((n%d:Nat):Int)]/\IsD W a (n/d)
theorem xQ(A:Option Addr)(c:Nat)(g:List Nat)(d:Nat)(w:World)(h:IsN w A c g)(hl:g.length<=1048576)(B:0<d)(a1:d<4294967296):
  Calls Tryz.prog 173 #[.slice A g.length c,.int .u32 d] w (gU (QD (aE g) d) w):=by
 have HI:=J h;clear h;have a2:((d:Int)==0)=false:=by rw[beq_eq_false_iff_ne];omega
 obtain⟨W,q,y,H,a0⟩:=fd w g.length (by omega);have q:=q .i64 .i64;have R:=J y;have V:=J H;have u:w.heap.size<W.heap.size:=by omega
 clear y H a0
 go_enter Tryz.func173,Tryz.ntmps173
 go_wp2
 clear q
 go_loopw [7,8] (fun r i wr=>DdInv w g d r i wr) (fun _ i _=>(intOf i+1).toNat)
 case atStart=>exact⟨g.length,0,[],Oh _,Z,Z,B,by simp,fun d B=>by simp at B,by simpa using R.out,by simp[aE],V.out,u⟩
 case round=>
  obtain⟨k,rs,qs,hk,rfl,rfl,M,G,L,j,z,F,Q⟩:=hrel;have l:=J j;have HQ:=J z;have f:=J F;have K:=J G;have D:=J L;clear j z F G L;cases k with
  |zero=>
   have j:OwnN wr w.heap.size (.slice (some ⟨w.heap.size,0,none⟩) g.length g.length) qs:=by have:=l.out;rwa[P3,Py]at this
   obtain⟨h4,h5⟩:=j.isN D.out;have X:=HQ.out;rw[PQ]at X;have T:aE qs=aE g/d/\aE g%d=rs:=by
    rw[X];exact⟨by rw[Nat.mul_add_div B,Qg M];omega,by rw[Sh,OY M]⟩
   have HT:=J (pr h4 h5 (by have:=K.out;omega) T.1);have HR:=J T.2;clear j h4 h5 X T;have n:rs<4294967296:=by omega
   go_wp2_with fail
   refine HT.out.mono ?_;rintro e w5 ⟨v5,rfl,I,s⟩;have U:=J I;have N:=J (aF f.out s f.out.size);clear I s
   go_wp2
   go_ret2
   exact⟨_,Z,⟨_,by rw[HR.out];rfl,U.out⟩,N.out⟩
  |succ k=>
   rw[show((k+1:Nat):Int)-1=(k:Int) by omega];have m:k<g.length:=by omega
   obtain⟨b,off,rfl,hb,hc⟩:=(HI.out.below f.out).digit m;have cx:=hc k m;have a:=HI.out.lt m;obtain⟨x,O⟩:∃x,g[k]=x:=⟨_,rfl⟩;rw[O]at cx a;have HX:=J O;have a3:=l.out.free k;have Y:=l.out.cell (i:=k) (by simp;omega);obtain⟨old,p⟩:∃old,(List.replicate (k+1) 0++qs)[k]'(by simp;omega)=old:=⟨_,rfl⟩;rw[p]at Y;have C:=DD rs x (by omega) a;rw[show(((rs*4294967296:Nat)):Int)=(rs:Int)*4294967296 by omega]at C;have v:rs*4294967296+x<18446744073709551616:=by omega
   have o:=Lh M a;have n:(rs*4294967296+x)%d<d:=Pe _ B;obtain⟨t,P⟩:∃t,rs*4294967296+x=t:=⟨_,rfl⟩;rw[P]at C v o n;have E:=J P;have e2:((t:Int)%(d:Int))=((t%d:Nat):Int):=by omega
   have S:=J e2;clear hc O p P e2
   go_wp2
   go_roundw
   case rel=>exact BY m HX.out a M K.out D.out l.out HQ.out f.out Q (by rw[E.out];exact Hg _ o) (by rw[E.out];first|exact S.out|omega) (by omega)
   case measure=>simp[intOf]
theorem vM{v:Value}{n d:Nat}{w:World}(h:IsD w v n)(b:(az n).length<=1048576)(f:0<d)(a:d<4294967296):Calls Tryz.prog 173 #[v,.int .u32 d] w (gU (QD n d) w):=by
 obtain⟨A,c,rfl,e⟩:=h;have:=xQ A c (az n) d w e b f a;rwa[aS]at this
def Oc(X Y:Nat)(W:World)(r:Value):Prop:=∃a b,r=.tuple #[a,b,.bool true]/\IsD W a (X/Y)/\IsD W b (X%Y)
theorem IsD.zero(W:World):IsD W (.slice none 0 0) 0:=⟨none,0,Z,At.nil _ _ _,fun _=>⟨Z,Z⟩,Oh _,by omega,fun _ h=>by cases h⟩
theorem zo{n:Nat}(h:(az n).length=1):0<n/\n<4294967296/\az n=[n]:=by
 have c:n≠0:=fun e=>by rw[e,f4]at h;simp at h
 have b:=eO c;have a:az (n/4294967296)=[]:=OB (by rw[b]at h;simpa using h);have d:=yZ.1 a;exact⟨by omega,by omega,by rw[b,a,OY (by omega)]⟩
theorem DK{u v:Value}{X Y:Nat}{w:World}(hu:IsD w u X)(hv:IsD w v Y)(b5:(az X).length<=1048576)(b4:(az Y).length<=1048576)(hY:0<Y):Calls Tryz.prog 210 #[u,v] w (gU (Oc X Y) w):=by
 have HC:=J (li hu (by omega));have HV:=J hv;obtain⟨A0,c0,rfl,_⟩:=hu;obtain⟨B0,e0,rfl,_⟩:=hv
 go_enter Tryz.func210,Tryz.ntmps210
 go_wp2_with fail
 refine HC.out.mono ?_;rintro e w1 ⟨v1,rfl,Q,D⟩;obtain⟨A1,c1,dx,rfl,E,l⟩:=Q.open_;have G:=J E;have F:=J D;have P:=J l.out;have K:=D.size;clear Q E D l HC;have T:=J (li (HV.out.below F.out) (by omega))
 go_wp2_with fail
 refine T.out.mono ?_;rintro e w2 ⟨v2,rfl,a0,p⟩;obtain⟨A2,c2,y,rfl,W,l⟩:=a0.open_;have q:=J W;have x:=J (G.out.below p);have a5:=J (aF F.out p K);have g:=J l.out;have R:w.heap.size<=w2.heap.size:=Oq K p.size;clear a0 W p l T G;have b3:0<y.length:=by
  rcases Pg y.length with h|h
  ·rw[g.out]at h;have:=b6.1 h;omega
  exact h
 have g1:((y.length:Int)==0)=false:=by rw[beq_eq_false_iff_ne];omega
 have c:(fz (X:Int) (Y:Int)<0)↔X<Y:=by
  rcases Rf X Y with h|h|h
  ·rw[ku h];omega
  ·rw[mb h];omega
  rw[jv h];omega
 have B:=J (GY (x.out.isD P.out) (q.out.isD g.out) (by omega) (by omega));obtain⟨cm,V⟩:∃cm,fz (X:Int) (Y:Int)=cm:=⟨_,rfl⟩;rw[V]at B c;clear V
 go_wp2_with fail
 refine B.out.mono ?_;rintro e w3 ⟨v3,rfl,a4,j⟩;obtain rfl:=a4;have C:=J ((x.out.isD P.out).below j);have b2:=J ((q.out.isD g.out).below j);have O:=J (q.out.below j);have A:=J (aF a5.out j R);have r:w.heap.size<=w3.heap.size:=Oq R j.size;clear j B x q;by_cases f:X<Y
 ·have b1:cm<0:=c.2 f;clear c;have HN:=J (DC C.out (by omega))
  go_wp2_with fail
  refine HN.out.mono ?_;rintro e w4 ⟨v4,rfl,d,a⟩;have k:=J d;have o:=J (aF A.out a r);clear d a
  go_wp2
  go_ret3
  exact⟨_,Z,⟨_,_,Z,by rw[Qg f];exact IsD.zero _,by rw[OY f];exact k.out⟩,o.out⟩
 have b1:¬cm<0:=fun h=>f (c.1 h)
 have b0:Y<=X:=by omega
 clear c;by_cases h1:y.length=1
 ·have g2:((y.length:Int)==1)=true:=by rw[beq_iff_eq];omega
  obtain⟨I,s,L⟩:=zo (n:=Y) (by rw[<-g.out];exact h1);have t:y=[Y]:=by rw[g.out,L]
  obtain⟨b,off,rfl,hb,hc⟩:=O.out.digit (i:=0) (by omega);have c0:=hc 0 (by omega);simp only[t,Rb,PI]at c0;clear hc L t;have U:=J (vM C.out (by omega) I s);have H:X%Y<4294967296:=Nat.lt_trans (Pe _ I) s;obtain⟨m,hm⟩:∃m,X%Y=m:=⟨_,rfl⟩;have HM:=J hm;rw[hm]at H;unfold QD at U;rw[hm]at U;clear hm
  go_wp2_with fail
  refine U.out.mono ?_;rintro e w4 ⟨v4,rfl,⟨q4,rfl,d⟩,a⟩;have k:=J d;have o:=J (aF A.out a r);have a2:w.heap.size<=w4.heap.size:=Oq r a.size;clear d a;have HF:=J (qR m w4 (by omega))
  go_wp2_with fail
  refine HF.out.mono ?_;rintro e w5 ⟨v5,rfl,M,z⟩;have a1:=J M;have S:=J (k.out.below z);have a9:=J (aF o.out z a2);clear M z
  go_wp2
  go_ret3
  exact⟨_,Z,⟨_,_,Z,S.out,by rw[HM.out];exact a1.out⟩,a9.out⟩
 have g2:((y.length:Int)==1)=false:=by rw[beq_eq_false_iff_ne];omega
 have U:=J (M2 C.out b2.out (by omega) (by rw[<-g.out];omega) b0)
 go_wp2_with fail
 refine U.out.mono ?_;rintro e w4 ⟨v4,rfl,⟨q4,r4,rfl,d,N⟩,a⟩;have k:=J d;have a3:=J N;have o:=J (aF A.out a r);clear d N a
 go_wp2
 go_ret3
 exact⟨_,Z,⟨_,_,Z,k.out,a3.out⟩,o.out⟩
def N0(w:World)(G M:Nat)(x y:Value)(wr:World):Prop:=∃a b:Nat,IsD wr x a/\IsD wr y b/\a<=M/\b<=M/\Nat.gcd a b=G/\Below w.heap.size w wr
theorem IsD.num{W:World}{v:Value}{n:Nat}(h:IsD W v n):rx v W=n:=by
 obtain⟨A,c,rfl,g⟩:=h;have e:=aS n;generalize az n=l at*;cases A with
 |none=>
  have:l=[]:=OB (g.nil Z).1;subst this;exact e
 |some a=>
  rw[<-e];show aE ((List.range l.length).map fun i=>match W.cell? ⟨a.block,a.off+i,none⟩with
   |some (.int _ d)=>d.toNat
   |_=>0)=aE l
  congr 1;apply Rl
  ·simp
  intro j o k;obtain⟨b,off,f,_,m⟩:=g.digit k;injection f with f
  subst f;simp[m j k]
theorem M3{u v:Value}{X Y:Nat}{w:World}(hu:IsD w u X)(hv:IsD w v Y)(a1:(az X).length<=1048576)(Q:(az Y).length<=1048576):Calls Tryz.prog 209 #[u,v] w (gU (fun W r=>IsD W r (Nat.gcd X Y)) w):=by
 have HC:=J (DC hu (by omega));have HV:=J hv;have z:Hid (∀n,n<=max X Y->(az n).length<=1048576):=fun n hn=>by
  rcases Nat.le_total X Y with h|h
  ·exact Oq (bi (by omega)) Q
  exact Oq (bi (by omega)) a1
 obtain⟨A0,c0,rfl,_⟩:=hu;obtain⟨B0,e0,rfl,_⟩:=hv
 go_enter Tryz.func209,Tryz.ntmps209
 go_wp2_with fail
 refine HC.out.mono ?_;rintro e w1 ⟨v1,rfl,A,s⟩;have a4:=J A;have G:=J s;have C:=s.size;clear A s HC;have H:=J (DC (HV.out.below G.out) (by omega))
 go_wp2_with fail
 refine H.out.mono ?_;rintro e w2 ⟨v2,rfl,K,k⟩;have a5:=J K;have B:=J (a4.out.below k);have a2:=J (aF G.out k C);have b0:w.heap.size<=w2.heap.size:=Oq C k.size;clear K k H
 go_wp2
 go_loopw [5,6] (fun x y wr=>N0 w (Nat.gcd X Y) (max X Y) x y wr) (fun _ y wr=>rx y wr)
 case atStart=>exact⟨X,Y,B.out,a5.out,by omega,by omega,Z,a2.out⟩
 case round=>
  obtain⟨a,b,P,L,ha,U,hg,p⟩:=hrel;have HX:=J P;have N:=J L;have M:=J hg;have l:=J p;have m:=p.size;have E:=J L.num;obtain⟨Ax,cx,dx,rfl,S,a0⟩:=P.open_;obtain⟨Ay,cy,T,rfl,a9,o⟩:=L.open_;clear P L hg p S a9;by_cases h0:0<T.length
  ·have f:0<b:=by
    rcases Pg b with h|h
    ·rw[o.out,h,f4]at h0;simp at h0
    exact h
   by_cases O:dx.length<=2/\T.length<=2
   ·obtain⟨O,h2⟩:=O;have V:(4294967296^2:Nat)=18446744073709551616:=by decide
    have I:a<18446744073709551616:=by
     have:=cf (az a) (cE a);rw[aS,<-a0.out]at this;exact Oz this (by rw[<-V];exact OQ (by decide) O)
    have F:b<18446744073709551616:=by
     have:=cf (az b) (cE b);rw[aS,<-o.out]at this;exact Oz this (by rw[<-V];exact OQ (by decide) h2)
    have D:=J (EE HX.out N.out I F);rw[M.out]at D;clear V
    go_wp2_with fail
    refine D.out.mono ?_;rintro e w4 ⟨v4,rfl,d,c⟩;have R:=J d;have j:=J (aF l.out c m);clear d c
    go_wp2
    go_ret
    exact⟨_,Z,R.out,j.out⟩
   have D:=J (DK HX.out N.out (z.out a ha) (z.out b U) f);by_cases h2:dx.length<=2
   ·have h3:¬T.length<=2:=fun h=>O ⟨h2,h⟩
    go_wp2_with fail
    refine D.out.mono ?_;rintro e w4 ⟨v4,rfl,⟨q4,r4,rfl,d,i⟩,c⟩;have g:=J i;have q:=J (N.out.below c);have j:=J (aF l.out c m);clear d i c
    go_wp2
    go_roundw
    case rel=>exact⟨b,a%b,q.out,g.out,U,by have:=Nat.mod_le a b;omega,by rw[<-M.out,QH b,<-Sn,QH],j.out⟩
    case measure=>rw[E.out,g.out.num];exact Pe _ f
   go_wp2_with fail
   refine D.out.mono ?_;rintro e w4 ⟨v4,rfl,⟨q4,r4,rfl,d,i⟩,c⟩;have g:=J i;have q:=J (N.out.below c);have j:=J (aF l.out c m);clear d i c
   go_wp2
   go_roundw
   case rel=>exact⟨b,a%b,q.out,g.out,U,by have:=Nat.mod_le a b;omega,by rw[<-M.out,QH b,<-Sn,QH],j.out⟩
   case measure=>rw[E.out,g.out.num];exact Pe _ f
  have f:b=0:=b6.1 (by rw[<-o.out];omega);have t:Nat.gcd X Y=a:=by rw[<-M.out,f,Rt]
  have a3:=J t;clear t
  go_wp2
  go_ret
  exact⟨_,Z,by rw[a3.out];exact HX.out,l.out⟩
def Od(W:World)(v:Value)(ng:Bool)(N D:Nat):Prop:=∃vn vd,v=.agg #[.bool ng,vn,vd]/\IsD W vn N/\IsD W vd D
def eh(ng:Bool)(N D:Nat):Rat:=mkRat (if ng then-(N:Int)else(N:Int)) D
theorem nh(ng:Bool)(D:Nat):eh ng 0 D=0:=by cases ng<;>simp[eh]
theorem zp(ng:Bool)(N:Nat):eh ng N 0=0:=by simp[eh]
theorem fU(q:Rat):eh (decide (q.num<0)) q.num.natAbs q.den=q:=by
 unfold eh;have:(if decide (q.num<0)=true then-(q.num.natAbs:Int)else(q.num.natAbs:Int))=q.num:=by
  by_cases h:q.num<0
  ·simp only[h,decide_true,if_true];omega
  simp only[h,decide_false];simp;omega
 rw[this];exact Rat.mkRat_self q
theorem qU(ng:Bool){N D:Nat}(n:0<N)(o:0<D):decide ((eh ng N D).num<0)=ng/\(eh ng N D).num.natAbs=N/Nat.gcd N D/\(eh ng N D).den=D/Nat.gcd N D:=by
 have f:D≠0:=by omega
 have e:=Rat.num_mkRat (if ng then-(N:Int)else(N:Int)) D;have d:=Rat.den_mkRat (if ng then-(N:Int)else(N:Int)) D;rw[if_neg f]at e d;have k:(if ng then-(N:Int)else(N:Int)).natAbs=N:=by cases ng<;>simp
 rw[k,QH]at e d;have b:0<Nat.gcd N D:=Rv _ n;obtain⟨m,c⟩:=Nat.gcd_dvd_left N D;obtain⟨g,j⟩:∃g,Nat.gcd N D=g:=⟨_,rfl⟩;rw[j]at e d b c⊢;have l:0<m:=by
  rcases Pg m with h|h
  ·rw[h]at c;simp at c;omega
  exact h
 have a:N/g=m:=by rw[c,Q3 _ b]
 have i:(eh ng N D).num=if ng then-(m:Int)else(m:Int):=by
  unfold eh;rw[e];cases ng
  ·simp only[QB,if_false];rw[<-Sb,a]
  simp only[if_true];rw[c,RL,Int.neg_mul_eq_mul_neg,Int.mul_ediv_cancel_left _ (by omega)]
 refine⟨?_,?_,d⟩
 ·rw[i];cases ng<;>simp<;>omega
 rw[i,a];cases ng<;>simp
theorem nG:∀{n:Nat},n≠0->(az n).getD ((az n).length-1) 0≠0:=by
 intro n;induction n using Nat.strongRecOn with
 |ind n ih=>
  intro h;rw[eO h];by_cases a:n/4294967296=0
  ·rw[a,f4];simp;omega
  have:=ih (n/4294967296) (by omega) a;have c:0<(az (n/4294967296)).length:=by
   rcases Pg (az (n/4294967296)).length with b|b
   ·exact absurd (b6.1 b) a
   exact b
  rw[Oi,show(az (n/4294967296)).length+1-1=(az (n/4294967296)).length-1+1 by omega];simpa[List.getD]using this
theorem j0{n:Nat}:bP n=0↔n=0:=by
 constructor
 ·intro h;rcases Pg n with a|a
  ·exact a
  exfalso;unfold bP at h;rw[if_neg (by omega)]at h;have f:=nG (n:=n) (by omega);have b:(az n).getD ((az n).length-1) 0<2^64:=by
   rw[List.getD];cases c:(az n)[(az n).length-1]? with
   |none=>simp
   |some d=>
    have:=cE n d (Om c);simp;have e:(2:Nat)^64=18446744073709551616:=by decide
    omega
  have:=BP (d:=(az n).getD ((az n).length-1) 0) (by omega) b;omega
 rintro rfl;rfl
structure Fit (L:Nat) (q:Rat):Prop where
 num:(az q.num.natAbs).length<=L
 den:(az q.den).length<=L
end Go.Proofs.YtfoejfohbkmmeaaGreatDoor
