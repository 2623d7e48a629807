import Derived.Test.YtfoejfohbkmmeaaGreatDoorU22
import Derived.Test.YtfoejfohbkmmeaaGreatDoorU00
set_option maxRecDepth 100000
set_option maxHeartbeats 4000000
namespace Go.Proofs.YtfoejfohbkmmeaaGreatDoor
open Go.RowKit
open Lib renaming hid→J
theorem E5{v:Value}{g:Bool}{N D:Nat}{w:World}(h:IsQ w v g N D)(n:(ay N).length<=1048576)(Q:(ay D).length<=1048576):Calls Tryz.prog 107 #[v] w (Gives (fun W r=>IsF W r (cF g N D)) w):=by
 obtain⟨A,c,p,B,d,r,rfl,R,Y,hx,hy⟩:=h.open_;obtain⟨W,hW,b,z,i,q⟩:=pm w 65 65 #[.bool g,.slice A p.length c,.slice B r.length d] #[.bool false,.slice none 0 0,.slice none 0 0];have HW:=J hW;have s:=J b;have f:=J i;have y:=J (R.below b);have C:=J (Y.below b);have P:=b.size;have F:w.heap.size<=w.heap.size+1:=by omega
 clear hW b i z q h R Y
 go_enter Tryz.func107,Tryz.ntmps107
 go_wp2_with fail
 rw[HW.out];refine(jY g y.out C.out n Q).mono ?_;rintro e w1 ⟨v1,rfl,m,a⟩;replace y:=J (y.out.below a);replace C:=J (C.out.below a);replace f:=J (f.out.below a f.out.lt);replace s:=J (ak s.out a P);replace P:=L6 P a.size;clear a;have E:=J m;unfold IsF at m;generalize decide ((cF g N D).num<0)=ng' at*;obtain⟨T,X,l,S,V,k,rfl,t,M,u,G⟩:=IsQ.open_ m;clear m t M u G;obtain⟨L,I,K,f0,f1,f2⟩:=f.out.three
 go_wp2
 clear L I K f0 f1 f2;obtain⟨w9,U,H,x,o,O⟩:=cg f.out (.bool ng') (.slice T l.length X) (.slice S k.length V);first
  |rw[U]
  |(have j:=U;simp only[ne_eq,decide_not]at j;rw[j])
 obtain⟨L,I,K,_,_,_⟩:=H.three;refine bodyPost_ret (v:=.agg #[.bool ng',(.slice T l.length X),(.slice S k.length V)]) (by simp[results,Tryz.results107,go_sem,L,I,K]) Z ⟨_,Z,?_,s.out.trans (x.mono (by have:=F;omega))⟩;exact IsQ.store E.out f.out fc O o
theorem LB{v:Value}{f:Bool}{N D:Nat}{w:World}(h:IsQ w v f N D):Calls Tryz.prog 195 #[v] w (Gives (fun W r=>IsQ W r (!f) N D) w):=by
 obtain⟨A,c,p,B,d,r,rfl,u,y,L,O⟩:=h.open_;obtain⟨W,I,a,g,b,l⟩:=pm w 65 65 #[.bool f,.slice A p.length c,.slice B r.length d] #[.bool false,.slice none 0 0,.slice none 0 0];have M:=J I;have z:=J a;have k:=J b;have E:=J (u.below a);have F:=J (y.below a);have R:=a.size;have n:w.heap.size<=w.heap.size+1:=by omega
 obtain⟨y0,P,Q,_,_,_⟩:=g.three;obtain⟨t,s,q,G,H,C⟩:=b.three;clear a b g l h u y
 go_enter Tryz.func195,Tryz.ntmps195
 go_wp2
 obtain⟨t,s,q,G,H,C⟩:=k.out.three;obtain⟨K,x,o,m,e,i⟩:=cg k.out (.bool (!f)) (.slice A p.length c) (.slice B r.length d);first
  |rw[x]
  |(have j:=x;simp only[ne_eq,decide_not]at j;rw[j])
 obtain⟨t,s,q,_,_,_⟩:=o.three;refine bodyPost_ret (v:=.agg #[.bool (!f),(.slice A p.length c),(.slice B r.length d)]) (by simp[results,Tryz.results195,go_sem,t,s,q]) Z ⟨_,Z,?_,z.out.trans (m.mono (by have:=n;omega))⟩;exact⟨_,_,Z,E.out.store k.out fc i e,F.out.store k.out fc i e⟩
def oH(ng:Bool)(N D:Nat):Int:=if N=0 then 0 else if D=0 then 0 else if ng then-1 else 1
theorem E6{v:Value}{o:Bool}{N D:Nat}{w:World}(h:IsQ w v o N D)(x:(ay N).length<=1048576)(H:(ay D).length<=1048576):Calls Tryz.prog 66 #[v] w (Gives (fun _ r=>r=.int .i64 (oH o N D)) w):=by
 obtain⟨A,c,p,B,d,r,rfl,I,P,hx,hy⟩:=h.open_;obtain⟨W,Q,j,q,y⟩:=lQ w 65 #[.bool o,.slice A p.length c,.slice B r.length d];have K:=J Q;have g:=J j;have f:=J q;have n:=J (I.below j);have l:=J (P.below j);have i:=j.size;clear Q j q y h I P;obtain⟨m,G⟩:∃m,c8 N=m:=⟨_,rfl⟩;obtain⟨k,E⟩:∃k,c8 D=k:=⟨_,rfl⟩;have M:=li G;have L:=li E;have C:=J (oB n.out x);rw[G]at C;have O:Hid (∀w,IsD w (.slice B r.length d) D->Calls Tryz.prog 129 #[.slice B r.length d] w (Gives (fun _ r=>r=.int .i64 k) w)):=fun w h=>by have:=oB h H;rwa[E]at this
 clear G E
 go_enter Tryz.func66,Tryz.ntmps66
 by_cases s:N=0
 ·rw[decide_eq_true s]at M
  go_wp2_with fail
  rw[K.out];refine(C.out).mono ?_;rintro e R ⟨Y,rfl,z,b⟩;replace n:=J (n.out.below b);replace l:=J (l.out.below b);replace f:=J (f.out.below b f.out.lt);replace g:=J (ak g.out b i);replace i:=L6 i b.size;clear b;obtain rfl:=z
  go_wp2
  go_ret
  exact⟨_,Z,by rw[oH,if_pos s];rfl,g.out⟩
 rw[decide_eq_false s]at M
 go_wp2_with fail
 rw[K.out];refine(C.out).mono ?_;rintro e R ⟨Y,rfl,z,b⟩;replace n:=J (n.out.below b);replace l:=J (l.out.below b);replace f:=J (f.out.below b f.out.lt);replace g:=J (ak g.out b i);replace i:=L6 i b.size;clear b;obtain rfl:=z;obtain⟨X,U,V,_,_,_⟩:=f.out.three;by_cases u:D=0
 ·rw[decide_eq_true u]at L
  go_wp2_with fail
  refine(O.out _ l.out).mono ?_;rintro e S ⟨T,rfl,F,a⟩;replace n:=J (n.out.below a);replace l:=J (l.out.below a);replace f:=J (f.out.below a f.out.lt);replace g:=J (ak g.out a i);replace i:=L6 i a.size;clear a;obtain rfl:=F
  go_wp2
  go_ret
  exact⟨_,Z,by rw[oH,if_neg s,if_pos u];rfl,g.out⟩
 rw[decide_eq_false u]at L
 go_wp2_with fail
 refine(O.out _ l.out).mono ?_;rintro e S ⟨T,rfl,F,a⟩;replace n:=J (n.out.below a);replace l:=J (l.out.below a);replace f:=J (f.out.below a f.out.lt);replace g:=J (ak g.out a i);replace i:=L6 i a.size;clear a;obtain rfl:=F;obtain⟨X,U,V,_,_,_⟩:=f.out.three;have t:Hid (oH o N D=if o then-1 else 1):=by rw[oH,if_neg s,if_neg u];rfl
 cases o
 ·go_wp2
  go_ret
  exact⟨_,Z,by rw[t.out];rfl,g.out⟩
 go_wp2
 go_ret
 exact⟨_,Z,by rw[t.out];rfl,g.out⟩
theorem zM(a:Bool){N D X E:Nat}(c:0<D)(d:0<E)(h:X*D=N*E):cF a N D=cF a X E:=by
 unfold cF;rw[Rat.mkRat_eq_iff (by omega) (by omega)];have b:(N:Int)*(E:Int)=(X:Int)*(D:Int):=by rw[<-Pw,<-Pw,h]
 cases a
 ·simpa using b
 simp only[if_true,Qz,b]
theorem jx(a b:Int){d:Nat}(c:0<d):mkRat a d+mkRat b d=mkRat (a+b) d:=by
 rw[Rat.mkRat_add_mkRat _ _ (by omega) (by omega),<-Int.add_mul,Rat.mkRat_mul_right (by omega)]
theorem lj(a:Bool)(X Y:Nat){d:Nat}(b:0<d):cF a X d+cF a Y d=cF a (X+Y) d:=by
 unfold cF;rw[jx _ _ b];congr 1;cases a<;>simp<;>omega
theorem ny{a b:Bool}(h:a≠b){X Y d:Nat}(e:0<d)(c:Y<=X):cF a X d+cF b Y d=cF a (X-Y) d:=by
 unfold cF;rw[jx _ _ e];congr 1;cases a<;>cases b<;>simp at h⊢<;>omega
theorem nA{b a:Bool}(h:b≠a){X Y d:Nat}(e:0<d)(c:X<Y):cF b X d+cF a Y d=cF a (Y-X) d:=by
 unfold cF;rw[jx _ _ e];congr 1;cases b<;>cases a<;>simp at h⊢<;>omega
theorem vV(a b:Nat):(ay (a*b)).length<=(ay a).length+(ay b).length:=by
 have d:=b4 (ay a) (bY a);have c:=b4 (ay b) (bY b);rw[aI]at d c;refine aR ?_;rw[N2];exact PY d c
theorem BQ(a b L:Nat)(d:(ay a).length<=L)(c:(ay b).length<=L):(ay (a+b)).length<=L+1:=by
 have e:=b4 (ay a) (bY a);have f:=b4 (ay b) (bY b);rw[aI]at e f;refine aR ?_;have g:(4294967296:Nat)^(ay a).length<=4294967296^L:=MP (by decide) d;have h:(4294967296:Nat)^(ay b).length<=4294967296^L:=MP (by decide) c;rw[MM];omega
def Ir(g0:Nat)(g1:Nat)(a1:Value)(a2:Value)(b1:Value):List (Value->World->Prop):=[
 fun r _=>r=.pointer (some ⟨g0,1,none⟩),
 fun r _=>r=a1,
 fun r _=>r=.pointer (some ⟨g1,1,none⟩),
 fun r _=>r=b1,
 fun r _=>r=.pointer (some ⟨g0,2,none⟩),
 fun r _=>r=a2,
 fun r _=>r=a1,
 fun r _=>r=b1,
 fun r _=>r=a2]
theorem zN(b:Nat)(d:Nat)(a:Value)(c:Value)(e:Value)(f:World):Stab f (Ir b d a c e):=
 .eq<|.eq<|.eq<|.eq<|.eq<|.eq<|.eq<|.eq<|.eq<|.nil
def Is(g0:Nat)(g1:Nat)(N:Nat)(D:Nat)(M:Nat)(E:Nat)(a1:Value)(a2:Value)(b1:Value)(b2:Value):List (Value->World->Prop):=[
 fun r _=>r=.pointer (some ⟨g0,1,none⟩),
 fun r _=>r=a1,
 fun r _=>r=.pointer (some ⟨g1,2,none⟩),
 fun r _=>r=b2,
 fun r W=>IsD W r (N*E),
 fun r _=>r=.pointer (some ⟨g1,1,none⟩),
 fun r _=>r=b1,
 fun r _=>r=.pointer (some ⟨g0,2,none⟩),
 fun r _=>r=a2,
 fun r W=>IsD W r (M*D),
 fun r W=>IsD W r (N*E),
 fun r W=>IsD W r (M*D)]
theorem zO(c:Nat)(f:Nat)(N:Nat)(D:Nat)(M:Nat)(E:Nat)(b:Value)(d:Value)(g:Value)(e:Value)(i:World):Stab i (Is c f N D M E b d g e):=
 .eq<|.eq<|.eq<|.eq<|.cons (fun _ _ _ _ h a=>IsD.below h a)<|.eq<|.eq<|.eq<|.eq<|.cons (fun _ _ _ _ h a=>IsD.below h a)<|.cons (fun _ _ _ _ h a=>IsD.below h a)<|.cons (fun _ _ _ _ h a=>IsD.below h a)<|.nil
def zP(g0:Nat)(ng:Bool)(X:Nat)(Y:Nat)(Z:Nat)(vx:Value)(vy:Value)(vz:Value):List (Value->World->Prop):=[
 fun r _=>r=.pointer (some ⟨g0,0,none⟩),
 fun r _=>r=.bool ng,
 fun r _=>r=vx,
 fun r _=>r=vy,
 fun r W=>IsD W r (X+Y),
 fun r _=>r=vz,
 fun r W=>IsF W r (cF ng (X+Y) Z),
 fun _ _=>True]
theorem qh(b:Nat)(d:Bool)(X:Nat)(Y:Nat)(Z:Nat)(e:Value)(c:Value)(g:Value)(f:World):Stab f (zP b d X Y Z e c g):=
 .eq<|.eq<|.eq<|.eq<|.cons (fun _ _ _ _ h a=>IsD.below h a)<|.eq<|.cons (fun _ _ _ _ h a=>IsF.below h a)<|.cons (fun _ _ _ _ h _=>h)<|.nil
theorem LC{u v:Value}{I mg:Bool}{N D M E:Nat}{w:World}(hu:IsQ w u I N D)(hv:IsQ w v mg M E)(T9:(ay N).length<=262144)(T5:(ay D).length<=262144)(T6:(ay M).length<=262144)(T8:(ay E).length<=262144):
  Calls Tryz.prog 132 #[u,v] w (Gives (fun W r=>IsF W r (cF I N D+cF mg M E)) w):=by
 obtain⟨Aa,ca,pa,Ba,da,ra,rfl,u0,w0,T7,T3⟩:=hu.open_;obtain⟨Ab,cb,pb,Bb,db,rb,rfl,l2,t5,U0,T1⟩:=hv.open_;obtain⟨W0,hW,d1,u3,x0,t4,A0⟩:=Lq w 65 65 65 #[.bool I,.slice Aa pa.length ca,.slice Ba ra.length da] #[.bool mg,.slice Ab pb.length cb,.slice Bb rb.length db] #[.bool false,.slice none 0 0,.slice none 0 0];have HW:=J hW;have G:=J d1;have b:=J u3;have c:=J x0;have a:=J t4;have n:=J (hu.below d1);have o:=J (hv.below d1);have j:=J (u0.below d1);have i:=J (w0.below d1);have k:=J (l2.below d1);have m:=J (t5.below d1);have F:=d1.size;have e1:w.heap.size<=w.heap.size+2:=by omega
 clear hW d1 u3 x0 t4 A0 hu hv u0 w0 l2 t5;obtain⟨sa,k4⟩:∃sa,oH I N D=sa:=⟨_,rfl⟩;obtain⟨sb,l1⟩:∃sb,oH mg M E=sb:=⟨_,rfl⟩;have u8:Hid (∀w v,IsQ w v I N D->Calls Tryz.prog 66 #[v] w (Gives (fun _ r=>r=.int .i64 sa) w)):=fun w v h=>by have:=E6 h (by omega) (by omega);rwa[k4]at this
 have v0:Hid (∀w v,IsQ w v mg M E->Calls Tryz.prog 66 #[v] w (Gives (fun _ r=>r=.int .i64 sb) w)):=fun w v h=>by have:=E6 h (by omega) (by omega);rwa[l1]at this
 go_enter Tryz.func132,Tryz.ntmps132
 by_cases l0:N=0\/D=0
 ·have n1:sa=0:=by rw[<-k4,oH];rcases l0 with h|h<;>simp[h]
  subst n1;have c0:Hid (cF I N D+cF mg M E=cF mg M E):=by show _=_;rcases l0 with h|h<;>rw[h]<;>simp[ky,si,Rat.zero_add]
  go_wp2_with fail
  rw[HW.out];refine(u8.out _ _ n.out).mono ?_;rintro e w1 ⟨v1,rfl,h1,K⟩;replace n:=J (n.out.below K);replace o:=J (o.out.below K);replace j:=J (j.out.below K);replace i:=J (i.out.below K);replace k:=J (k.out.below K);replace m:=J (m.out.below K);replace b:=J (b.out.below K b.out.lt);replace c:=J (c.out.below K c.out.lt);replace a:=J (a.out.below K a.out.lt);replace G:=J (ak G.out K F);replace F:=L6 F K.size;clear K;obtain rfl:=h1;obtain⟨z,y,s,q,t,x⟩:=c.out.three
  go_wp2_with fail
  clear z q y t s x;refine(E5 o.out (by omega) (by omega)).mono ?_;rintro e w2 ⟨v2,rfl,h2,B⟩;replace n:=J (n.out.below B);replace o:=J (o.out.below B);replace j:=J (j.out.below B);replace i:=J (i.out.below B);replace k:=J (k.out.below B);replace m:=J (m.out.below B);replace b:=J (b.out.below B b.out.lt);replace c:=J (c.out.below B c.out.lt);replace a:=J (a.out.below B a.out.lt);replace G:=J (ak G.out B F);replace F:=L6 F B.size;clear B;have L1:=J h2;unfold IsF at h2;generalize decide ((cF mg M E).num<0)=ng' at*;obtain⟨A2,c2,z3,B2,d2,x2,rfl,L3,S4,F2,F7⟩:=IsQ.open_ h2;clear h2 L3 S4 F2 F7;obtain⟨z0,z1,z2,f0,f1,f2⟩:=a.out.three
  go_wp2
  clear z0 z1 z2 f0 f1 f2;obtain⟨w9,h9,a2,a3,a5,a4⟩:=cg a.out (.bool ng') (.slice A2 z3.length c2) (.slice B2 x2.length d2);first
   |rw[h9]
   |(have Y:=h9;simp only[ne_eq,decide_not]at Y;rw[Y])
  obtain⟨z0,z1,z2,_,_,_⟩:=a2.three;refine bodyPost_ret (v:=.agg #[.bool ng',(.slice A2 z3.length c2),(.slice B2 x2.length d2)]) (by simp[results,Tryz.results132,go_sem,z0,z1,z2]) Z ⟨_,Z,?_,G.out.trans (a3.mono (by have:=e1;omega))⟩;exact by rw[c0.out];exact IsQ.store L1.out a.out fc a4 a5
 have n1:(sa==0)=false:=by rw[<-k4,oH,if_neg (fun h=>l0 (.inl h)),if_neg (fun h=>l0 (.inr h))];cases I<;>rfl
 clear k4
 go_wp2_with fail
 rw[HW.out];refine(u8.out _ _ n.out).mono ?_;rintro e w1 ⟨v1,rfl,h1,K⟩;replace n:=J (n.out.below K);replace o:=J (o.out.below K);replace j:=J (j.out.below K);replace i:=J (i.out.below K);replace k:=J (k.out.below K);replace m:=J (m.out.below K);replace b:=J (b.out.below K b.out.lt);replace c:=J (c.out.below K c.out.lt);replace a:=J (a.out.below K a.out.lt);replace G:=J (ak G.out K F);replace F:=L6 F K.size;clear K;obtain rfl:=h1;by_cases k5:M=0\/E=0
 ·have m9:sb=0:=by rw[<-l1,oH];rcases k5 with h|h<;>simp[h]
  subst m9;have c0:Hid (cF I N D+cF mg M E=cF I N D):=by show _=_;rcases k5 with h|h<;>rw[h]<;>simp[ky,si,Rat.add_zero]
  obtain⟨z,y,s,q,t,x⟩:=c.out.three
  go_wp2_with fail
  clear z q y t s x;refine(v0.out _ _ o.out).mono ?_;rintro e w2 ⟨v2,rfl,h2,B⟩;replace n:=J (n.out.below B);replace o:=J (o.out.below B);replace j:=J (j.out.below B);replace i:=J (i.out.below B);replace k:=J (k.out.below B);replace m:=J (m.out.below B);replace b:=J (b.out.below B b.out.lt);replace c:=J (c.out.below B c.out.lt);replace a:=J (a.out.below B a.out.lt);replace G:=J (ak G.out B F);replace F:=L6 F B.size;clear B;obtain rfl:=h2;obtain⟨z,y,s,q,t,x⟩:=b.out.three
  go_wp2_with fail
  clear z q y t s x;refine(E5 n.out (by omega) (by omega)).mono ?_;rintro e w3 ⟨v3,rfl,h3,C⟩;replace n:=J (n.out.below C);replace o:=J (o.out.below C);replace j:=J (j.out.below C);replace i:=J (i.out.below C);replace k:=J (k.out.below C);replace m:=J (m.out.below C);replace b:=J (b.out.below C b.out.lt);replace c:=J (c.out.below C c.out.lt);replace a:=J (a.out.below C a.out.lt);replace G:=J (ak G.out C F);replace F:=L6 F C.size;clear C;have S3:=J h3;unfold IsF at h3;generalize decide ((cF I N D).num<0)=ng' at*;obtain⟨A3,c3,t1,B3,d3,t2,rfl,S5,D6,z9,G2⟩:=IsQ.open_ h3;clear h3 S5 D6 z9 G2;obtain⟨z0,z1,z2,f0,f1,f2⟩:=a.out.three
  go_wp2
  clear z0 z1 z2 f0 f1 f2;obtain⟨w9,h9,a2,a3,a5,a4⟩:=cg a.out (.bool ng') (.slice A3 t1.length c3) (.slice B3 t2.length d3);first
   |rw[h9]
   |(have Y:=h9;simp only[ne_eq,decide_not]at Y;rw[Y])
  obtain⟨z0,z1,z2,_,_,_⟩:=a2.three;refine bodyPost_ret (v:=.agg #[.bool ng',(.slice A3 t1.length c3),(.slice B3 t2.length d3)]) (by simp[results,Tryz.results132,go_sem,z0,z1,z2]) Z ⟨_,Z,?_,G.out.trans (a3.mono (by have:=e1;omega))⟩;exact by rw[c0.out];exact IsQ.store S3.out a.out fc a4 a5
 have m9:(sb==0)=false:=by rw[<-l1,oH,if_neg (fun h=>k5 (.inl h)),if_neg (fun h=>k5 (.inr h))];cases mg<;>rfl
 clear l1;obtain⟨z,y,s,q,t,x⟩:=c.out.three
 go_wp2_with fail
 clear z q y t s x;refine(v0.out _ _ o.out).mono ?_;rintro e w2 ⟨v2,rfl,h2,B⟩;replace n:=J (n.out.below B);replace o:=J (o.out.below B);replace j:=J (j.out.below B);replace i:=J (i.out.below B);replace k:=J (k.out.below B);replace m:=J (m.out.below B);replace b:=J (b.out.below B b.out.lt);replace c:=J (c.out.below B c.out.lt);replace a:=J (a.out.below B a.out.lt);replace G:=J (ak G.out B F);replace F:=L6 F B.size;clear B;obtain rfl:=h2
 go_wp2
 obtain⟨d4,c1,d0,_,_,_⟩:=b.out.three;have H:=b.out.lt;obtain⟨o3,i4,m3,_,_,_⟩:=c.out.three;have U:=c.out.lt;refine ft [some 22,some 23,some 24,some 25,some 26,some 27,some 5,some 6,some 7] (Ir w.heap.size (w.heap.size+1) (.slice Aa pa.length ca) (.slice Ba ra.length da) (.slice Ab pb.length cb)) (by kernel_rfl) (by kernel_rfl) (by rfl) (by rfl) (zN w.heap.size (w.heap.size+1) (.slice Aa pa.length ca) (.slice Ba ra.length da) (.slice Ab pb.length cb) _) ?_ ?_
 ·refine Steps.cons trivial (fun T W d=>?_) ?_
  ·have e2:T 2=.pointer (some ⟨w.heap.size,0,none⟩):=d.keep 2 (by rfl);have g:=d.wi;clear d;refine aq (v:=.pointer (some ⟨w.heap.size,1,none⟩)) (W':=W) ?_ ⟨Z,Below.refl _ _⟩;simp only[execOp,cA,e2];go_simp
  refine Steps.cons trivial (fun T W d=>?_) ?_
  ·have K9:T 22=.pointer (some ⟨w.heap.size,1,none⟩):=d.fact 1 0 22 (by kernel_rfl);have g:=d.wi;clear d;refine aq (v:=(.slice Aa pa.length ca)) (W':=W) ?_ ⟨Z,Below.refl _ _⟩;have q0:=(g.cell (p:=⟨w.heap.size,1,none⟩) H).trans c1;simp only[execOp,cA,K9];go_simp
  refine Steps.cons trivial (fun T W d=>?_) ?_
  ·have e3:T 3=.pointer (some ⟨(w.heap.size+1),0,none⟩):=d.keep 3 (by rfl);have g:=d.wi;clear d;refine aq (v:=.pointer (some ⟨(w.heap.size+1),1,none⟩)) (W':=W) ?_ ⟨Z,Below.refl _ _⟩;simp only[execOp,cA,e3];go_simp
  refine Steps.cons trivial (fun T W d=>?_) ?_
  ·have L2:T 24=.pointer (some ⟨(w.heap.size+1),1,none⟩):=d.fact 1 2 24 (by kernel_rfl);have g:=d.wi;clear d;refine aq (v:=(.slice Ab pb.length cb)) (W':=W) ?_ ⟨Z,Below.refl _ _⟩;have q0:=(g.cell (p:=⟨w.heap.size+1,1,none⟩) U).trans i4;simp only[execOp,cA,L2];go_simp
  refine Steps.cons trivial (fun T W d=>?_) ?_
  ·have e2:T 2=.pointer (some ⟨w.heap.size,0,none⟩):=d.keep 2 (by rfl);have g:=d.wi;clear d;refine aq (v:=.pointer (some ⟨w.heap.size,2,none⟩)) (W':=W) ?_ ⟨Z,Below.refl _ _⟩;simp only[execOp,cA,e2];go_simp
  refine Steps.cons trivial (fun T W d=>?_) ?_
  ·have S1:T 26=.pointer (some ⟨w.heap.size,2,none⟩):=d.fact 1 4 26 (by kernel_rfl);have g:=d.wi;clear d;refine aq (v:=(.slice Ba ra.length da)) (W':=W) ?_ ⟨Z,Below.refl _ _⟩;have q0:=(g.cell (p:=⟨w.heap.size,2,none⟩) H).trans d0;simp only[execOp,cA,S1];go_simp
  refine Steps.cons trivial (fun T W d=>?_) ?_
  ·have K7:T 23=(.slice Aa pa.length ca):=d.fact 1 1 23 (by kernel_rfl);have g:=d.wi;clear d;refine aq (v:=(.slice Aa pa.length ca)) (W':=W) ?_ ⟨Z,Below.refl _ _⟩;simp only[execOp,cA,K7];go_simp
  refine Steps.cons trivial (fun T W d=>?_) ?_
  ·have E0:T 25=(.slice Ab pb.length cb):=d.fact 1 3 25 (by kernel_rfl);have g:=d.wi;clear d;refine aq (v:=(.slice Ab pb.length cb)) (W':=W) ?_ ⟨Z,Below.refl _ _⟩;simp only[execOp,cA,E0];go_simp
  refine Steps.cons trivial (fun T W d=>?_) ?_
  ·have I0:T 27=(.slice Ba ra.length da):=d.fact 1 5 27 (by kernel_rfl);have g:=d.wi;clear d;refine aq (v:=(.slice Ba ra.length da)) (W':=W) ?_ ⟨Z,Below.refl _ _⟩;simp only[execOp,cA,I0];go_simp
  exact Steps.nil
 intro us W1 V hF hb;obtain⟨y0,s1,rfl,H⟩:=aY V;clear V;obtain⟨y1,p1,rfl,U⟩:=aY H;clear H;obtain⟨y2,s3,rfl,b1⟩:=aY U;clear U;obtain⟨y3,p4,rfl,b2⟩:=aY b1;clear b1;obtain⟨y4,t0,rfl,b3⟩:=aY b2;clear b2;obtain⟨y5,o2,rfl,b0⟩:=aY b3;clear b3;obtain⟨y6,o1,rfl,b5⟩:=aY b0;clear b0;obtain⟨y7,q4,rfl,a9⟩:=aY b5;clear b5;obtain⟨y8,J1,rfl,i5⟩:=aY a9;clear a9;obtain rfl:=kS i5;clear i5;have f6:y6=(.slice Aa pa.length ca):=hF 6 (by decide);have f7:y7=(.slice Ab pb.length cb):=hF 7 (by decide);have f8:y8=(.slice Ba ra.length da):=hF 8 (by decide);clear hF;subst f6;subst f7;subst f8;simp only[b8,Mn,MD,Mj,Mv,Ms];clear d4 c1 d0 H o3 i4 m3 U;replace n:=J (n.out.below hb);replace o:=J (o.out.below hb);replace j:=J (j.out.below hb);replace i:=J (i.out.below hb);replace k:=J (k.out.below hb);replace m:=J (m.out.below hb);replace b:=J (b.out.below hb b.out.lt);replace c:=J (c.out.below hb c.out.lt);replace a:=J (a.out.below hb a.out.lt);replace G:=J (ak G.out hb F);replace F:=L6 F hb.size;clear hb;have k1:0<D:=by omega
 have l5:0<E:=by omega
 have g4:Hid (∀w u v,IsD w u D->IsD w v E->Calls Tryz.prog 151 #[u,v] w (Gives (fun _ r=>r=.int .i64 (eu D E)) w)):=fun w u v h1 h2=>BJ h1 h2 (by omega) (by omega)
 by_cases m2:D=E
 ·have k2:eu (D:Int) (E:Int)=0:=iz m2;rw[k2]at g4;have G3:=J m2;clear k2 m2;obtain⟨z,y,s,q,t,x⟩:=b.out.three;obtain⟨P,O,L,Q,S,R⟩:=c.out.three
  go_wp2_with fail
  clear z q y t s x P Q O S L R;refine(g4.out _ _ _ i.out m.out).mono ?_;rintro e w3 ⟨v3,rfl,h3,C⟩;replace n:=J (n.out.below C);replace o:=J (o.out.below C);replace j:=J (j.out.below C);replace i:=J (i.out.below C);replace k:=J (k.out.below C);replace m:=J (m.out.below C);replace b:=J (b.out.below C b.out.lt);replace c:=J (c.out.below C c.out.lt);replace a:=J (a.out.below C a.out.lt);replace G:=J (ak G.out C F);replace F:=L6 F C.size;clear C;obtain rfl:=h3;have HQ:Hid (cF I N D+cF mg M E=cF I N D+cF mg M D):=by show _=_;rw[<-G3.out]
  have r6:(ay N).length<=524288:=by omega
  have r1:(ay M).length<=524288:=by omega
  have S6:(ay D).length<=524288:=by omega
  have f9:0<D:=k1;clear g4;obtain⟨z,y,s,q,t,x⟩:=b.out.three;obtain⟨P,O,L,Q,S,R⟩:=c.out.three;by_cases e0:I=mg
  ·subst e0
   go_wp2
   clear z q y t s x P Q O S L R;obtain⟨d4,c1,d0,_,_,_⟩:=b.out.three;have H:=b.out.lt;have j3:(ay (N+M)).length<=1048576:=L6 (BQ _ _ 524288 r6 r1) (by omega);have HS:=J (show cF I N D+cF I M E=cF I (N+M) D by rw[HQ.out,lj _ _ _ f9]);refine lT [some 54,some 55,some 56,some 57,some 58,some 59,some 60,none] (zP w.heap.size I N M D (.slice Aa pa.length ca) (.slice Ab pb.length cb) (.slice Ba ra.length da)) 7 _ (by kernel_rfl) (by kernel_rfl) (by rfl) (by rfl) (qh w.heap.size I N M D (.slice Aa pa.length ca) (.slice Ab pb.length cb) (.slice Ba ra.length da) _) (by rfl) (by rfl) (by rfl) (by rfl) (by kernel_rfl) ?_ ?_
   ·refine Steps.cons trivial (fun T W d=>?_) ?_
    ·have e2:T 2=.pointer (some ⟨w.heap.size,0,none⟩):=d.keep 2 (by rfl);have g:=d.wi;clear d;refine aq (v:=.pointer (some ⟨w.heap.size,0,none⟩)) (W':=W) ?_ ⟨Z,Below.refl _ _⟩;simp only[execOp,cA,e2];go_simp
    refine Steps.cons trivial (fun T W d=>?_) ?_
    ·have p2:T 54=.pointer (some ⟨w.heap.size,0,none⟩):=d.fact 1 0 54 (by kernel_rfl);have g:=d.wi;clear d;refine aq (v:=.bool I) (W':=W) ?_ ⟨Z,Below.refl _ _⟩;have q0:=(g.cell (p:=⟨w.heap.size,0,none⟩) H).trans d4;simp only[execOp,cA,p2];go_simp
    refine Steps.cons trivial (fun T W d=>?_) ?_
    ·have e5:T 5=(.slice Aa pa.length ca):=d.keep 5 (by rfl);have g:=d.wi;clear d;refine aq (v:=(.slice Aa pa.length ca)) (W':=W) ?_ ⟨Z,Below.refl _ _⟩;simp only[execOp,cA,e5];go_simp
    refine Steps.cons trivial (fun T W d=>?_) ?_
    ·have e6:T 6=(.slice Ab pb.length cb):=d.keep 6 (by rfl);have g:=d.wi;clear d;refine aq (v:=(.slice Ab pb.length cb)) (W':=W) ?_ ⟨Z,Below.refl _ _⟩;simp only[execOp,cA,e6];go_simp
    refine Steps.cons trivial (fun T W d=>?_) ?_
    ·have r5:T 56=(.slice Aa pa.length ca):=d.fact 1 2 56 (by kernel_rfl);have p0:T 57=(.slice Ab pb.length cb):=d.fact 1 3 57 (by kernel_rfl);have g:=d.wi;clear d;refine bJ ?_ ((Kj (u:=T 56) (v:=T 57) (by rw[r5];exact j.out.below g) (by rw[p0];exact k.out.below g) (by omega) (by omega)).mono fun e W' h=>h);simp only[execOp,resolve,invoke,Nf,MX,ND,cA];go_simp
    refine Steps.cons trivial (fun T W d=>?_) ?_
    ·have e7:T 7=(.slice Ba ra.length da):=d.keep 7 (by rfl);have g:=d.wi;clear d;refine aq (v:=(.slice Ba ra.length da)) (W':=W) ?_ ⟨Z,Below.refl _ _⟩;simp only[execOp,cA,e7];go_simp
    refine Steps.cons trivial (fun T W d=>?_) ?_
    ·have p3:T 55=.bool I:=d.fact 1 1 55 (by kernel_rfl);have i2:(fun r W=>IsD W r (N+M)) (T 58) W:=d.fact 1 4 58 (by kernel_rfl);simp only at i2;have q7:T 59=(.slice Ba ra.length da):=d.fact 1 5 59 (by kernel_rfl);have g:=d.wi;clear d;refine bJ ?_ ((jY I i2 (v:=T 59) (by rw[q7];exact i.out.below g) j3 (by omega)).mono fun e W' h=>h);simp only[execOp,resolve,invoke,Nf,MX,ND,cA,p3];go_simp
    exact Steps.nil
   intro us W1 V hF hb;obtain⟨y0,s1,rfl,H⟩:=aY V;clear V;obtain⟨y1,p1,rfl,U⟩:=aY H;clear H;obtain⟨y2,s3,rfl,b1⟩:=aY U;clear U;obtain⟨y3,p4,rfl,b2⟩:=aY b1;clear b1;obtain⟨y4,t0,rfl,b3⟩:=aY b2;clear b2;obtain⟨y5,o2,rfl,b0⟩:=aY b3;clear b3;obtain⟨y6,o1,rfl,b5⟩:=aY b0;clear b0;obtain⟨y7,q4,rfl,a9⟩:=aY b5;clear b5;obtain rfl:=kS a9;clear a9;have f6:(fun r W=>IsF W r (cF I (N+M) D)) y6 W1:=hF 6 (by decide);clear hF;simp only[b8,Mn,MD,Mj,Mv,Ms];have g1:=J (a.out.below hb a.out.lt);clear d4 c1 d0 H;have s2:=J f6;unfold IsF at f6;generalize decide ((cF I (N+M) D).num<0)=ng' at*;obtain⟨A9,c9,i3,B9,d9,i9,e9,q9,r0,q5,q6⟩:=IsQ.open_ f6;subst e9;clear f6 q9 r0 q5 q6;obtain⟨z0,z1,z2,f0,f1,f2⟩:=g1.out.three;obtain⟨w9,h9,a2,a3,a5,a4⟩:=cg g1.out (.bool ng') (.slice A9 i3.length c9) (.slice B9 i9.length d9);refine eY (W':=w9) ?_ ?_
   ·rw[<-h9];simp only[execOp,cA];go_simp
   replace G:=J (ak G.out hb F);clear z0 z1 z2 f0 f1 f2 h9 hb
   go_wp2
   obtain⟨z0,z1,z2,_,_,_⟩:=a2.three;refine bodyPost_ret (v:=.agg #[.bool ng',(.slice A9 i3.length c9),(.slice B9 i9.length d9)]) (by simp[results,Tryz.results132,go_sem,z0,z1,z2]) Z ⟨_,Z,?_,G.out.trans (a3.mono (by have:=e1;omega))⟩;exact by rw[HS.out];exact IsQ.store s2.out g1.out fc a4 a5
  have l2:(I==mg)=false:=by cases I<;>cases mg<;>simp at e0⊢
  by_cases i1:M<=N
  ·go_wp2_with fail
   clear z y s P O L q t x Q S R;refine(CM j.out k.out (by omega) (by omega)).mono ?_;rintro e w4 ⟨v4,rfl,h4,A⟩;replace n:=J (n.out.below A);replace o:=J (o.out.below A);replace j:=J (j.out.below A);replace i:=J (i.out.below A);replace k:=J (k.out.below A);replace m:=J (m.out.below A);replace b:=J (b.out.below A b.out.lt);replace c:=J (c.out.below A c.out.lt);replace a:=J (a.out.below A a.out.lt);replace G:=J (ak G.out A F);replace F:=L6 F A.size;clear A;obtain⟨s4,rfl,q3⟩:=h4.1 i1;obtain⟨A4,c4,h8,rfl,q8,g2⟩:=q3.open_;have a0:=J q3;clear h4 q3 q8 g2;have f3:(ay (N-M)).length<=1048576:=L6 (aS (OZ _ _)) (by omega);have c0:=J (show cF I N D+cF mg M E=cF I (N-M) D by rw[HQ.out,ny e0 f9 i1]);obtain⟨z,y,s,q,t,x⟩:=b.out.three
   go_wp2_with fail
   clear z q y t s x;refine(jY I a0.out i.out f3 (by omega)).mono ?_;rintro e w5 ⟨v5,rfl,h5,f⟩;replace n:=J (n.out.below f);replace o:=J (o.out.below f);replace j:=J (j.out.below f);replace i:=J (i.out.below f);replace k:=J (k.out.below f);replace m:=J (m.out.below f);replace a0:=J (a0.out.below f);replace b:=J (b.out.below f b.out.lt);replace c:=J (c.out.below f c.out.lt);replace a:=J (a.out.below f a.out.lt);replace G:=J (ak G.out f F);replace F:=L6 F f.size;clear f;have A1:=J h5;unfold IsF at h5;generalize decide ((cF I (N-M) D).num<0)=ng' at*;obtain⟨A5,c5,m1,B5,d5,u2,rfl,B0,D1,G1,K1⟩:=IsQ.open_ h5;clear h5 B0 D1 G1 K1;obtain⟨z0,z1,z2,f0,f1,f2⟩:=a.out.three
   go_wp2
   clear z0 z1 z2 f0 f1 f2;obtain⟨w9,h9,a2,a3,a5,a4⟩:=cg a.out (.bool ng') (.slice A5 m1.length c5) (.slice B5 u2.length d5);first
    |rw[h9]
    |(have Y:=h9;simp only[ne_eq,decide_not]at Y;rw[Y])
   obtain⟨z0,z1,z2,_,_,_⟩:=a2.three;refine bodyPost_ret (v:=.agg #[.bool ng',(.slice A5 m1.length c5),(.slice B5 u2.length d5)]) (by simp[results,Tryz.results132,go_sem,z0,z1,z2]) Z ⟨_,Z,?_,G.out.trans (a3.mono (by have:=e1;omega))⟩;exact by rw[c0.out];exact IsQ.store A1.out a.out fc a4 a5
  have f4:N<M:=by omega
  go_wp2_with fail
  clear z y s P O L q t x Q S R;refine(CM j.out k.out (by omega) (by omega)).mono ?_;rintro e w4 ⟨v4,rfl,h4,A⟩;replace n:=J (n.out.below A);replace o:=J (o.out.below A);replace j:=J (j.out.below A);replace i:=J (i.out.below A);replace k:=J (k.out.below A);replace m:=J (m.out.below A);replace b:=J (b.out.below A b.out.lt);replace c:=J (c.out.below A c.out.lt);replace a:=J (a.out.below A a.out.lt);replace G:=J (ak G.out A F);replace F:=L6 F A.size;clear A;obtain rfl:=h4.2 f4
  go_wp2_with fail
  refine(CM k.out j.out (by omega) (by omega)).mono ?_;rintro e w5 ⟨v5,rfl,h5,f⟩;replace n:=J (n.out.below f);replace o:=J (o.out.below f);replace j:=J (j.out.below f);replace i:=J (i.out.below f);replace k:=J (k.out.below f);replace m:=J (m.out.below f);replace b:=J (b.out.below f b.out.lt);replace c:=J (c.out.below f c.out.lt);replace a:=J (a.out.below f a.out.lt);replace G:=J (ak G.out f F);replace F:=L6 F f.size;clear f;obtain⟨s5,rfl,e4⟩:=h5.1 (PA f4);obtain⟨A5,c5,m1,rfl,q1,k0⟩:=e4.open_;have g0:=J e4;clear h5 e4 q1 k0;have f3:(ay (M-N)).length<=1048576:=L6 (aS (OZ _ _)) (by omega);have c0:=J (show cF I N D+cF mg M E=cF mg (M-N) D by rw[HQ.out,nA e0 f9 f4]);obtain⟨z,y,s,q,t,x⟩:=c.out.three
  go_wp2_with fail
  clear z q y t s x;refine(jY mg g0.out i.out f3 (by omega)).mono ?_;rintro e w6 ⟨v6,rfl,h6,l⟩;replace n:=J (n.out.below l);replace o:=J (o.out.below l);replace j:=J (j.out.below l);replace i:=J (i.out.below l);replace k:=J (k.out.below l);replace m:=J (m.out.below l);replace g0:=J (g0.out.below l);replace b:=J (b.out.below l b.out.lt);replace c:=J (c.out.below l c.out.lt);replace a:=J (a.out.below l a.out.lt);replace G:=J (ak G.out l F);replace F:=L6 F l.size;clear l;have r2:=J h6;unfold IsF at h6;generalize decide ((cF mg (M-N) D).num<0)=ng' at*;obtain⟨A6,c6,h0,B6,d6,k3,rfl,q2,r3,p5,r4⟩:=IsQ.open_ h6;clear h6 q2 r3 p5 r4;obtain⟨z0,z1,z2,f0,f1,f2⟩:=a.out.three
  go_wp2
  clear z0 z1 z2 f0 f1 f2;obtain⟨w9,h9,a2,a3,a5,a4⟩:=cg a.out (.bool ng') (.slice A6 h0.length c6) (.slice B6 k3.length d6);first
   |rw[h9]
   |(have Y:=h9;simp only[ne_eq,decide_not]at Y;rw[Y])
  obtain⟨z0,z1,z2,_,_,_⟩:=a2.three;refine bodyPost_ret (v:=.agg #[.bool ng',(.slice A6 h0.length c6),(.slice B6 k3.length d6)]) (by simp[results,Tryz.results132,go_sem,z0,z1,z2]) Z ⟨_,Z,?_,G.out.trans (a3.mono (by have:=e1;omega))⟩;exact by rw[c0.out];exact IsQ.store r2.out a.out fc a4 a5
 have k2:(eu (D:Int) (E:Int)==0)=false:=by
  rcases OE D E with h|h|h
  ·rw[iX h];rfl
  ·exact absurd h m2
  rw[iy h];rfl
 obtain⟨cm,z5⟩:∃cm,eu (D:Int) (E:Int)=cm:=⟨_,rfl⟩;rw[z5]at g4 k2;have T2:(cm !=0)=true:=by simpa[bne]using k2
 clear z5;obtain⟨z,y,s,q,t,x⟩:=b.out.three;obtain⟨P,O,L,Q,S,R⟩:=c.out.three
 go_wp2_with fail
 clear z q y t s x P Q O S L R;refine(g4.out _ _ _ i.out m.out).mono ?_;rintro e w3 ⟨v3,rfl,h3,C⟩;replace n:=J (n.out.below C);replace o:=J (o.out.below C);replace j:=J (j.out.below C);replace i:=J (i.out.below C);replace k:=J (k.out.below C);replace m:=J (m.out.below C);replace b:=J (b.out.below C b.out.lt);replace c:=J (c.out.below C c.out.lt);replace a:=J (a.out.below C a.out.lt);replace G:=J (ak G.out C F);replace F:=L6 F C.size;clear C;obtain rfl:=h3;clear g4
 go_wp2
 obtain⟨d4,c1,d0,_,_,_⟩:=b.out.three;have H:=b.out.lt;obtain⟨o3,i4,m3,_,_,_⟩:=c.out.three;have U:=c.out.lt;refine ft [some 34,some 35,some 36,some 37,some 38,some 39,some 40,some 41,some 42,some 43,some 5,some 6] (Is w.heap.size (w.heap.size+1) N D M E (.slice Aa pa.length ca) (.slice Ba ra.length da) (.slice Ab pb.length cb) (.slice Bb rb.length db)) (by kernel_rfl) (by kernel_rfl) (by rfl) (by rfl) (zO w.heap.size (w.heap.size+1) N D M E (.slice Aa pa.length ca) (.slice Ba ra.length da) (.slice Ab pb.length cb) (.slice Bb rb.length db) _) ?_ ?_
 ·refine Steps.cons trivial (fun T W d=>?_) ?_
  ·have e2:T 2=.pointer (some ⟨w.heap.size,0,none⟩):=d.keep 2 (by rfl);have g:=d.wi;clear d;refine aq (v:=.pointer (some ⟨w.heap.size,1,none⟩)) (W':=W) ?_ ⟨Z,Below.refl _ _⟩;simp only[execOp,cA,e2];go_simp
  refine Steps.cons trivial (fun T W d=>?_) ?_
  ·have R1:T 34=.pointer (some ⟨w.heap.size,1,none⟩):=d.fact 1 0 34 (by kernel_rfl);have g:=d.wi;clear d;refine aq (v:=(.slice Aa pa.length ca)) (W':=W) ?_ ⟨Z,Below.refl _ _⟩;have q0:=(g.cell (p:=⟨w.heap.size,1,none⟩) H).trans c1;simp only[execOp,cA,R1];go_simp
  refine Steps.cons trivial (fun T W d=>?_) ?_
  ·have e3:T 3=.pointer (some ⟨(w.heap.size+1),0,none⟩):=d.keep 3 (by rfl);have g:=d.wi;clear d;refine aq (v:=.pointer (some ⟨(w.heap.size+1),2,none⟩)) (W':=W) ?_ ⟨Z,Below.refl _ _⟩;simp only[execOp,cA,e3];go_simp
  refine Steps.cons trivial (fun T W d=>?_) ?_
  ·have C2:T 36=.pointer (some ⟨(w.heap.size+1),2,none⟩):=d.fact 1 2 36 (by kernel_rfl);have g:=d.wi;clear d;refine aq (v:=(.slice Bb rb.length db)) (W':=W) ?_ ⟨Z,Below.refl _ _⟩;have q0:=(g.cell (p:=⟨w.heap.size+1,2,none⟩) U).trans m3;simp only[execOp,cA,C2];go_simp
  refine Steps.cons trivial (fun T W d=>?_) ?_
  ·have J0:T 35=(.slice Aa pa.length ca):=d.fact 1 1 35 (by kernel_rfl);have H7:T 37=(.slice Bb rb.length db):=d.fact 1 3 37 (by kernel_rfl);have g:=d.wi;clear d;refine bJ ?_ ((GZ (u:=T 35) (v:=T 37) (by rw[J0];exact j.out.below g) (by rw[H7];exact m.out.below g) (by omega) (by omega)).mono fun e W' h=>h);simp only[execOp,resolve,invoke,Nf,MX,ND,cA];go_simp
  refine Steps.cons trivial (fun T W d=>?_) ?_
  ·have e3:T 3=.pointer (some ⟨(w.heap.size+1),0,none⟩):=d.keep 3 (by rfl);have g:=d.wi;clear d;refine aq (v:=.pointer (some ⟨(w.heap.size+1),1,none⟩)) (W':=W) ?_ ⟨Z,Below.refl _ _⟩;simp only[execOp,cA,e3];go_simp
  refine Steps.cons trivial (fun T W d=>?_) ?_
  ·have F4:T 39=.pointer (some ⟨(w.heap.size+1),1,none⟩):=d.fact 1 5 39 (by kernel_rfl);have g:=d.wi;clear d;refine aq (v:=(.slice Ab pb.length cb)) (W':=W) ?_ ⟨Z,Below.refl _ _⟩;have q0:=(g.cell (p:=⟨w.heap.size+1,1,none⟩) U).trans i4;simp only[execOp,cA,F4];go_simp
  refine Steps.cons trivial (fun T W d=>?_) ?_
  ·have e2:T 2=.pointer (some ⟨w.heap.size,0,none⟩):=d.keep 2 (by rfl);have g:=d.wi;clear d;refine aq (v:=.pointer (some ⟨w.heap.size,2,none⟩)) (W':=W) ?_ ⟨Z,Below.refl _ _⟩;simp only[execOp,cA,e2];go_simp
  refine Steps.cons trivial (fun T W d=>?_) ?_
  ·have D2:T 41=.pointer (some ⟨w.heap.size,2,none⟩):=d.fact 1 7 41 (by kernel_rfl);have g:=d.wi;clear d;refine aq (v:=(.slice Ba ra.length da)) (W':=W) ?_ ⟨Z,Below.refl _ _⟩;have q0:=(g.cell (p:=⟨w.heap.size,2,none⟩) H).trans d0;simp only[execOp,cA,D2];go_simp
  refine Steps.cons trivial (fun T W d=>?_) ?_
  ·have G0:T 40=(.slice Ab pb.length cb):=d.fact 1 6 40 (by kernel_rfl);have S0:T 42=(.slice Ba ra.length da):=d.fact 1 8 42 (by kernel_rfl);have g:=d.wi;clear d;refine bJ ?_ ((GZ (u:=T 40) (v:=T 42) (by rw[G0];exact k.out.below g) (by rw[S0];exact i.out.below g) (by omega) (by omega)).mono fun e W' h=>h);simp only[execOp,resolve,invoke,Nf,MX,ND,cA];go_simp
  refine Steps.cons trivial (fun T W d=>?_) ?_
  ·have x1:(fun r W=>IsD W r (N*E)) (T 38) W:=d.fact 1 4 38 (by kernel_rfl);simp only at x1;have g:=d.wi;clear d;exact aq (v:=T 38) (W':=W) (by simp only[execOp,cA];go_simp) ⟨x1,Below.refl _ _⟩
  refine Steps.cons trivial (fun T W d=>?_) ?_
  ·have t7:(fun r W=>IsD W r (M*D)) (T 43) W:=d.fact 1 9 43 (by kernel_rfl);simp only at t7;have g:=d.wi;clear d;exact aq (v:=T 43) (W':=W) (by simp only[execOp,cA];go_simp) ⟨t7,Below.refl _ _⟩
  exact Steps.nil
 intro us W1 V hF hb;obtain⟨y0,s1,rfl,H⟩:=aY V;clear V;obtain⟨y1,p1,rfl,U⟩:=aY H;clear H;obtain⟨y2,s3,rfl,b1⟩:=aY U;clear U;obtain⟨y3,p4,rfl,b2⟩:=aY b1;clear b1;obtain⟨y4,t0,rfl,b3⟩:=aY b2;clear b2;obtain⟨y5,o2,rfl,b0⟩:=aY b3;clear b3;obtain⟨y6,o1,rfl,b5⟩:=aY b0;clear b0;obtain⟨y7,q4,rfl,a9⟩:=aY b5;clear b5;obtain⟨y8,J1,rfl,i5⟩:=aY a9;clear a9;obtain⟨y9,T4,rfl,t9⟩:=aY i5;clear i5;obtain⟨g3,S9,rfl,m4⟩:=aY t9;clear t9;obtain⟨i0,S8,rfl,n0⟩:=aY m4;clear m4;obtain rfl:=kS n0;clear n0;have t3:(fun r W=>IsD W r (N*E)) g3 W1:=hF 10 (by decide);have z4:(fun r W=>IsD W r (M*D)) i0 W1:=hF 11 (by decide);clear hF;simp only[b8,Mn,MD,Mj,Mv,Ms];clear d4 c1 d0 H o3 i4 m3 U;replace n:=J (n.out.below hb);replace o:=J (o.out.below hb);replace j:=J (j.out.below hb);replace i:=J (i.out.below hb);replace k:=J (k.out.below hb);replace m:=J (m.out.below hb);replace b:=J (b.out.below hb b.out.lt);replace c:=J (c.out.below hb c.out.lt);replace a:=J (a.out.below hb a.out.lt);replace G:=J (ak G.out hb F);replace F:=L6 F hb.size;clear hb;have HX:=J t3;have HY:=J z4;simp only at HX HY;clear t3 z4;obtain⟨z,y,s,q,t,x⟩:=b.out.three;obtain⟨P,O,L,Q,S,R⟩:=c.out.three
 go_wp2_with fail
 clear z q y t s x P Q O S L R;refine(GZ i.out m.out (by omega) (by omega)).mono ?_;rintro e w4 ⟨v4,rfl,h4,A⟩;replace n:=J (n.out.below A);replace o:=J (o.out.below A);replace j:=J (j.out.below A);replace i:=J (i.out.below A);replace k:=J (k.out.below A);replace m:=J (m.out.below A);replace HX:=J (HX.out.below A);replace HY:=J (HY.out.below A);replace b:=J (b.out.below A b.out.lt);replace c:=J (c.out.below A c.out.lt);replace a:=J (a.out.below A a.out.lt);replace G:=J (ak G.out A F);replace F:=L6 F A.size;clear A;obtain⟨A4,c4,h8,rfl,q8,g2⟩:=h4.open_;have a0:=J h4;have T0:=J g2.out;clear h4 q8 g2;have HQ:Hid (cF I N D+cF mg M E=cF I (N*E) (D*E)+cF mg (M*D) (D*E)):=by
  show _=_
  rw[zM I (N:=N) (D:=D) (X:=N*E) (E:=D*E) k1 (Oi k1 l5) (by rw[Mt D E,Mu]),zM mg (N:=M) (D:=E) (X:=M*D) (E:=D*E) l5 (Oi k1 l5) (by rw[Mu])]
 have r6:(ay (N*E)).length<=524288:=L6 (vV _ _) (by omega);have r1:(ay (M*D)).length<=524288:=L6 (vV _ _) (by omega);have S6:(ay (D*E)).length<=524288:=L6 (vV _ _) (by omega);have f9:0<D*E:=Oi k1 l5;obtain⟨z,y,s,q,t,x⟩:=b.out.three;obtain⟨P,O,L,Q,S,R⟩:=c.out.three;by_cases e0:I=mg
 ·subst e0
  go_wp2
  clear z q y t s x P Q O S L R;obtain⟨d4,c1,d0,_,_,_⟩:=b.out.three;have H:=b.out.lt;have j3:(ay (N*E+M*D)).length<=1048576:=L6 (BQ _ _ 524288 r6 r1) (by omega);have HS:=J (show cF I N D+cF I M E=cF I (N*E+M*D) (D*E) by rw[HQ.out,lj _ _ _ f9]);refine lT [some 54,some 55,some 56,some 57,some 58,some 59,some 60,none] (zP w.heap.size I (N*E) (M*D) (D*E) g3 i0 (.slice A4 h8.length c4)) 7 _ (by kernel_rfl) (by kernel_rfl) (by rfl) (by rfl) (qh w.heap.size I (N*E) (M*D) (D*E) g3 i0 (.slice A4 h8.length c4) _) (by rfl) (by rfl) (by rfl) (by rfl) (by kernel_rfl) ?_ ?_
  ·refine Steps.cons trivial (fun T W d=>?_) ?_
   ·have e2:T 2=.pointer (some ⟨w.heap.size,0,none⟩):=d.keep 2 (by rfl);have g:=d.wi;clear d;refine aq (v:=.pointer (some ⟨w.heap.size,0,none⟩)) (W':=W) ?_ ⟨Z,Below.refl _ _⟩;simp only[execOp,cA,e2];go_simp
   refine Steps.cons trivial (fun T W d=>?_) ?_
   ·have p2:T 54=.pointer (some ⟨w.heap.size,0,none⟩):=d.fact 1 0 54 (by kernel_rfl);have g:=d.wi;clear d;refine aq (v:=.bool I) (W':=W) ?_ ⟨Z,Below.refl _ _⟩;have q0:=(g.cell (p:=⟨w.heap.size,0,none⟩) H).trans d4;simp only[execOp,cA,p2];go_simp
   refine Steps.cons trivial (fun T W d=>?_) ?_
   ·have e5:T 5=g3:=d.keep 5 (by rfl);have g:=d.wi;clear d;refine aq (v:=g3) (W':=W) ?_ ⟨Z,Below.refl _ _⟩;simp only[execOp,cA,e5];go_simp
   refine Steps.cons trivial (fun T W d=>?_) ?_
   ·have e6:T 6=i0:=d.keep 6 (by rfl);have g:=d.wi;clear d;refine aq (v:=i0) (W':=W) ?_ ⟨Z,Below.refl _ _⟩;simp only[execOp,cA,e6];go_simp
   refine Steps.cons trivial (fun T W d=>?_) ?_
   ·have r5:T 56=g3:=d.fact 1 2 56 (by kernel_rfl);have p0:T 57=i0:=d.fact 1 3 57 (by kernel_rfl);have g:=d.wi;clear d;refine bJ ?_ ((Kj (u:=T 56) (v:=T 57) (by rw[r5];exact HX.out.below g) (by rw[p0];exact HY.out.below g) (by omega) (by omega)).mono fun e W' h=>h);simp only[execOp,resolve,invoke,Nf,MX,ND,cA];go_simp
   refine Steps.cons trivial (fun T W d=>?_) ?_
   ·have e7:T 7=(.slice A4 h8.length c4):=d.keep 7 (by rfl);have g:=d.wi;clear d;refine aq (v:=(.slice A4 h8.length c4)) (W':=W) ?_ ⟨Z,Below.refl _ _⟩;simp only[execOp,cA,e7];go_simp
   refine Steps.cons trivial (fun T W d=>?_) ?_
   ·have p3:T 55=.bool I:=d.fact 1 1 55 (by kernel_rfl);have i2:(fun r W=>IsD W r ((N*E)+(M*D))) (T 58) W:=d.fact 1 4 58 (by kernel_rfl);simp only at i2;have q7:T 59=(.slice A4 h8.length c4):=d.fact 1 5 59 (by kernel_rfl);have g:=d.wi;clear d;refine bJ ?_ ((jY I i2 (v:=T 59) (by rw[q7];exact a0.out.below g) j3 (by omega)).mono fun e W' h=>h);simp only[execOp,resolve,invoke,Nf,MX,ND,cA,p3];go_simp
   exact Steps.nil
  intro us W1 V hF hb;obtain⟨y0,s1,rfl,H⟩:=aY V;clear V;obtain⟨y1,p1,rfl,U⟩:=aY H;clear H;obtain⟨y2,s3,rfl,b1⟩:=aY U;clear U;obtain⟨y3,p4,rfl,b2⟩:=aY b1;clear b1;obtain⟨y4,t0,rfl,b3⟩:=aY b2;clear b2;obtain⟨y5,o2,rfl,b0⟩:=aY b3;clear b3;obtain⟨y6,o1,rfl,b5⟩:=aY b0;clear b0;obtain⟨y7,q4,rfl,a9⟩:=aY b5;clear b5;obtain rfl:=kS a9;clear a9;have f6:(fun r W=>IsF W r (cF I ((N*E)+(M*D)) (D*E))) y6 W1:=hF 6 (by decide);clear hF;simp only[b8,Mn,MD,Mj,Mv,Ms];have g1:=J (a.out.below hb a.out.lt);clear d4 c1 d0 H;have s2:=J f6;unfold IsF at f6;generalize decide ((cF I (N*E+M*D) (D*E)).num<0)=ng' at*;obtain⟨A9,c9,i3,B9,d9,i9,e9,q9,r0,q5,q6⟩:=IsQ.open_ f6;subst e9;clear f6 q9 r0 q5 q6;obtain⟨z0,z1,z2,f0,f1,f2⟩:=g1.out.three;obtain⟨w9,h9,a2,a3,a5,a4⟩:=cg g1.out (.bool ng') (.slice A9 i3.length c9) (.slice B9 i9.length d9);refine eY (W':=w9) ?_ ?_
  ·rw[<-h9];simp only[execOp,cA];go_simp
  replace G:=J (ak G.out hb F);clear z0 z1 z2 f0 f1 f2 h9 hb
  go_wp2
  obtain⟨z0,z1,z2,_,_,_⟩:=a2.three;refine bodyPost_ret (v:=.agg #[.bool ng',(.slice A9 i3.length c9),(.slice B9 i9.length d9)]) (by simp[results,Tryz.results132,go_sem,z0,z1,z2]) Z ⟨_,Z,?_,G.out.trans (a3.mono (by have:=e1;omega))⟩;exact by rw[HS.out];exact IsQ.store s2.out g1.out fc a4 a5
 have l2:(I==mg)=false:=by cases I<;>cases mg<;>simp at e0⊢
 by_cases i1:M*D<=N*E
 ·go_wp2_with fail
  clear z y s P O L q t x Q S R;refine(CM HX.out HY.out (by omega) (by omega)).mono ?_;rintro e w5 ⟨v5,rfl,h5,f⟩;replace n:=J (n.out.below f);replace o:=J (o.out.below f);replace j:=J (j.out.below f);replace i:=J (i.out.below f);replace k:=J (k.out.below f);replace m:=J (m.out.below f);replace HX:=J (HX.out.below f);replace HY:=J (HY.out.below f);replace a0:=J (a0.out.below f);replace b:=J (b.out.below f b.out.lt);replace c:=J (c.out.below f c.out.lt);replace a:=J (a.out.below f a.out.lt);replace G:=J (ak G.out f F);replace F:=L6 F f.size;clear f;obtain⟨s5,rfl,e4⟩:=h5.1 i1;obtain⟨A5,c5,m1,rfl,q1,k0⟩:=e4.open_;have g0:=J e4;clear h5 e4 q1 k0;have f3:(ay (N*E-M*D)).length<=1048576:=L6 (aS (OZ _ _)) (by omega);have c0:=J (show cF I N D+cF mg M E=cF I (N*E-M*D) (D*E) by rw[HQ.out,ny e0 f9 i1]);obtain⟨z,y,s,q,t,x⟩:=b.out.three
  go_wp2_with fail
  clear z q y t s x;refine(jY I g0.out a0.out f3 (by omega)).mono ?_;rintro e w6 ⟨v6,rfl,h6,l⟩;replace n:=J (n.out.below l);replace o:=J (o.out.below l);replace j:=J (j.out.below l);replace i:=J (i.out.below l);replace k:=J (k.out.below l);replace m:=J (m.out.below l);replace HX:=J (HX.out.below l);replace HY:=J (HY.out.below l);replace a0:=J (a0.out.below l);replace g0:=J (g0.out.below l);replace b:=J (b.out.below l b.out.lt);replace c:=J (c.out.below l c.out.lt);replace a:=J (a.out.below l a.out.lt);replace G:=J (ak G.out l F);replace F:=L6 F l.size;clear l;have r2:=J h6;unfold IsF at h6;generalize decide ((cF I (N*E-M*D) (D*E)).num<0)=ng' at*;obtain⟨A6,c6,h0,B6,d6,k3,rfl,q2,r3,p5,r4⟩:=IsQ.open_ h6;clear h6 q2 r3 p5 r4;obtain⟨z0,z1,z2,f0,f1,f2⟩:=a.out.three
  go_wp2
  clear z0 z1 z2 f0 f1 f2;obtain⟨w9,h9,a2,a3,a5,a4⟩:=cg a.out (.bool ng') (.slice A6 h0.length c6) (.slice B6 k3.length d6);first
   |rw[h9]
   |(have Y:=h9;simp only[ne_eq,decide_not]at Y;rw[Y])
  obtain⟨z0,z1,z2,_,_,_⟩:=a2.three;refine bodyPost_ret (v:=.agg #[.bool ng',(.slice A6 h0.length c6),(.slice B6 k3.length d6)]) (by simp[results,Tryz.results132,go_sem,z0,z1,z2]) Z ⟨_,Z,?_,G.out.trans (a3.mono (by have:=e1;omega))⟩;exact by rw[c0.out];exact IsQ.store r2.out a.out fc a4 a5
 have f4:N*E<M*D:=by omega
 go_wp2_with fail
 clear z y s P O L q t x Q S R;refine(CM HX.out HY.out (by omega) (by omega)).mono ?_;rintro e w5 ⟨v5,rfl,h5,f⟩;replace n:=J (n.out.below f);replace o:=J (o.out.below f);replace j:=J (j.out.below f);replace i:=J (i.out.below f);replace k:=J (k.out.below f);replace m:=J (m.out.below f);replace HX:=J (HX.out.below f);replace HY:=J (HY.out.below f);replace a0:=J (a0.out.below f);replace b:=J (b.out.below f b.out.lt);replace c:=J (c.out.below f c.out.lt);replace a:=J (a.out.below f a.out.lt);replace G:=J (ak G.out f F);replace F:=L6 F f.size;clear f;obtain rfl:=h5.2 f4
 go_wp2_with fail
 refine(CM HY.out HX.out (by omega) (by omega)).mono ?_;rintro e w6 ⟨v6,rfl,h6,l⟩;replace n:=J (n.out.below l);replace o:=J (o.out.below l);replace j:=J (j.out.below l);replace i:=J (i.out.below l);replace k:=J (k.out.below l);replace m:=J (m.out.below l);replace HX:=J (HX.out.below l);replace HY:=J (HY.out.below l);replace a0:=J (a0.out.below l);replace b:=J (b.out.below l b.out.lt);replace c:=J (c.out.below l c.out.lt);replace a:=J (a.out.below l a.out.lt);replace G:=J (ak G.out l F);replace F:=L6 F l.size;clear l;obtain⟨s6,rfl,n2⟩:=h6.1 (PA f4);obtain⟨A6,c6,h0,rfl,B1,u1⟩:=n2.open_;have p7:=J n2;clear h6 n2 B1 u1;have f3:(ay (M*D-N*E)).length<=1048576:=L6 (aS (OZ _ _)) (by omega);have c0:=J (show cF I N D+cF mg M E=cF mg (M*D-N*E) (D*E) by rw[HQ.out,nA e0 f9 f4]);obtain⟨z,y,s,q,t,x⟩:=c.out.three
 go_wp2_with fail
 clear z q y t s x;refine(jY mg p7.out a0.out f3 (by omega)).mono ?_;rintro e w7 ⟨v7,rfl,h7,a1⟩;replace n:=J (n.out.below a1);replace o:=J (o.out.below a1);replace j:=J (j.out.below a1);replace i:=J (i.out.below a1);replace k:=J (k.out.below a1);replace m:=J (m.out.below a1);replace HX:=J (HX.out.below a1);replace HY:=J (HY.out.below a1);replace a0:=J (a0.out.below a1);replace p7:=J (p7.out.below a1);replace b:=J (b.out.below a1 b.out.lt);replace c:=J (c.out.below a1 c.out.lt);replace a:=J (a.out.below a1 a.out.lt);replace G:=J (ak G.out a1 F);replace F:=L6 F a1.size;clear a1;have S7:=J h7;unfold IsF at h7;generalize decide ((cF mg (M*D-N*E) (D*E)).num<0)=ng' at*;obtain⟨A7,c7,t8,B7,d7,v9,rfl,K2,F8,K8,S2⟩:=IsQ.open_ h7;clear h7 K2 F8 K8 S2;obtain⟨z0,z1,z2,f0,f1,f2⟩:=a.out.three
 go_wp2
 clear z0 z1 z2 f0 f1 f2;obtain⟨w9,h9,a2,a3,a5,a4⟩:=cg a.out (.bool ng') (.slice A7 t8.length c7) (.slice B7 v9.length d7);first
  |rw[h9]
  |(have Y:=h9;simp only[ne_eq,decide_not]at Y;rw[Y])
 obtain⟨z0,z1,z2,_,_,_⟩:=a2.three;refine bodyPost_ret (v:=.agg #[.bool ng',(.slice A7 t8.length c7),(.slice B7 v9.length d7)]) (by simp[results,Tryz.results132,go_sem,z0,z1,z2]) Z ⟨_,Z,?_,G.out.trans (a3.mono (by have:=e1;omega))⟩;exact by rw[c0.out];exact IsQ.store S7.out a.out fc a4 a5
end Go.Proofs.YtfoejfohbkmmeaaGreatDoor
