import Derived.Test.YtfoejfohbkmmeaaGreatDoorQ20
import Derived.Test.YtfoejfohbkmmeaaGreatDoorQ00
set_option maxRecDepth 100000
set_option maxHeartbeats 4000000
namespace Go.Proofs.YtfoejfohbkmmeaaGreatDoor
open Go.RowKit
open Lib renaming hid→J
theorem E5{v:Value}{g:Bool}{N D:Nat}{w:World}(h:IsQ w v g N D)(o:(ay N).length<=1048576)(q:(ay D).length<=1048576):Calls Tryz.prog 107 #[v] w (Gives (fun W r=>IsF W r (cF g N D)) w):=by
 obtain⟨A,c,p,B,d,r,rfl,X,Y,hx,hy⟩:=h.open_;obtain⟨W,U,b,P,i,O⟩:=pm w 65 65 #[.bool g,.slice A p.length c,.slice B r.length d] #[.bool false,.slice none 0 0,.slice none 0 0];have HW:=J U;have n:=J b;have f:=J i;have I:=J (X.below b);have L:=J (Y.below b);have F:=b.size;have K:w.heap.size<=w.heap.size+1:=by omega
 clear U b i P O h X Y
 go_enter Tryz.func107,Tryz.ntmps107
 go_wp2_with fail
 rw[HW.out];refine(jY g I.out L.out o q).mono ?_;rintro e w1 ⟨v1,rfl,m,a⟩;replace I:=J (I.out.below a);replace L:=J (L.out.below a);replace f:=J (f.out.below a f.out.lt);replace n:=J (ak n.out a F);replace F:=L6 F a.size;clear a;have Q:=J m;unfold IsF at m;generalize decide ((cF g N D).num<0)=ng' at*;obtain⟨R,c1,j,S,V,l,rfl,x,H,M,E⟩:=IsQ.open_ m;clear m x H M E;obtain⟨y,C,t,f0,f1,f2⟩:=f.out.three
 go_wp2
 clear y C t f0 f1 f2;obtain⟨w9,T,G,u,s,z⟩:=cg f.out (.bool ng') (.slice R j.length c1) (.slice S l.length V);first
  |rw[T]
  |(have k:=T;simp only[ne_eq,decide_not]at k;rw[k])
 obtain⟨y,C,t,_,_,_⟩:=G.three;refine bodyPost_ret (v:=.agg #[.bool ng',(.slice R j.length c1),(.slice S l.length V)]) (by simp[results,Tryz.results107,go_sem,y,C,t]) Z ⟨_,Z,?_,n.out.trans (u.mono (by have:=K;omega))⟩;exact IsQ.store Q.out f.out fc z s
theorem LB{v:Value}{f:Bool}{N D:Nat}{w:World}(h:IsQ w v f N D):Calls Tryz.prog 195 #[v] w (Gives (fun W r=>IsQ W r (!f) N D) w):=by
 obtain⟨A,c,p,B,d,r,rfl,x,y,K,R⟩:=h.open_;obtain⟨W,G,a,j,b,t⟩:=pm w 65 65 #[.bool f,.slice A p.length c,.slice B r.length d] #[.bool false,.slice none 0 0,.slice none 0 0];have L:=J G;have E:=J a;have k:=J b;have H:=J (x.below a);have I:=J (y.below a);have P:=a.size;have s:w.heap.size<=w.heap.size+1:=by omega
 obtain⟨y0,M,Q,_,_,_⟩:=j.three;obtain⟨n,o,l,F,C,z⟩:=b.three;clear a b j t h x y
 go_enter Tryz.func195,Tryz.ntmps195
 go_wp2
 obtain⟨n,o,l,F,C,z⟩:=k.out.three;obtain⟨O,u,q,m,e,g⟩:=cg k.out (.bool (!f)) (.slice A p.length c) (.slice B r.length d);first
  |rw[u]
  |(have i:=u;simp only[ne_eq,decide_not]at i;rw[i])
 obtain⟨n,o,l,_,_,_⟩:=q.three;refine bodyPost_ret (v:=.agg #[.bool (!f),(.slice A p.length c),(.slice B r.length d)]) (by simp[results,Tryz.results195,go_sem,n,o,l]) Z ⟨_,Z,?_,E.out.trans (m.mono (by have:=s;omega))⟩;exact⟨_,_,Z,H.out.store k.out fc g e,I.out.store k.out fc g e⟩
def oH(ng:Bool)(N D:Nat):Int:=if N=0 then 0 else if D=0 then 0 else if ng then-1 else 1
theorem E6{v:Value}{o:Bool}{N D:Nat}{w:World}(h:IsQ w v o N D)(x:(ay N).length<=1048576)(y:(ay D).length<=1048576):Calls Tryz.prog 66 #[v] w (Gives (fun _ r=>r=.int .i64 (oH o N D)) w):=by
 obtain⟨A,c,p,B,d,r,rfl,P,Q,hx,hy⟩:=h.open_;obtain⟨W,M,j,t,H⟩:=lQ w 65 #[.bool o,.slice A p.length c,.slice B r.length d];have K:=J M;have g:=J j;have f:=J t;have n:=J (P.below j);have l:=J (Q.below j);have i:=j.size;clear M j t H h P Q;obtain⟨m,C⟩:∃m,c8 N=m:=⟨_,rfl⟩;obtain⟨k,z⟩:∃k,c8 D=k:=⟨_,rfl⟩;have L:=li C;have I:=li z;have F:=J (oB n.out x);rw[C]at F;have O:Hid (∀w,IsD w (.slice B r.length d) D->Calls Tryz.prog 129 #[.slice B r.length d] w (Gives (fun _ r=>r=.int .i64 k) w)):=fun w h=>by have:=oB h y;rwa[z]at this
 clear C z
 go_enter Tryz.func66,Tryz.ntmps66
 by_cases s:N=0
 ·rw[decide_eq_true s]at L
  go_wp2_with fail
  rw[K.out];refine(F.out).mono ?_;rintro e S ⟨R,rfl,G,a⟩;replace n:=J (n.out.below a);replace l:=J (l.out.below a);replace f:=J (f.out.below a f.out.lt);replace g:=J (ak g.out a i);replace i:=L6 i a.size;clear a;obtain rfl:=G
  go_wp2
  go_ret
  exact⟨_,Z,by rw[oH,if_pos s];rfl,g.out⟩
 rw[decide_eq_false s]at L
 go_wp2_with fail
 rw[K.out];refine(F.out).mono ?_;rintro e S ⟨R,rfl,G,a⟩;replace n:=J (n.out.below a);replace l:=J (l.out.below a);replace f:=J (f.out.below a f.out.lt);replace g:=J (ak g.out a i);replace i:=L6 i a.size;clear a;obtain rfl:=G;obtain⟨V,X,U,_,_,_⟩:=f.out.three;by_cases u:D=0
 ·rw[decide_eq_true u]at I
  go_wp2_with fail
  refine(O.out _ l.out).mono ?_;rintro e T ⟨Y,rfl,E,b⟩;replace n:=J (n.out.below b);replace l:=J (l.out.below b);replace f:=J (f.out.below b f.out.lt);replace g:=J (ak g.out b i);replace i:=L6 i b.size;clear b;obtain rfl:=E
  go_wp2
  go_ret
  exact⟨_,Z,by rw[oH,if_neg s,if_pos u];rfl,g.out⟩
 rw[decide_eq_false u]at I
 go_wp2_with fail
 refine(O.out _ l.out).mono ?_;rintro e T ⟨Y,rfl,E,b⟩;replace n:=J (n.out.below b);replace l:=J (l.out.below b);replace f:=J (f.out.below b f.out.lt);replace g:=J (ak g.out b i);replace i:=L6 i b.size;clear b;obtain rfl:=E;obtain⟨V,X,U,_,_,_⟩:=f.out.three;have q:Hid (oH o N D=if o then-1 else 1):=by rw[oH,if_neg s,if_neg u];rfl
 cases o
 ·go_wp2
  go_ret
  exact⟨_,Z,by rw[q.out];rfl,g.out⟩
 go_wp2
 go_ret
 exact⟨_,Z,by rw[q.out];rfl,g.out⟩
theorem zM(a:Bool){N D X E:Nat}(c:0<D)(d:0<E)(h:X*D=N*E):cF a N D=cF a X E:=by
 unfold cF;rw[Rat.mkRat_eq_iff (by omega) (by omega)];have b:(N:Int)*(E:Int)=(X:Int)*(D:Int):=by rw[<-Pw,<-Pw,h]
 cases a
 ·simpa using b
 simp only[if_true,Qz,b]
theorem jx(a b:Int){d:Nat}(c:0<d):mkRat a d+mkRat b d=mkRat (a+b) d:=by
 rw[Rat.mkRat_add_mkRat _ _ (by omega) (by omega),<-Int.add_mul,Rat.mkRat_mul_right (by omega)]
theorem lj(a:Bool)(X Y:Nat){d:Nat}(b:0<d):cF a X d+cF a Y d=cF a (X+Y) d:=by
 unfold cF;rw[jx _ _ b];congr 1;cases a<;>simp<;>omega
theorem ny{a b:Bool}(h:a≠b){X Y d:Nat}(e:0<d)(c:Y<=X):cF a X d+cF b Y d=cF a (X-Y) d:=by
 unfold cF;rw[jx _ _ e];congr 1;cases a<;>cases b<;>simp at h⊢<;>omega
theorem nA{b a:Bool}(h:b≠a){X Y d:Nat}(e:0<d)(c:X<Y):cF b X d+cF a Y d=cF a (Y-X) d:=by
 unfold cF;rw[jx _ _ e];congr 1;cases b<;>cases a<;>simp at h⊢<;>omega
theorem vV(a b:Nat):(ay (a*b)).length<=(ay a).length+(ay b).length:=by
 have c:=b4 (ay a) (bY a);have d:=b4 (ay b) (bY b);rw[aI]at c d;refine aR ?_;rw[N2];exact PY c d
theorem BQ(a b L:Nat)(f:(ay a).length<=L)(d:(ay b).length<=L):(ay (a+b)).length<=L+1:=by
 have c:=b4 (ay a) (bY a);have e:=b4 (ay b) (bY b);rw[aI]at c e;refine aR ?_;have g:(4294967296:Nat)^(ay a).length<=4294967296^L:=MP (by decide) f;have h:(4294967296:Nat)^(ay b).length<=4294967296^L:=MP (by decide) d;rw[MM];omega
def Ir(g0:Nat)(g1:Nat)(a1:Value)(a2:Value)(b1:Value):List (Value->World->Prop):=[
 fun r _=>r=.pointer (some ⟨g0,1,none⟩),
 fun r _=>r=a1,
 fun r _=>r=.pointer (some ⟨g1,1,none⟩),
 fun r _=>r=b1,
 fun r _=>r=.pointer (some ⟨g0,2,none⟩),
 fun r _=>r=a2,
 fun r _=>r=a1,
 fun r _=>r=b1,
 fun r _=>r=a2]
theorem zN(d:Nat)(c:Nat)(e:Value)(a:Value)(b:Value)(f:World):Stab f (Ir d c e a b):=
 .eq<|.eq<|.eq<|.eq<|.eq<|.eq<|.eq<|.eq<|.eq<|.nil
def Is(g0:Nat)(g1:Nat)(N:Nat)(D:Nat)(M:Nat)(E:Nat)(a1:Value)(a2:Value)(b1:Value)(b2:Value):List (Value->World->Prop):=[
 fun r _=>r=.pointer (some ⟨g0,1,none⟩),
 fun r _=>r=a1,
 fun r _=>r=.pointer (some ⟨g1,2,none⟩),
 fun r _=>r=b2,
 fun r W=>IsD W r (N*E),
 fun r _=>r=.pointer (some ⟨g1,1,none⟩),
 fun r _=>r=b1,
 fun r _=>r=.pointer (some ⟨g0,2,none⟩),
 fun r _=>r=a2,
 fun r W=>IsD W r (M*D),
 fun r W=>IsD W r (N*E),
 fun r W=>IsD W r (M*D)]
theorem zO(e:Nat)(d:Nat)(N:Nat)(D:Nat)(M:Nat)(E:Nat)(f:Value)(b:Value)(c:Value)(g:Value)(i:World):Stab i (Is e d N D M E f b c g):=
 .eq<|.eq<|.eq<|.eq<|.cons (fun _ _ _ _ h a=>IsD.below h a)<|.eq<|.eq<|.eq<|.eq<|.cons (fun _ _ _ _ h a=>IsD.below h a)<|.cons (fun _ _ _ _ h a=>IsD.below h a)<|.cons (fun _ _ _ _ h a=>IsD.below h a)<|.nil
def zP(g0:Nat)(ng:Bool)(X:Nat)(Y:Nat)(Z:Nat)(vx:Value)(vy:Value)(vz:Value):List (Value->World->Prop):=[
 fun r _=>r=.pointer (some ⟨g0,0,none⟩),
 fun r _=>r=.bool ng,
 fun r _=>r=vx,
 fun r _=>r=vy,
 fun r W=>IsD W r (X+Y),
 fun r _=>r=vz,
 fun r W=>IsF W r (cF ng (X+Y) Z),
 fun _ _=>True]
theorem qh(c:Nat)(b:Bool)(X:Nat)(Y:Nat)(Z:Nat)(e:Value)(g:Value)(d:Value)(f:World):Stab f (zP c b X Y Z e g d):=
 .eq<|.eq<|.eq<|.eq<|.cons (fun _ _ _ _ h a=>IsD.below h a)<|.eq<|.cons (fun _ _ _ _ h a=>IsF.below h a)<|.cons (fun _ _ _ _ h _=>h)<|.nil
theorem LC{u v:Value}{K mg:Bool}{N D M E:Nat}{w:World}(hu:IsQ w u K N D)(hv:IsQ w v mg M E)(Q9:(ay N).length<=262144)(Q2:(ay D).length<=262144)(Q7:(ay M).length<=262144)(Q3:(ay E).length<=262144):
  Calls Tryz.prog 132 #[u,v] w (Gives (fun W r=>IsF W r (cF K N D+cF mg M E)) w):=by
 obtain⟨Aa,ca,pa,Ba,da,ra,rfl,u0,t8,Q1,R0⟩:=hu.open_;obtain⟨Ab,cb,pb,Bb,db,rb,rfl,l1,v0,R1,Q5⟩:=hv.open_;obtain⟨W0,hW,c1,t7,s3,t2,J6⟩:=Lq w 65 65 65 #[.bool K,.slice Aa pa.length ca,.slice Ba ra.length da] #[.bool mg,.slice Ab pb.length cb,.slice Bb rb.length db] #[.bool false,.slice none 0 0,.slice none 0 0];have HW:=J hW;have G:=J c1;have b:=J t7;have c:=J s3;have a:=J t2;have n:=J (hu.below c1);have o:=J (hv.below c1);have j:=J (u0.below c1);have i:=J (t8.below c1);have k:=J (l1.below c1);have m:=J (v0.below c1);have F:=c1.size;have e1:w.heap.size<=w.heap.size+2:=by omega
 clear hW c1 t7 s3 t2 J6 hu hv u0 t8 l1 v0;obtain⟨sa,l2⟩:∃sa,oH K N D=sa:=⟨_,rfl⟩;obtain⟨sb,l5⟩:∃sb,oH mg M E=sb:=⟨_,rfl⟩;have u3:Hid (∀w v,IsQ w v K N D->Calls Tryz.prog 66 #[v] w (Gives (fun _ r=>r=.int .i64 sa) w)):=fun w v h=>by have:=E6 h (by omega) (by omega);rwa[l2]at this
 have t5:Hid (∀w v,IsQ w v mg M E->Calls Tryz.prog 66 #[v] w (Gives (fun _ r=>r=.int .i64 sb) w)):=fun w v h=>by have:=E6 h (by omega) (by omega);rwa[l5]at this
 go_enter Tryz.func132,Tryz.ntmps132
 by_cases k4:N=0\/D=0
 ·have m2:sa=0:=by rw[<-l2,oH];rcases k4 with h|h<;>simp[h]
  subst m2;have a9:Hid (cF K N D+cF mg M E=cF mg M E):=by show _=_;rcases k4 with h|h<;>rw[h]<;>simp[ky,si,Rat.zero_add]
  go_wp2_with fail
  rw[HW.out];refine(u3.out _ _ n.out).mono ?_;rintro e w1 ⟨v1,rfl,h1,I⟩;replace n:=J (n.out.below I);replace o:=J (o.out.below I);replace j:=J (j.out.below I);replace i:=J (i.out.below I);replace k:=J (k.out.below I);replace m:=J (m.out.below I);replace b:=J (b.out.below I b.out.lt);replace c:=J (c.out.below I c.out.lt);replace a:=J (a.out.below I a.out.lt);replace G:=J (ak G.out I F);replace F:=L6 F I.size;clear I;obtain rfl:=h1;obtain⟨t,z,y,x,s,q⟩:=c.out.three
  go_wp2_with fail
  clear t x z s y q;refine(E5 o.out (by omega) (by omega)).mono ?_;rintro e w2 ⟨v2,rfl,h2,C⟩;replace n:=J (n.out.below C);replace o:=J (o.out.below C);replace j:=J (j.out.below C);replace i:=J (i.out.below C);replace k:=J (k.out.below C);replace m:=J (m.out.below C);replace b:=J (b.out.below C b.out.lt);replace c:=J (c.out.below C c.out.lt);replace a:=J (a.out.below C a.out.lt);replace G:=J (ak G.out C F);replace F:=L6 F C.size;clear C;have G4:=J h2;unfold IsF at h2;generalize decide ((cF mg M E).num<0)=ng' at*;obtain⟨A2,c2,t3,B2,d2,t1,rfl,G2,A1,I0,G1⟩:=IsQ.open_ h2;clear h2 G2 A1 I0 G1;obtain⟨z0,z1,z2,f0,f1,f2⟩:=a.out.three
  go_wp2
  clear z0 z1 z2 f0 f1 f2;obtain⟨w9,h9,a3,a2,a4,a5⟩:=cg a.out (.bool ng') (.slice A2 t3.length c2) (.slice B2 t1.length d2);first
   |rw[h9]
   |(have V:=h9;simp only[ne_eq,decide_not]at V;rw[V])
  obtain⟨z0,z1,z2,_,_,_⟩:=a3.three;refine bodyPost_ret (v:=.agg #[.bool ng',(.slice A2 t3.length c2),(.slice B2 t1.length d2)]) (by simp[results,Tryz.results132,go_sem,z0,z1,z2]) Z ⟨_,Z,?_,G.out.trans (a2.mono (by have:=e1;omega))⟩;exact by rw[a9.out];exact IsQ.store G4.out a.out fc a5 a4
 have m2:(sa==0)=false:=by rw[<-l2,oH,if_neg (fun h=>k4 (.inl h)),if_neg (fun h=>k4 (.inr h))];cases K<;>rfl
 clear l2
 go_wp2_with fail
 rw[HW.out];refine(u3.out _ _ n.out).mono ?_;rintro e w1 ⟨v1,rfl,h1,I⟩;replace n:=J (n.out.below I);replace o:=J (o.out.below I);replace j:=J (j.out.below I);replace i:=J (i.out.below I);replace k:=J (k.out.below I);replace m:=J (m.out.below I);replace b:=J (b.out.below I b.out.lt);replace c:=J (c.out.below I c.out.lt);replace a:=J (a.out.below I a.out.lt);replace G:=J (ak G.out I F);replace F:=L6 F I.size;clear I;obtain rfl:=h1;by_cases k2:M=0\/E=0
 ·have m4:sb=0:=by rw[<-l5,oH];rcases k2 with h|h<;>simp[h]
  subst m4;have a9:Hid (cF K N D+cF mg M E=cF K N D):=by show _=_;rcases k2 with h|h<;>rw[h]<;>simp[ky,si,Rat.add_zero]
  obtain⟨t,z,y,x,s,q⟩:=c.out.three
  go_wp2_with fail
  clear t x z s y q;refine(t5.out _ _ o.out).mono ?_;rintro e w2 ⟨v2,rfl,h2,C⟩;replace n:=J (n.out.below C);replace o:=J (o.out.below C);replace j:=J (j.out.below C);replace i:=J (i.out.below C);replace k:=J (k.out.below C);replace m:=J (m.out.below C);replace b:=J (b.out.below C b.out.lt);replace c:=J (c.out.below C c.out.lt);replace a:=J (a.out.below C a.out.lt);replace G:=J (ak G.out C F);replace F:=L6 F C.size;clear C;obtain rfl:=h2;obtain⟨t,z,y,x,s,q⟩:=b.out.three
  go_wp2_with fail
  clear t x z s y q;refine(E5 n.out (by omega) (by omega)).mono ?_;rintro e w3 ⟨v3,rfl,h3,B⟩;replace n:=J (n.out.below B);replace o:=J (o.out.below B);replace j:=J (j.out.below B);replace i:=J (i.out.below B);replace k:=J (k.out.below B);replace m:=J (m.out.below B);replace b:=J (b.out.below B b.out.lt);replace c:=J (c.out.below B c.out.lt);replace a:=J (a.out.below B a.out.lt);replace G:=J (ak G.out B F);replace F:=L6 F B.size;clear B;have K9:=J h3;unfold IsF at h3;generalize decide ((cF K N D).num<0)=ng' at*;obtain⟨A3,c3,x2,B3,d3,z3,rfl,J0,H7,K1,z5⟩:=IsQ.open_ h3;clear h3 J0 H7 K1 z5;obtain⟨z0,z1,z2,f0,f1,f2⟩:=a.out.three
  go_wp2
  clear z0 z1 z2 f0 f1 f2;obtain⟨w9,h9,a3,a2,a4,a5⟩:=cg a.out (.bool ng') (.slice A3 x2.length c3) (.slice B3 z3.length d3);first
   |rw[h9]
   |(have V:=h9;simp only[ne_eq,decide_not]at V;rw[V])
  obtain⟨z0,z1,z2,_,_,_⟩:=a3.three;refine bodyPost_ret (v:=.agg #[.bool ng',(.slice A3 x2.length c3),(.slice B3 z3.length d3)]) (by simp[results,Tryz.results132,go_sem,z0,z1,z2]) Z ⟨_,Z,?_,G.out.trans (a2.mono (by have:=e1;omega))⟩;exact by rw[a9.out];exact IsQ.store K9.out a.out fc a5 a4
 have m4:(sb==0)=false:=by rw[<-l5,oH,if_neg (fun h=>k2 (.inl h)),if_neg (fun h=>k2 (.inr h))];cases mg<;>rfl
 clear l5;obtain⟨t,z,y,x,s,q⟩:=c.out.three
 go_wp2_with fail
 clear t x z s y q;refine(t5.out _ _ o.out).mono ?_;rintro e w2 ⟨v2,rfl,h2,C⟩;replace n:=J (n.out.below C);replace o:=J (o.out.below C);replace j:=J (j.out.below C);replace i:=J (i.out.below C);replace k:=J (k.out.below C);replace m:=J (m.out.below C);replace b:=J (b.out.below C b.out.lt);replace c:=J (c.out.below C c.out.lt);replace a:=J (a.out.below C a.out.lt);replace G:=J (ak G.out C F);replace F:=L6 F C.size;clear C;obtain rfl:=h2
 go_wp2
 obtain⟨d0,e0,d1,_,_,_⟩:=b.out.three;have H:=b.out.lt;obtain⟨p4,k0,k3,_,_,_⟩:=c.out.three;have U:=c.out.lt;refine ft [some 22,some 23,some 24,some 25,some 26,some 27,some 5,some 6,some 7] (Ir w.heap.size (w.heap.size+1) (.slice Aa pa.length ca) (.slice Ba ra.length da) (.slice Ab pb.length cb)) (by kernel_rfl) (by kernel_rfl) (by rfl) (by rfl) (zN w.heap.size (w.heap.size+1) (.slice Aa pa.length ca) (.slice Ba ra.length da) (.slice Ab pb.length cb) _) ?_ ?_
 ·refine Steps.cons trivial (fun T W d=>?_) ?_
  ·have e2:T 2=.pointer (some ⟨w.heap.size,0,none⟩):=d.keep 2 (by rfl);have g:=d.wi;clear d;refine aq (v:=.pointer (some ⟨w.heap.size,1,none⟩)) (W':=W) ?_ ⟨Z,Below.refl _ _⟩;simp only[execOp,cA,e2];go_simp
  refine Steps.cons trivial (fun T W d=>?_) ?_
  ·have D6:T 22=.pointer (some ⟨w.heap.size,1,none⟩):=d.fact 1 0 22 (by kernel_rfl);have g:=d.wi;clear d;refine aq (v:=(.slice Aa pa.length ca)) (W':=W) ?_ ⟨Z,Below.refl _ _⟩;have q0:=(g.cell (p:=⟨w.heap.size,1,none⟩) H).trans e0;simp only[execOp,cA,D6];go_simp
  refine Steps.cons trivial (fun T W d=>?_) ?_
  ·have e3:T 3=.pointer (some ⟨(w.heap.size+1),0,none⟩):=d.keep 3 (by rfl);have g:=d.wi;clear d;refine aq (v:=.pointer (some ⟨(w.heap.size+1),1,none⟩)) (W':=W) ?_ ⟨Z,Below.refl _ _⟩;simp only[execOp,cA,e3];go_simp
  refine Steps.cons trivial (fun T W d=>?_) ?_
  ·have F4:T 24=.pointer (some ⟨(w.heap.size+1),1,none⟩):=d.fact 1 2 24 (by kernel_rfl);have g:=d.wi;clear d;refine aq (v:=(.slice Ab pb.length cb)) (W':=W) ?_ ⟨Z,Below.refl _ _⟩;have q0:=(g.cell (p:=⟨w.heap.size+1,1,none⟩) U).trans k0;simp only[execOp,cA,F4];go_simp
  refine Steps.cons trivial (fun T W d=>?_) ?_
  ·have e2:T 2=.pointer (some ⟨w.heap.size,0,none⟩):=d.keep 2 (by rfl);have g:=d.wi;clear d;refine aq (v:=.pointer (some ⟨w.heap.size,2,none⟩)) (W':=W) ?_ ⟨Z,Below.refl _ _⟩;simp only[execOp,cA,e2];go_simp
  refine Steps.cons trivial (fun T W d=>?_) ?_
  ·have E2:T 26=.pointer (some ⟨w.heap.size,2,none⟩):=d.fact 1 4 26 (by kernel_rfl);have g:=d.wi;clear d;refine aq (v:=(.slice Ba ra.length da)) (W':=W) ?_ ⟨Z,Below.refl _ _⟩;have q0:=(g.cell (p:=⟨w.heap.size,2,none⟩) H).trans d1;simp only[execOp,cA,E2];go_simp
  refine Steps.cons trivial (fun T W d=>?_) ?_
  ·have F8:T 23=(.slice Aa pa.length ca):=d.fact 1 1 23 (by kernel_rfl);have g:=d.wi;clear d;refine aq (v:=(.slice Aa pa.length ca)) (W':=W) ?_ ⟨Z,Below.refl _ _⟩;simp only[execOp,cA,F8];go_simp
  refine Steps.cons trivial (fun T W d=>?_) ?_
  ·have I6:T 25=(.slice Ab pb.length cb):=d.fact 1 3 25 (by kernel_rfl);have g:=d.wi;clear d;refine aq (v:=(.slice Ab pb.length cb)) (W':=W) ?_ ⟨Z,Below.refl _ _⟩;simp only[execOp,cA,I6];go_simp
  refine Steps.cons trivial (fun T W d=>?_) ?_
  ·have F3:T 27=(.slice Ba ra.length da):=d.fact 1 5 27 (by kernel_rfl);have g:=d.wi;clear d;refine aq (v:=(.slice Ba ra.length da)) (W':=W) ?_ ⟨Z,Below.refl _ _⟩;simp only[execOp,cA,F3];go_simp
  exact Steps.nil
 intro us W1 a0 hF hb;obtain⟨y0,q7,rfl,H⟩:=aY a0;clear a0;obtain⟨y1,p0,rfl,U⟩:=aY H;clear H;obtain⟨y2,n2,rfl,b1⟩:=aY U;clear U;obtain⟨y3,q4,rfl,b2⟩:=aY b1;clear b1;obtain⟨y4,p1,rfl,b3⟩:=aY b2;clear b2;obtain⟨y5,q6,rfl,c0⟩:=aY b3;clear b3;obtain⟨y6,q8,rfl,b5⟩:=aY c0;clear c0;obtain⟨y7,r6,rfl,b0⟩:=aY b5;clear b5;obtain⟨y8,F7,rfl,h8⟩:=aY b0;clear b0;obtain rfl:=kS h8;clear h8;have f6:y6=(.slice Aa pa.length ca):=hF 6 (by decide);have f7:y7=(.slice Ab pb.length cb):=hF 7 (by decide);have f8:y8=(.slice Ba ra.length da):=hF 8 (by decide);clear hF;subst f6;subst f7;subst f8;simp only[b8,Mn,MD,Mj,Mv,Ms];clear d0 e0 d1 H p4 k0 k3 U;replace n:=J (n.out.below hb);replace o:=J (o.out.below hb);replace j:=J (j.out.below hb);replace i:=J (i.out.below hb);replace k:=J (k.out.below hb);replace m:=J (m.out.below hb);replace b:=J (b.out.below hb b.out.lt);replace c:=J (c.out.below hb c.out.lt);replace a:=J (a.out.below hb a.out.lt);replace G:=J (ak G.out hb F);replace F:=L6 F hb.size;clear hb;have j3:0<D:=by omega
 have k5:0<E:=by omega
 have h0:Hid (∀w u v,IsD w u D->IsD w v E->Calls Tryz.prog 151 #[u,v] w (Gives (fun _ r=>r=.int .i64 (eu D E)) w)):=fun w u v h1 h2=>BJ h1 h2 (by omega) (by omega)
 by_cases l0:D=E
 ·have i1:eu (D:Int) (E:Int)=0:=iz l0;rw[i1]at h0;have I7:=J l0;clear i1 l0;obtain⟨t,z,y,x,s,q⟩:=b.out.three;obtain⟨Q,S,P,L,O,R⟩:=c.out.three
  go_wp2_with fail
  clear t x z s y q Q L S O P R;refine(h0.out _ _ _ i.out m.out).mono ?_;rintro e w3 ⟨v3,rfl,h3,B⟩;replace n:=J (n.out.below B);replace o:=J (o.out.below B);replace j:=J (j.out.below B);replace i:=J (i.out.below B);replace k:=J (k.out.below B);replace m:=J (m.out.below B);replace b:=J (b.out.below B b.out.lt);replace c:=J (c.out.below B c.out.lt);replace a:=J (a.out.below B a.out.lt);replace G:=J (ak G.out B F);replace F:=L6 F B.size;clear B;obtain rfl:=h3;have HQ:Hid (cF K N D+cF mg M E=cF K N D+cF mg M D):=by show _=_;rw[<-I7.out]
  have o2:(ay N).length<=524288:=by omega
  have r0:(ay M).length<=524288:=by omega
  have z9:(ay D).length<=524288:=by omega
  have f9:0<D:=j3;clear h0;obtain⟨t,z,y,x,s,q⟩:=b.out.three;obtain⟨Q,S,P,L,O,R⟩:=c.out.three;by_cases d4:K=mg
  ·subst d4
   go_wp2
   clear t x z s y q Q L S O P R;obtain⟨d0,e0,d1,_,_,_⟩:=b.out.three;have H:=b.out.lt;have i2:(ay (N+M)).length<=1048576:=L6 (BQ _ _ 524288 o2 r0) (by omega);have HS:=J (show cF K N D+cF K M E=cF K (N+M) D by rw[HQ.out,lj _ _ _ f9]);refine lT [some 54,some 55,some 56,some 57,some 58,some 59,some 60,none] (zP w.heap.size K N M D (.slice Aa pa.length ca) (.slice Ab pb.length cb) (.slice Ba ra.length da)) 7 _ (by kernel_rfl) (by kernel_rfl) (by rfl) (by rfl) (qh w.heap.size K N M D (.slice Aa pa.length ca) (.slice Ab pb.length cb) (.slice Ba ra.length da) _) (by rfl) (by rfl) (by rfl) (by rfl) (by kernel_rfl) ?_ ?_
   ·refine Steps.cons trivial (fun T W d=>?_) ?_
    ·have e2:T 2=.pointer (some ⟨w.heap.size,0,none⟩):=d.keep 2 (by rfl);have g:=d.wi;clear d;refine aq (v:=.pointer (some ⟨w.heap.size,0,none⟩)) (W':=W) ?_ ⟨Z,Below.refl _ _⟩;simp only[execOp,cA,e2];go_simp
    refine Steps.cons trivial (fun T W d=>?_) ?_
    ·have q2:T 54=.pointer (some ⟨w.heap.size,0,none⟩):=d.fact 1 0 54 (by kernel_rfl);have g:=d.wi;clear d;refine aq (v:=.bool K) (W':=W) ?_ ⟨Z,Below.refl _ _⟩;have q0:=(g.cell (p:=⟨w.heap.size,0,none⟩) H).trans d0;simp only[execOp,cA,q2];go_simp
    refine Steps.cons trivial (fun T W d=>?_) ?_
    ·have e5:T 5=(.slice Aa pa.length ca):=d.keep 5 (by rfl);have g:=d.wi;clear d;refine aq (v:=(.slice Aa pa.length ca)) (W':=W) ?_ ⟨Z,Below.refl _ _⟩;simp only[execOp,cA,e5];go_simp
    refine Steps.cons trivial (fun T W d=>?_) ?_
    ·have e6:T 6=(.slice Ab pb.length cb):=d.keep 6 (by rfl);have g:=d.wi;clear d;refine aq (v:=(.slice Ab pb.length cb)) (W':=W) ?_ ⟨Z,Below.refl _ _⟩;simp only[execOp,cA,e6];go_simp
    refine Steps.cons trivial (fun T W d=>?_) ?_
    ·have p3:T 56=(.slice Aa pa.length ca):=d.fact 1 2 56 (by kernel_rfl);have n1:T 57=(.slice Ab pb.length cb):=d.fact 1 3 57 (by kernel_rfl);have g:=d.wi;clear d;refine bJ ?_ ((Kj (u:=T 56) (v:=T 57) (by rw[p3];exact j.out.below g) (by rw[n1];exact k.out.below g) (by omega) (by omega)).mono fun e W' h=>h);simp only[execOp,resolve,invoke,Nf,MX,ND,cA];go_simp
    refine Steps.cons trivial (fun T W d=>?_) ?_
    ·have e7:T 7=(.slice Ba ra.length da):=d.keep 7 (by rfl);have g:=d.wi;clear d;refine aq (v:=(.slice Ba ra.length da)) (W':=W) ?_ ⟨Z,Below.refl _ _⟩;simp only[execOp,cA,e7];go_simp
    refine Steps.cons trivial (fun T W d=>?_) ?_
    ·have o1:T 55=.bool K:=d.fact 1 1 55 (by kernel_rfl);have i0:(fun r W=>IsD W r (N+M)) (T 58) W:=d.fact 1 4 58 (by kernel_rfl);simp only at i0;have s1:T 59=(.slice Ba ra.length da):=d.fact 1 5 59 (by kernel_rfl);have g:=d.wi;clear d;refine bJ ?_ ((jY K i0 (v:=T 59) (by rw[s1];exact i.out.below g) i2 (by omega)).mono fun e W' h=>h);simp only[execOp,resolve,invoke,Nf,MX,ND,cA,o1];go_simp
    exact Steps.nil
   intro us W1 a0 hF hb;obtain⟨y0,q7,rfl,H⟩:=aY a0;clear a0;obtain⟨y1,p0,rfl,U⟩:=aY H;clear H;obtain⟨y2,n2,rfl,b1⟩:=aY U;clear U;obtain⟨y3,q4,rfl,b2⟩:=aY b1;clear b1;obtain⟨y4,p1,rfl,b3⟩:=aY b2;clear b2;obtain⟨y5,q6,rfl,c0⟩:=aY b3;clear b3;obtain⟨y6,q8,rfl,b5⟩:=aY c0;clear c0;obtain⟨y7,r6,rfl,b0⟩:=aY b5;clear b5;obtain rfl:=kS b0;clear b0;have f6:(fun r W=>IsF W r (cF K (N+M) D)) y6 W1:=hF 6 (by decide);clear hF;simp only[b8,Mn,MD,Mj,Mv,Ms];have g0:=J (a.out.below hb a.out.lt);clear d0 e0 d1 H;have r4:=J f6;unfold IsF at f6;generalize decide ((cF K (N+M) D).num<0)=ng' at*;obtain⟨A9,c9,k1,B9,d9,i4,e9,q5,p7,r3,o3⟩:=IsQ.open_ f6;subst e9;clear f6 q5 p7 r3 o3;obtain⟨z0,z1,z2,f0,f1,f2⟩:=g0.out.three;obtain⟨w9,h9,a3,a2,a4,a5⟩:=cg g0.out (.bool ng') (.slice A9 k1.length c9) (.slice B9 i4.length d9);refine eY (W':=w9) ?_ ?_
   ·rw[<-h9];simp only[execOp,cA];go_simp
   replace G:=J (ak G.out hb F);clear z0 z1 z2 f0 f1 f2 h9 hb
   go_wp2
   obtain⟨z0,z1,z2,_,_,_⟩:=a3.three;refine bodyPost_ret (v:=.agg #[.bool ng',(.slice A9 k1.length c9),(.slice B9 i4.length d9)]) (by simp[results,Tryz.results132,go_sem,z0,z1,z2]) Z ⟨_,Z,?_,G.out.trans (a2.mono (by have:=e1;omega))⟩;exact by rw[HS.out];exact IsQ.store r4.out g0.out fc a5 a4
  have l1:(K==mg)=false:=by cases K<;>cases mg<;>simp at d4⊢
  by_cases i5:M<=N
  ·go_wp2_with fail
   clear t z y Q S P x s q L O R;refine(CM j.out k.out (by omega) (by omega)).mono ?_;rintro e w4 ⟨v4,rfl,h4,A⟩;replace n:=J (n.out.below A);replace o:=J (o.out.below A);replace j:=J (j.out.below A);replace i:=J (i.out.below A);replace k:=J (k.out.below A);replace m:=J (m.out.below A);replace b:=J (b.out.below A b.out.lt);replace c:=J (c.out.below A c.out.lt);replace a:=J (a.out.below A a.out.lt);replace G:=J (ak G.out A F);replace F:=L6 F A.size;clear A;obtain⟨s4,rfl,q9⟩:=h4.1 i5;obtain⟨A4,c4,g4,rfl,r1,g1⟩:=q9.open_;have Y:=J q9;clear h4 q9 r1 g1;have f3:(ay (N-M)).length<=1048576:=L6 (aS (OZ _ _)) (by omega);have a9:=J (show cF K N D+cF mg M E=cF K (N-M) D by rw[HQ.out,ny d4 f9 i5]);obtain⟨t,z,y,x,s,q⟩:=b.out.three
   go_wp2_with fail
   clear t x z s y q;refine(jY K Y.out i.out f3 (by omega)).mono ?_;rintro e w5 ⟨v5,rfl,h5,f⟩;replace n:=J (n.out.below f);replace o:=J (o.out.below f);replace j:=J (j.out.below f);replace i:=J (i.out.below f);replace k:=J (k.out.below f);replace m:=J (m.out.below f);replace Y:=J (Y.out.below f);replace b:=J (b.out.below f b.out.lt);replace c:=J (c.out.below f c.out.lt);replace a:=J (a.out.below f a.out.lt);replace G:=J (ak G.out f F);replace F:=L6 F f.size;clear f;have C2:=J h5;unfold IsF at h5;generalize decide ((cF K (N-M) D).num<0)=ng' at*;obtain⟨A5,c5,m1,B5,d5,x0,rfl,G0,H2,G3,z4⟩:=IsQ.open_ h5;clear h5 G0 H2 G3 z4;obtain⟨z0,z1,z2,f0,f1,f2⟩:=a.out.three
   go_wp2
   clear z0 z1 z2 f0 f1 f2;obtain⟨w9,h9,a3,a2,a4,a5⟩:=cg a.out (.bool ng') (.slice A5 m1.length c5) (.slice B5 x0.length d5);first
    |rw[h9]
    |(have V:=h9;simp only[ne_eq,decide_not]at V;rw[V])
   obtain⟨z0,z1,z2,_,_,_⟩:=a3.three;refine bodyPost_ret (v:=.agg #[.bool ng',(.slice A5 m1.length c5),(.slice B5 x0.length d5)]) (by simp[results,Tryz.results132,go_sem,z0,z1,z2]) Z ⟨_,Z,?_,G.out.trans (a2.mono (by have:=e1;omega))⟩;exact by rw[a9.out];exact IsQ.store C2.out a.out fc a5 a4
  have f4:N<M:=by omega
  go_wp2_with fail
  clear t z y Q S P x s q L O R;refine(CM j.out k.out (by omega) (by omega)).mono ?_;rintro e w4 ⟨v4,rfl,h4,A⟩;replace n:=J (n.out.below A);replace o:=J (o.out.below A);replace j:=J (j.out.below A);replace i:=J (i.out.below A);replace k:=J (k.out.below A);replace m:=J (m.out.below A);replace b:=J (b.out.below A b.out.lt);replace c:=J (c.out.below A c.out.lt);replace a:=J (a.out.below A a.out.lt);replace G:=J (ak G.out A F);replace F:=L6 F A.size;clear A;obtain rfl:=h4.2 f4
  go_wp2_with fail
  refine(CM k.out j.out (by omega) (by omega)).mono ?_;rintro e w5 ⟨v5,rfl,h5,f⟩;replace n:=J (n.out.below f);replace o:=J (o.out.below f);replace j:=J (j.out.below f);replace i:=J (i.out.below f);replace k:=J (k.out.below f);replace m:=J (m.out.below f);replace b:=J (b.out.below f b.out.lt);replace c:=J (c.out.below f c.out.lt);replace a:=J (a.out.below f a.out.lt);replace G:=J (ak G.out f F);replace F:=L6 F f.size;clear f;obtain⟨s5,rfl,f5⟩:=h5.1 (PA f4);obtain⟨A5,c5,m1,rfl,p2,i9⟩:=f5.open_;have e4:=J f5;clear h5 f5 p2 i9;have f3:(ay (M-N)).length<=1048576:=L6 (aS (OZ _ _)) (by omega);have a9:=J (show cF K N D+cF mg M E=cF mg (M-N) D by rw[HQ.out,nA d4 f9 f4]);obtain⟨t,z,y,x,s,q⟩:=c.out.three
  go_wp2_with fail
  clear t x z s y q;refine(jY mg e4.out i.out f3 (by omega)).mono ?_;rintro e w6 ⟨v6,rfl,h6,l⟩;replace n:=J (n.out.below l);replace o:=J (o.out.below l);replace j:=J (j.out.below l);replace i:=J (i.out.below l);replace k:=J (k.out.below l);replace m:=J (m.out.below l);replace e4:=J (e4.out.below l);replace b:=J (b.out.below l b.out.lt);replace c:=J (c.out.below l c.out.lt);replace a:=J (a.out.below l a.out.lt);replace G:=J (ak G.out l F);replace F:=L6 F l.size;clear l;have n0:=J h6;unfold IsF at h6;generalize decide ((cF mg (M-N) D).num<0)=ng' at*;obtain⟨A6,c6,g9,B6,d6,i3,rfl,r5,r2,s2,q1⟩:=IsQ.open_ h6;clear h6 r5 r2 s2 q1;obtain⟨z0,z1,z2,f0,f1,f2⟩:=a.out.three
  go_wp2
  clear z0 z1 z2 f0 f1 f2;obtain⟨w9,h9,a3,a2,a4,a5⟩:=cg a.out (.bool ng') (.slice A6 g9.length c6) (.slice B6 i3.length d6);first
   |rw[h9]
   |(have V:=h9;simp only[ne_eq,decide_not]at V;rw[V])
  obtain⟨z0,z1,z2,_,_,_⟩:=a3.three;refine bodyPost_ret (v:=.agg #[.bool ng',(.slice A6 g9.length c6),(.slice B6 i3.length d6)]) (by simp[results,Tryz.results132,go_sem,z0,z1,z2]) Z ⟨_,Z,?_,G.out.trans (a2.mono (by have:=e1;omega))⟩;exact by rw[a9.out];exact IsQ.store n0.out a.out fc a5 a4
 have i1:(eu (D:Int) (E:Int)==0)=false:=by
  rcases OE D E with h|h|h
  ·rw[iX h];rfl
  ·exact absurd h l0
  rw[iy h];rfl
 obtain⟨cm,x1⟩:∃cm,eu (D:Int) (E:Int)=cm:=⟨_,rfl⟩;rw[x1]at h0 i1;have Q8:(cm !=0)=true:=by simpa[bne]using i1
 clear x1;obtain⟨t,z,y,x,s,q⟩:=b.out.three;obtain⟨Q,S,P,L,O,R⟩:=c.out.three
 go_wp2_with fail
 clear t x z s y q Q L S O P R;refine(h0.out _ _ _ i.out m.out).mono ?_;rintro e w3 ⟨v3,rfl,h3,B⟩;replace n:=J (n.out.below B);replace o:=J (o.out.below B);replace j:=J (j.out.below B);replace i:=J (i.out.below B);replace k:=J (k.out.below B);replace m:=J (m.out.below B);replace b:=J (b.out.below B b.out.lt);replace c:=J (c.out.below B c.out.lt);replace a:=J (a.out.below B a.out.lt);replace G:=J (ak G.out B F);replace F:=L6 F B.size;clear B;obtain rfl:=h3;clear h0
 go_wp2
 obtain⟨d0,e0,d1,_,_,_⟩:=b.out.three;have H:=b.out.lt;obtain⟨p4,k0,k3,_,_,_⟩:=c.out.three;have U:=c.out.lt;refine ft [some 34,some 35,some 36,some 37,some 38,some 39,some 40,some 41,some 42,some 43,some 5,some 6] (Is w.heap.size (w.heap.size+1) N D M E (.slice Aa pa.length ca) (.slice Ba ra.length da) (.slice Ab pb.length cb) (.slice Bb rb.length db)) (by kernel_rfl) (by kernel_rfl) (by rfl) (by rfl) (zO w.heap.size (w.heap.size+1) N D M E (.slice Aa pa.length ca) (.slice Ba ra.length da) (.slice Ab pb.length cb) (.slice Bb rb.length db) _) ?_ ?_
 ·refine Steps.cons trivial (fun T W d=>?_) ?_
  ·have e2:T 2=.pointer (some ⟨w.heap.size,0,none⟩):=d.keep 2 (by rfl);have g:=d.wi;clear d;refine aq (v:=.pointer (some ⟨w.heap.size,1,none⟩)) (W':=W) ?_ ⟨Z,Below.refl _ _⟩;simp only[execOp,cA,e2];go_simp
  refine Steps.cons trivial (fun T W d=>?_) ?_
  ·have J8:T 34=.pointer (some ⟨w.heap.size,1,none⟩):=d.fact 1 0 34 (by kernel_rfl);have g:=d.wi;clear d;refine aq (v:=(.slice Aa pa.length ca)) (W':=W) ?_ ⟨Z,Below.refl _ _⟩;have q0:=(g.cell (p:=⟨w.heap.size,1,none⟩) H).trans e0;simp only[execOp,cA,J8];go_simp
  refine Steps.cons trivial (fun T W d=>?_) ?_
  ·have e3:T 3=.pointer (some ⟨(w.heap.size+1),0,none⟩):=d.keep 3 (by rfl);have g:=d.wi;clear d;refine aq (v:=.pointer (some ⟨(w.heap.size+1),2,none⟩)) (W':=W) ?_ ⟨Z,Below.refl _ _⟩;simp only[execOp,cA,e3];go_simp
  refine Steps.cons trivial (fun T W d=>?_) ?_
  ·have D4:T 36=.pointer (some ⟨(w.heap.size+1),2,none⟩):=d.fact 1 2 36 (by kernel_rfl);have g:=d.wi;clear d;refine aq (v:=(.slice Bb rb.length db)) (W':=W) ?_ ⟨Z,Below.refl _ _⟩;have q0:=(g.cell (p:=⟨w.heap.size+1,2,none⟩) U).trans k3;simp only[execOp,cA,D4];go_simp
  refine Steps.cons trivial (fun T W d=>?_) ?_
  ·have H8:T 35=(.slice Aa pa.length ca):=d.fact 1 1 35 (by kernel_rfl);have D1:T 37=(.slice Bb rb.length db):=d.fact 1 3 37 (by kernel_rfl);have g:=d.wi;clear d;refine bJ ?_ ((GZ (u:=T 35) (v:=T 37) (by rw[H8];exact j.out.below g) (by rw[D1];exact m.out.below g) (by omega) (by omega)).mono fun e W' h=>h);simp only[execOp,resolve,invoke,Nf,MX,ND,cA];go_simp
  refine Steps.cons trivial (fun T W d=>?_) ?_
  ·have e3:T 3=.pointer (some ⟨(w.heap.size+1),0,none⟩):=d.keep 3 (by rfl);have g:=d.wi;clear d;refine aq (v:=.pointer (some ⟨(w.heap.size+1),1,none⟩)) (W':=W) ?_ ⟨Z,Below.refl _ _⟩;simp only[execOp,cA,e3];go_simp
  refine Steps.cons trivial (fun T W d=>?_) ?_
  ·have J1:T 39=.pointer (some ⟨(w.heap.size+1),1,none⟩):=d.fact 1 5 39 (by kernel_rfl);have g:=d.wi;clear d;refine aq (v:=(.slice Ab pb.length cb)) (W':=W) ?_ ⟨Z,Below.refl _ _⟩;have q0:=(g.cell (p:=⟨w.heap.size+1,1,none⟩) U).trans k0;simp only[execOp,cA,J1];go_simp
  refine Steps.cons trivial (fun T W d=>?_) ?_
  ·have e2:T 2=.pointer (some ⟨w.heap.size,0,none⟩):=d.keep 2 (by rfl);have g:=d.wi;clear d;refine aq (v:=.pointer (some ⟨w.heap.size,2,none⟩)) (W':=W) ?_ ⟨Z,Below.refl _ _⟩;simp only[execOp,cA,e2];go_simp
  refine Steps.cons trivial (fun T W d=>?_) ?_
  ·have D2:T 41=.pointer (some ⟨w.heap.size,2,none⟩):=d.fact 1 7 41 (by kernel_rfl);have g:=d.wi;clear d;refine aq (v:=(.slice Ba ra.length da)) (W':=W) ?_ ⟨Z,Below.refl _ _⟩;have q0:=(g.cell (p:=⟨w.heap.size,2,none⟩) H).trans d1;simp only[execOp,cA,D2];go_simp
  refine Steps.cons trivial (fun T W d=>?_) ?_
  ·have B0:T 40=(.slice Ab pb.length cb):=d.fact 1 6 40 (by kernel_rfl);have L2:T 42=(.slice Ba ra.length da):=d.fact 1 8 42 (by kernel_rfl);have g:=d.wi;clear d;refine bJ ?_ ((GZ (u:=T 40) (v:=T 42) (by rw[B0];exact k.out.below g) (by rw[L2];exact i.out.below g) (by omega) (by omega)).mono fun e W' h=>h);simp only[execOp,resolve,invoke,Nf,MX,ND,cA];go_simp
  refine Steps.cons trivial (fun T W d=>?_) ?_
  ·have w0:(fun r W=>IsD W r (N*E)) (T 38) W:=d.fact 1 4 38 (by kernel_rfl);simp only at w0;have g:=d.wi;clear d;exact aq (v:=T 38) (W':=W) (by simp only[execOp,cA];go_simp) ⟨w0,Below.refl _ _⟩
  refine Steps.cons trivial (fun T W d=>?_) ?_
  ·have u2:(fun r W=>IsD W r (M*D)) (T 43) W:=d.fact 1 9 43 (by kernel_rfl);simp only at u2;have g:=d.wi;clear d;exact aq (v:=T 43) (W':=W) (by simp only[execOp,cA];go_simp) ⟨u2,Below.refl _ _⟩
  exact Steps.nil
 intro us W1 a0 hF hb;obtain⟨y0,q7,rfl,H⟩:=aY a0;clear a0;obtain⟨y1,p0,rfl,U⟩:=aY H;clear H;obtain⟨y2,n2,rfl,b1⟩:=aY U;clear U;obtain⟨y3,q4,rfl,b2⟩:=aY b1;clear b1;obtain⟨y4,p1,rfl,b3⟩:=aY b2;clear b2;obtain⟨y5,q6,rfl,c0⟩:=aY b3;clear b3;obtain⟨y6,q8,rfl,b5⟩:=aY c0;clear c0;obtain⟨y7,r6,rfl,b0⟩:=aY b5;clear b5;obtain⟨y8,F7,rfl,h8⟩:=aY b0;clear b0;obtain⟨y9,Q6,rfl,t4⟩:=aY h8;clear h8;obtain⟨g3,L3,rfl,m3⟩:=aY t4;clear t4;obtain⟨g2,Q0,rfl,m9⟩:=aY m3;clear m3;obtain rfl:=kS m9;clear m9;have u1:(fun r W=>IsD W r (N*E)) g3 W1:=hF 10 (by decide);have t0:(fun r W=>IsD W r (M*D)) g2 W1:=hF 11 (by decide);clear hF;simp only[b8,Mn,MD,Mj,Mv,Ms];clear d0 e0 d1 H p4 k0 k3 U;replace n:=J (n.out.below hb);replace o:=J (o.out.below hb);replace j:=J (j.out.below hb);replace i:=J (i.out.below hb);replace k:=J (k.out.below hb);replace m:=J (m.out.below hb);replace b:=J (b.out.below hb b.out.lt);replace c:=J (c.out.below hb c.out.lt);replace a:=J (a.out.below hb a.out.lt);replace G:=J (ak G.out hb F);replace F:=L6 F hb.size;clear hb;have HX:=J u1;have HY:=J t0;simp only at HX HY;clear u1 t0;obtain⟨t,z,y,x,s,q⟩:=b.out.three;obtain⟨Q,S,P,L,O,R⟩:=c.out.three
 go_wp2_with fail
 clear t x z s y q Q L S O P R;refine(GZ i.out m.out (by omega) (by omega)).mono ?_;rintro e w4 ⟨v4,rfl,h4,A⟩;replace n:=J (n.out.below A);replace o:=J (o.out.below A);replace j:=J (j.out.below A);replace i:=J (i.out.below A);replace k:=J (k.out.below A);replace m:=J (m.out.below A);replace HX:=J (HX.out.below A);replace HY:=J (HY.out.below A);replace b:=J (b.out.below A b.out.lt);replace c:=J (c.out.below A c.out.lt);replace a:=J (a.out.below A a.out.lt);replace G:=J (ak G.out A F);replace F:=L6 F A.size;clear A;obtain⟨A4,c4,g4,rfl,r1,g1⟩:=h4.open_;have Y:=J h4;have Q4:=J g1.out;clear h4 r1 g1;have HQ:Hid (cF K N D+cF mg M E=cF K (N*E) (D*E)+cF mg (M*D) (D*E)):=by
  show _=_
  rw[zM K (N:=N) (D:=D) (X:=N*E) (E:=D*E) j3 (Oi j3 k5) (by rw[Mt D E,Mu]),zM mg (N:=M) (D:=E) (X:=M*D) (E:=D*E) k5 (Oi j3 k5) (by rw[Mu])]
 have o2:(ay (N*E)).length<=524288:=L6 (vV _ _) (by omega);have r0:(ay (M*D)).length<=524288:=L6 (vV _ _) (by omega);have z9:(ay (D*E)).length<=524288:=L6 (vV _ _) (by omega);have f9:0<D*E:=Oi j3 k5;obtain⟨t,z,y,x,s,q⟩:=b.out.three;obtain⟨Q,S,P,L,O,R⟩:=c.out.three;by_cases d4:K=mg
 ·subst d4
  go_wp2
  clear t x z s y q Q L S O P R;obtain⟨d0,e0,d1,_,_,_⟩:=b.out.three;have H:=b.out.lt;have i2:(ay (N*E+M*D)).length<=1048576:=L6 (BQ _ _ 524288 o2 r0) (by omega);have HS:=J (show cF K N D+cF K M E=cF K (N*E+M*D) (D*E) by rw[HQ.out,lj _ _ _ f9]);refine lT [some 54,some 55,some 56,some 57,some 58,some 59,some 60,none] (zP w.heap.size K (N*E) (M*D) (D*E) g3 g2 (.slice A4 g4.length c4)) 7 _ (by kernel_rfl) (by kernel_rfl) (by rfl) (by rfl) (qh w.heap.size K (N*E) (M*D) (D*E) g3 g2 (.slice A4 g4.length c4) _) (by rfl) (by rfl) (by rfl) (by rfl) (by kernel_rfl) ?_ ?_
  ·refine Steps.cons trivial (fun T W d=>?_) ?_
   ·have e2:T 2=.pointer (some ⟨w.heap.size,0,none⟩):=d.keep 2 (by rfl);have g:=d.wi;clear d;refine aq (v:=.pointer (some ⟨w.heap.size,0,none⟩)) (W':=W) ?_ ⟨Z,Below.refl _ _⟩;simp only[execOp,cA,e2];go_simp
   refine Steps.cons trivial (fun T W d=>?_) ?_
   ·have q2:T 54=.pointer (some ⟨w.heap.size,0,none⟩):=d.fact 1 0 54 (by kernel_rfl);have g:=d.wi;clear d;refine aq (v:=.bool K) (W':=W) ?_ ⟨Z,Below.refl _ _⟩;have q0:=(g.cell (p:=⟨w.heap.size,0,none⟩) H).trans d0;simp only[execOp,cA,q2];go_simp
   refine Steps.cons trivial (fun T W d=>?_) ?_
   ·have e5:T 5=g3:=d.keep 5 (by rfl);have g:=d.wi;clear d;refine aq (v:=g3) (W':=W) ?_ ⟨Z,Below.refl _ _⟩;simp only[execOp,cA,e5];go_simp
   refine Steps.cons trivial (fun T W d=>?_) ?_
   ·have e6:T 6=g2:=d.keep 6 (by rfl);have g:=d.wi;clear d;refine aq (v:=g2) (W':=W) ?_ ⟨Z,Below.refl _ _⟩;simp only[execOp,cA,e6];go_simp
   refine Steps.cons trivial (fun T W d=>?_) ?_
   ·have p3:T 56=g3:=d.fact 1 2 56 (by kernel_rfl);have n1:T 57=g2:=d.fact 1 3 57 (by kernel_rfl);have g:=d.wi;clear d;refine bJ ?_ ((Kj (u:=T 56) (v:=T 57) (by rw[p3];exact HX.out.below g) (by rw[n1];exact HY.out.below g) (by omega) (by omega)).mono fun e W' h=>h);simp only[execOp,resolve,invoke,Nf,MX,ND,cA];go_simp
   refine Steps.cons trivial (fun T W d=>?_) ?_
   ·have e7:T 7=(.slice A4 g4.length c4):=d.keep 7 (by rfl);have g:=d.wi;clear d;refine aq (v:=(.slice A4 g4.length c4)) (W':=W) ?_ ⟨Z,Below.refl _ _⟩;simp only[execOp,cA,e7];go_simp
   refine Steps.cons trivial (fun T W d=>?_) ?_
   ·have o1:T 55=.bool K:=d.fact 1 1 55 (by kernel_rfl);have i0:(fun r W=>IsD W r ((N*E)+(M*D))) (T 58) W:=d.fact 1 4 58 (by kernel_rfl);simp only at i0;have s1:T 59=(.slice A4 g4.length c4):=d.fact 1 5 59 (by kernel_rfl);have g:=d.wi;clear d;refine bJ ?_ ((jY K i0 (v:=T 59) (by rw[s1];exact Y.out.below g) i2 (by omega)).mono fun e W' h=>h);simp only[execOp,resolve,invoke,Nf,MX,ND,cA,o1];go_simp
   exact Steps.nil
  intro us W1 a0 hF hb;obtain⟨y0,q7,rfl,H⟩:=aY a0;clear a0;obtain⟨y1,p0,rfl,U⟩:=aY H;clear H;obtain⟨y2,n2,rfl,b1⟩:=aY U;clear U;obtain⟨y3,q4,rfl,b2⟩:=aY b1;clear b1;obtain⟨y4,p1,rfl,b3⟩:=aY b2;clear b2;obtain⟨y5,q6,rfl,c0⟩:=aY b3;clear b3;obtain⟨y6,q8,rfl,b5⟩:=aY c0;clear c0;obtain⟨y7,r6,rfl,b0⟩:=aY b5;clear b5;obtain rfl:=kS b0;clear b0;have f6:(fun r W=>IsF W r (cF K ((N*E)+(M*D)) (D*E))) y6 W1:=hF 6 (by decide);clear hF;simp only[b8,Mn,MD,Mj,Mv,Ms];have g0:=J (a.out.below hb a.out.lt);clear d0 e0 d1 H;have r4:=J f6;unfold IsF at f6;generalize decide ((cF K (N*E+M*D) (D*E)).num<0)=ng' at*;obtain⟨A9,c9,k1,B9,d9,i4,e9,q5,p7,r3,o3⟩:=IsQ.open_ f6;subst e9;clear f6 q5 p7 r3 o3;obtain⟨z0,z1,z2,f0,f1,f2⟩:=g0.out.three;obtain⟨w9,h9,a3,a2,a4,a5⟩:=cg g0.out (.bool ng') (.slice A9 k1.length c9) (.slice B9 i4.length d9);refine eY (W':=w9) ?_ ?_
  ·rw[<-h9];simp only[execOp,cA];go_simp
  replace G:=J (ak G.out hb F);clear z0 z1 z2 f0 f1 f2 h9 hb
  go_wp2
  obtain⟨z0,z1,z2,_,_,_⟩:=a3.three;refine bodyPost_ret (v:=.agg #[.bool ng',(.slice A9 k1.length c9),(.slice B9 i4.length d9)]) (by simp[results,Tryz.results132,go_sem,z0,z1,z2]) Z ⟨_,Z,?_,G.out.trans (a2.mono (by have:=e1;omega))⟩;exact by rw[HS.out];exact IsQ.store r4.out g0.out fc a5 a4
 have l1:(K==mg)=false:=by cases K<;>cases mg<;>simp at d4⊢
 by_cases i5:M*D<=N*E
 ·go_wp2_with fail
  clear t z y Q S P x s q L O R;refine(CM HX.out HY.out (by omega) (by omega)).mono ?_;rintro e w5 ⟨v5,rfl,h5,f⟩;replace n:=J (n.out.below f);replace o:=J (o.out.below f);replace j:=J (j.out.below f);replace i:=J (i.out.below f);replace k:=J (k.out.below f);replace m:=J (m.out.below f);replace HX:=J (HX.out.below f);replace HY:=J (HY.out.below f);replace Y:=J (Y.out.below f);replace b:=J (b.out.below f b.out.lt);replace c:=J (c.out.below f c.out.lt);replace a:=J (a.out.below f a.out.lt);replace G:=J (ak G.out f F);replace F:=L6 F f.size;clear f;obtain⟨s5,rfl,f5⟩:=h5.1 i5;obtain⟨A5,c5,m1,rfl,p2,i9⟩:=f5.open_;have e4:=J f5;clear h5 f5 p2 i9;have f3:(ay (N*E-M*D)).length<=1048576:=L6 (aS (OZ _ _)) (by omega);have a9:=J (show cF K N D+cF mg M E=cF K (N*E-M*D) (D*E) by rw[HQ.out,ny d4 f9 i5]);obtain⟨t,z,y,x,s,q⟩:=b.out.three
  go_wp2_with fail
  clear t x z s y q;refine(jY K e4.out Y.out f3 (by omega)).mono ?_;rintro e w6 ⟨v6,rfl,h6,l⟩;replace n:=J (n.out.below l);replace o:=J (o.out.below l);replace j:=J (j.out.below l);replace i:=J (i.out.below l);replace k:=J (k.out.below l);replace m:=J (m.out.below l);replace HX:=J (HX.out.below l);replace HY:=J (HY.out.below l);replace Y:=J (Y.out.below l);replace e4:=J (e4.out.below l);replace b:=J (b.out.below l b.out.lt);replace c:=J (c.out.below l c.out.lt);replace a:=J (a.out.below l a.out.lt);replace G:=J (ak G.out l F);replace F:=L6 F l.size;clear l;have n0:=J h6;unfold IsF at h6;generalize decide ((cF K (N*E-M*D) (D*E)).num<0)=ng' at*;obtain⟨A6,c6,g9,B6,d6,i3,rfl,r5,r2,s2,q1⟩:=IsQ.open_ h6;clear h6 r5 r2 s2 q1;obtain⟨z0,z1,z2,f0,f1,f2⟩:=a.out.three
  go_wp2
  clear z0 z1 z2 f0 f1 f2;obtain⟨w9,h9,a3,a2,a4,a5⟩:=cg a.out (.bool ng') (.slice A6 g9.length c6) (.slice B6 i3.length d6);first
   |rw[h9]
   |(have V:=h9;simp only[ne_eq,decide_not]at V;rw[V])
  obtain⟨z0,z1,z2,_,_,_⟩:=a3.three;refine bodyPost_ret (v:=.agg #[.bool ng',(.slice A6 g9.length c6),(.slice B6 i3.length d6)]) (by simp[results,Tryz.results132,go_sem,z0,z1,z2]) Z ⟨_,Z,?_,G.out.trans (a2.mono (by have:=e1;omega))⟩;exact by rw[a9.out];exact IsQ.store n0.out a.out fc a5 a4
 have f4:N*E<M*D:=by omega
 go_wp2_with fail
 clear t z y Q S P x s q L O R;refine(CM HX.out HY.out (by omega) (by omega)).mono ?_;rintro e w5 ⟨v5,rfl,h5,f⟩;replace n:=J (n.out.below f);replace o:=J (o.out.below f);replace j:=J (j.out.below f);replace i:=J (i.out.below f);replace k:=J (k.out.below f);replace m:=J (m.out.below f);replace HX:=J (HX.out.below f);replace HY:=J (HY.out.below f);replace Y:=J (Y.out.below f);replace b:=J (b.out.below f b.out.lt);replace c:=J (c.out.below f c.out.lt);replace a:=J (a.out.below f a.out.lt);replace G:=J (ak G.out f F);replace F:=L6 F f.size;clear f;obtain rfl:=h5.2 f4
 go_wp2_with fail
 refine(CM HY.out HX.out (by omega) (by omega)).mono ?_;rintro e w6 ⟨v6,rfl,h6,l⟩;replace n:=J (n.out.below l);replace o:=J (o.out.below l);replace j:=J (j.out.below l);replace i:=J (i.out.below l);replace k:=J (k.out.below l);replace m:=J (m.out.below l);replace HX:=J (HX.out.below l);replace HY:=J (HY.out.below l);replace Y:=J (Y.out.below l);replace b:=J (b.out.below l b.out.lt);replace c:=J (c.out.below l c.out.lt);replace a:=J (a.out.below l a.out.lt);replace G:=J (ak G.out l F);replace F:=L6 F l.size;clear l;obtain⟨s6,rfl,r7⟩:=h6.1 (PA f4);obtain⟨A6,c6,g9,rfl,L1,u8⟩:=r7.open_;have q3:=J r7;clear h6 r7 L1 u8;have f3:(ay (M*D-N*E)).length<=1048576:=L6 (aS (OZ _ _)) (by omega);have a9:=J (show cF K N D+cF mg M E=cF mg (M*D-N*E) (D*E) by rw[HQ.out,nA d4 f9 f4]);obtain⟨t,z,y,x,s,q⟩:=c.out.three
 go_wp2_with fail
 clear t x z s y q;refine(jY mg q3.out Y.out f3 (by omega)).mono ?_;rintro e w7 ⟨v7,rfl,h7,a1⟩;replace n:=J (n.out.below a1);replace o:=J (o.out.below a1);replace j:=J (j.out.below a1);replace i:=J (i.out.below a1);replace k:=J (k.out.below a1);replace m:=J (m.out.below a1);replace HX:=J (HX.out.below a1);replace HY:=J (HY.out.below a1);replace Y:=J (Y.out.below a1);replace q3:=J (q3.out.below a1);replace b:=J (b.out.below a1 b.out.lt);replace c:=J (c.out.below a1 c.out.lt);replace a:=J (a.out.below a1 a.out.lt);replace G:=J (ak G.out a1 F);replace F:=L6 F a1.size;clear a1;have F2:=J h7;unfold IsF at h7;generalize decide ((cF mg (M*D-N*E) (D*E)).num<0)=ng' at*;obtain⟨A7,c7,v9,B7,d7,t9,rfl,B1,K2,E0,A0⟩:=IsQ.open_ h7;clear h7 B1 K2 E0 A0;obtain⟨z0,z1,z2,f0,f1,f2⟩:=a.out.three
 go_wp2
 clear z0 z1 z2 f0 f1 f2;obtain⟨w9,h9,a3,a2,a4,a5⟩:=cg a.out (.bool ng') (.slice A7 v9.length c7) (.slice B7 t9.length d7);first
  |rw[h9]
  |(have V:=h9;simp only[ne_eq,decide_not]at V;rw[V])
 obtain⟨z0,z1,z2,_,_,_⟩:=a3.three;refine bodyPost_ret (v:=.agg #[.bool ng',(.slice A7 v9.length c7),(.slice B7 t9.length d7)]) (by simp[results,Tryz.results132,go_sem,z0,z1,z2]) Z ⟨_,Z,?_,G.out.trans (a2.mono (by have:=e1;omega))⟩;exact by rw[a9.out];exact IsQ.store F2.out a.out fc a5 a4
end Go.Proofs.YtfoejfohbkmmeaaGreatDoor
