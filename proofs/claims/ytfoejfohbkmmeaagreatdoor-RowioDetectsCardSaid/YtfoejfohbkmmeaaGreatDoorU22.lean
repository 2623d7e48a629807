import Derived.Test.YtfoejfohbkmmeaaGreatDoorU21
import Derived.Test.YtfoejfohbkmmeaaGreatDoorU00
set_option maxRecDepth 100000
set_option maxHeartbeats 4000000
namespace Go.Proofs.YtfoejfohbkmmeaaGreatDoor
open Go.RowKit
open Lib renaming hid→J
theorem zL{v:Value}{n:Nat}{w:World}(h:IsD w v n):Calls Tryz.prog 109 #[v] w (Gives (fun _ r=>r=.bool (decide (n=1))) w):=by
 obtain⟨A,c,f,rfl,j,d⟩:=h.open_;have s:=J j;have a:=J d.out;clear h j d;by_cases m:f.length=1
 ·obtain⟨y,p,o⟩:=xx (n:=n) (by rw[<-a.out];exact m);obtain⟨b,off,rfl,x,l⟩:=s.out.digit (i:=0) (by omega);have q:=l 0 (by omega);have e:f=[n]:=by rw[a.out,o]
  simp only[e,Ow,No]at q;have t:((f.length:Int)==1)=true:=by rw[beq_iff_eq];omega
  have k:((n:Int)==1)=decide (n=1):=by
   by_cases g:n=1
   ·subst g;rfl
   simp[g];omega
  have u:=J k;clear l o e k
  go_enter Tryz.func109,Tryz.ntmps109
  go_wp2
  go_ret
  exact⟨_,Z,by first|exact congrArg Value.bool u.out|rfl,Below.refl _ _⟩
 have t:((f.length:Int)==1)=false:=by rw[beq_eq_false_iff_ne];omega
 have g:n≠1:=fun e=>m (by rw[a.out,e];rfl)
 go_enter Tryz.func109,Tryz.ntmps109
 go_wp2
 go_ret
 exact⟨_,Z,by simp only[g,decide_false];rfl,Below.refl _ _⟩
theorem E4(w:World):Calls Tryz.prog 208 #[] w (Gives (fun W r=>IsF W r 0) w):=by
 obtain⟨W,B,c,f,j⟩:=lQ w 65 #[.bool false,.slice none 0 0,.slice none 0 0];have C:=J B;have k:=J c;have d:=J f;have x:=c.size;clear B c f j
 go_enter Tryz.func208,Tryz.ntmps208
 go_wp2_with fail
 rw[C.out];refine(ji 1 _ (by omega)).mono ?_;rintro e I ⟨K,rfl,l,a⟩;replace d:=J (d.out.below a d.out.lt);replace k:=J (ak k.out a x);replace x:=L6 x a.size;clear a;obtain⟨y,A,h,rfl,u,b⟩:=l.open_;have n:=J l;have E:=J b.out;clear l u b;obtain⟨s,p,q,F,G,D⟩:=d.out.three
 go_wp2
 clear s p q F G D;obtain⟨H,z,o,m,i,t⟩:=cg d.out (.bool false) (.slice none 0 0) (.slice y h.length A);first
  |rw[z]
  |(have g:=z;simp only[ne_eq,decide_not]at g;rw[g])
 obtain⟨s,p,q,_,_,_⟩:=o.three;refine bodyPost_ret (v:=.agg #[.bool false,(.slice none 0 0),(.slice y h.length A)]) (by simp[results,Tryz.results208,go_sem,s,p,q]) Z ⟨_,Z,?_,k.out.trans (m.mono (L5 _))⟩;exact⟨_,_,Z,IsD.zero _,n.out.store d.out fc t i⟩
theorem LA(w:World):Calls Tryz.prog 131 #[] w (Gives (fun W r=>IsF W r 1) w):=by
 obtain⟨W,K,g,m,q⟩:=lQ w 65 #[.bool false,.slice none 0 0,.slice none 0 0];have L:=J K;have k:=J g;have b:=J m;have i:=g.size;clear K g m q
 go_enter Tryz.func131,Tryz.ntmps131
 go_wp2_with fail
 rw[L.out];refine(ji 1 _ (by omega)).mono ?_;rintro e S ⟨V,rfl,s,c⟩;replace b:=J (b.out.below c b.out.lt);replace k:=J (ak k.out c i);replace i:=L6 i c.size;clear c;obtain⟨G,I,p,rfl,B,d⟩:=s.open_;have h:=J s;have O:=J d.out;clear s B d
 go_wp2_with fail
 refine(ji 1 _ (by omega)).mono ?_;rintro e T ⟨U,rfl,A,a⟩;replace h:=J (h.out.below a);replace b:=J (b.out.below a b.out.lt);replace k:=J (ak k.out a i);replace i:=L6 i a.size;clear a;obtain⟨E,F,l,rfl,C,f⟩:=A.open_;have D:=J A;have M:=J f.out;clear A C f;obtain⟨z,x,y,P,Q,N⟩:=b.out.three
 go_wp2
 clear z x y P Q N;obtain⟨R,H,u,t,j,n⟩:=cg b.out (.bool false) (.slice G p.length I) (.slice E l.length F);first
  |rw[H]
  |(have o:=H;simp only[ne_eq,decide_not]at o;rw[o])
 obtain⟨z,x,y,_,_,_⟩:=u.three;refine bodyPost_ret (v:=.agg #[.bool false,(.slice G p.length I),(.slice E l.length F)]) (by simp[results,Tryz.results131,go_sem,z,x,y]) Z ⟨_,Z,?_,k.out.trans (t.mono (L5 _))⟩;exact⟨_,_,Z,h.out.store b.out fc n j,D.out.store b.out fc n j⟩
theorem jY(Q:Bool){u v:Value}{N D:Nat}{w:World}(hu:IsD w u N)(hv:IsD w v D)(R:(ay N).length<=1048576)(a5:(ay D).length<=1048576):Calls Tryz.prog 145 #[.bool Q,u,v] w (Gives (fun W r=>IsF W r (cF Q N D)) w):=by
 obtain⟨W,hW,M,b1,d4⟩:=lQ w 65 #[.bool false,.slice none 0 0,.slice none 0 0];have HW:=J hW;have o:=J M;have a:=J b1;have c:=M.size;have n:=J (hu.below M);have l:=J (hv.below M);obtain⟨A0,c0,x,rfl,_,hx⟩:=hu.open_;obtain⟨B0,e0,y,rfl,_,hy⟩:=hv.open_;clear hW M b1 d4 hu hv;obtain⟨m,hm⟩:∃m,c8 N=m:=⟨_,rfl⟩;obtain⟨k,hk⟩:∃k,c8 D=k:=⟨_,rfl⟩;have gm:=li hm;have gk:=li hk;have HM:=J (oB n.out R);rw[hm]at HM;have HK:Hid (∀w,IsD w (.slice B0 y.length e0) D->Calls Tryz.prog 129 #[.slice B0 y.length e0] w (Gives (fun _ r=>r=.int .i64 k) w)):=fun w h=>by have:=oB h a5;rwa[hk]at this
 clear hm hk
 go_enter Tryz.func145,Tryz.ntmps145
 by_cases hN:N=0
 ·rw[decide_eq_true hN]at gm
  go_wp2_with fail
  rw[HW.out];refine(HM.out).mono ?_;rintro e w1 ⟨v1,rfl,P,p⟩;replace n:=J (n.out.below p);replace l:=J (l.out.below p);replace a:=J (a.out.below p a.out.lt);replace o:=J (ak o.out p c);replace c:=L6 c p.size;clear p;obtain rfl:=P
  go_wp2_with fail
  refine(E4 _).mono ?_;rintro e w2 ⟨v2,rfl,S,b⟩;replace n:=J (n.out.below b);replace l:=J (l.out.below b);replace a:=J (a.out.below b a.out.lt);replace o:=J (ak o.out b c);replace c:=L6 c b.size;clear b;have d7:=J S;obtain⟨A2,c2,c9,B2,d2,c7,rfl,c4,d0,b3,b5⟩:=IsQ.open_ S;have e7:=J c4;have e9:=J d0;have e6:=J b3.out;have e4:=J b5.out;clear S c4 d0 b3 b5;have HQ:Hid (cF Q N D=0):=by rw[hN];exact ky _ _
  obtain⟨E,A,C,f0,f1,f2⟩:=a.out.three
  go_wp2
  clear E A C f0 f1 f2;obtain⟨w9,K,B,F,z,t⟩:=cg a.out (.bool false) (.slice A2 c9.length c2) (.slice B2 c7.length d2);first
   |rw[K]
   |(have s:=K;simp only[ne_eq,decide_not]at s;rw[s])
  obtain⟨E,A,C,_,_,_⟩:=B.three;refine bodyPost_ret (v:=.agg #[.bool false,(.slice A2 c9.length c2),(.slice B2 c7.length d2)]) (by simp[results,Tryz.results145,go_sem,E,A,C]) Z ⟨_,Z,?_,o.out.trans (F.mono (L5 _))⟩;exact by rw[HQ.out];exact IsQ.store d7.out a.out fc t z
 rw[decide_eq_false hN]at gm
 go_wp2_with fail
 rw[HW.out];refine(HM.out).mono ?_;rintro e w1 ⟨v1,rfl,P,p⟩;replace n:=J (n.out.below p);replace l:=J (l.out.below p);replace a:=J (a.out.below p a.out.lt);replace o:=J (ak o.out p c);replace c:=L6 c p.size;clear p;obtain rfl:=P;by_cases hD:D=0
 ·rw[decide_eq_true hD]at gk
  go_wp2_with fail
  refine(HK.out _ l.out).mono ?_;rintro e w2 ⟨v2,rfl,S,b⟩;replace n:=J (n.out.below b);replace l:=J (l.out.below b);replace a:=J (a.out.below b a.out.lt);replace o:=J (ak o.out b c);replace c:=L6 c b.size;clear b;obtain rfl:=S
  go_wp2_with fail
  refine(E4 _).mono ?_;rintro e w3 ⟨v3,rfl,h3,q⟩;replace n:=J (n.out.below q);replace l:=J (l.out.below q);replace a:=J (a.out.below q a.out.lt);replace o:=J (ak o.out q c);replace c:=L6 c q.size;clear q;have d9:=J h3;obtain⟨A3,c3,V,B3,d3,a9,rfl,d1,b2,b0,c1⟩:=IsQ.open_ h3;have e5:=J d1;have e1:=J b2;have f6:=J b0.out;have f3:=J c1.out;clear h3 d1 b2 b0 c1;have HQ:Hid (cF Q N D=0):=by rw[hD];exact si _ _
  obtain⟨E,A,C,f0,f1,f2⟩:=a.out.three
  go_wp2
  clear E A C f0 f1 f2;obtain⟨w9,K,B,F,z,t⟩:=cg a.out (.bool false) (.slice A3 V.length c3) (.slice B3 a9.length d3);first
   |rw[K]
   |(have s:=K;simp only[ne_eq,decide_not]at s;rw[s])
  obtain⟨E,A,C,_,_,_⟩:=B.three;refine bodyPost_ret (v:=.agg #[.bool false,(.slice A3 V.length c3),(.slice B3 a9.length d3)]) (by simp[results,Tryz.results145,go_sem,E,A,C]) Z ⟨_,Z,?_,o.out.trans (F.mono (L5 _))⟩;exact by rw[HQ.out];exact IsQ.store d9.out a.out fc t z
 rw[decide_eq_false hD]at gk
 go_wp2_with fail
 refine(HK.out _ l.out).mono ?_;rintro e w2 ⟨v2,rfl,S,b⟩;replace n:=J (n.out.below b);replace l:=J (l.out.below b);replace a:=J (a.out.below b a.out.lt);replace o:=J (ak o.out b c);replace c:=L6 c b.size;clear b;obtain rfl:=S;have a2:0<Nat.gcd N D:=PZ _ (by omega);have Y:(ay (Nat.gcd N D)).length<=1048576:=L6 (aS (Nat.gcd_le_left _ (by omega))) R;obtain⟨g,hg⟩:∃g,Nat.gcd N D=g:=⟨_,rfl⟩;have U:Hid (∀W v,IsQ W v Q (N/g) (D/g)->IsF W v (cF Q N D)):=fun W v h=>C0 (by omega) (by omega) (by rw[hg];exact h)
 have d5:Hid (∀w u v,IsD w u N->IsD w v D->Calls Tryz.prog 209 #[u,v] w (Gives (fun W r=>IsD W r g) w)):=fun w u v P S=>by have:=Ko P S R a5;rwa[hg]at this
 rw[hg]at a2 Y;clear hg
 go_wp2_with fail
 refine(d5.out _ _ _ n.out l.out).mono ?_;rintro e w3 ⟨v3,rfl,h3,q⟩;replace n:=J (n.out.below q);replace l:=J (l.out.below q);replace a:=J (a.out.below q a.out.lt);replace o:=J (ak o.out q c);replace c:=L6 c q.size;clear q;obtain⟨A3,c3,V,rfl,d6,T⟩:=h3.open_;have f:=J h3;have f4:=J T.out;clear h3 d6 T;by_cases P:g=1
 ·have HO:Hid (∀w v,IsD w v g->Calls Tryz.prog 109 #[v] w (Gives (fun _ r=>r=.bool true) w)):=fun w v h=>by have:=zL h;rwa[decide_eq_true P]at this
  go_wp2_with fail
  refine(HO.out _ _ f.out).mono ?_;rintro e w4 ⟨v4,rfl,h4,i⟩;replace n:=J (n.out.below i);replace l:=J (l.out.below i);replace f:=J (f.out.below i);replace a:=J (a.out.below i a.out.lt);replace o:=J (ak o.out i c);replace c:=L6 c i.size;clear i;obtain rfl:=h4
  go_wp2_with fail
  refine(uf n.out (by omega)).mono ?_;rintro e w5 ⟨v5,rfl,h5,j⟩;replace n:=J (n.out.below j);replace l:=J (l.out.below j);replace f:=J (f.out.below j);replace a:=J (a.out.below j a.out.lt);replace o:=J (ak o.out j c);replace c:=L6 c j.size;clear j;obtain⟨A5,c5,O,rfl,a4,H⟩:=h5.open_;have G:=J h5;have e3:=J H.out;clear h5 a4 H
  go_wp2_with fail
  refine(uf l.out (by omega)).mono ?_;rintro e w6 ⟨v6,rfl,h6,d⟩;replace n:=J (n.out.below d);replace l:=J (l.out.below d);replace f:=J (f.out.below d);replace G:=J (G.out.below d);replace a:=J (a.out.below d a.out.lt);replace o:=J (ak o.out d c);replace c:=L6 c d.size;clear d;obtain⟨A6,c6,L,rfl,a1,I⟩:=h6.open_;have a3:=J h6;have e2:=J I.out;clear h6 a1 I;obtain⟨E,A,C,f0,f1,f2⟩:=a.out.three
  go_wp2
  clear E A C f0 f1 f2;obtain⟨w9,K,B,F,z,t⟩:=cg a.out (.bool Q) (.slice A5 O.length c5) (.slice A6 L.length c6);first
   |rw[K]
   |(have s:=K;simp only[ne_eq,decide_not]at s;rw[s])
  obtain⟨E,A,C,_,_,_⟩:=B.three;refine bodyPost_ret (v:=.agg #[.bool Q,(.slice A5 O.length c5),(.slice A6 L.length c6)]) (by simp[results,Tryz.results145,go_sem,E,A,C]) Z ⟨_,Z,?_,o.out.trans (F.mono (L5 _))⟩;exact U.out _ _ ⟨_,_,Z,by rw[P,P2];exact G.out.store a.out fc t z,by rw[P,P2];exact a3.out.store a.out fc t z⟩
 have HO:Hid (∀w v,IsD w v g->Calls Tryz.prog 109 #[v] w (Gives (fun _ r=>r=.bool false) w)):=fun w v h=>by have:=zL h;rwa[decide_eq_false P]at this
 go_wp2_with fail
 refine(HO.out _ _ f.out).mono ?_;rintro e w4 ⟨v4,rfl,h4,i⟩;replace n:=J (n.out.below i);replace l:=J (l.out.below i);replace f:=J (f.out.below i);replace a:=J (a.out.below i a.out.lt);replace o:=J (ak o.out i c);replace c:=L6 c i.size;clear i;obtain rfl:=h4
 go_wp2_with fail
 refine(vU n.out f.out R Y a2).mono ?_;rintro e w5 ⟨v5,rfl,h5,j⟩;replace n:=J (n.out.below j);replace l:=J (l.out.below j);replace f:=J (f.out.below j);replace a:=J (a.out.below j a.out.lt);replace o:=J (ak o.out j c);replace c:=L6 c j.size;clear j;obtain⟨q5,r5,rfl,a0,_⟩:=h5;obtain⟨A5,c5,O,rfl,a4,H⟩:=a0.open_;have G:=J a0;clear a0 a4 H
 go_wp2_with fail
 refine(vU l.out f.out a5 Y a2).mono ?_;rintro e w6 ⟨v6,rfl,h6,d⟩;replace n:=J (n.out.below d);replace l:=J (l.out.below d);replace f:=J (f.out.below d);replace G:=J (G.out.below d);replace a:=J (a.out.below d a.out.lt);replace o:=J (ak o.out d c);replace c:=L6 c d.size;clear d;obtain⟨q6,r6,rfl,X,_⟩:=h6;obtain⟨A6,c6,L,rfl,a1,I⟩:=X.open_;have a3:=J X;clear X a1 I;obtain⟨E,A,C,f0,f1,f2⟩:=a.out.three
 go_wp2
 clear E A C f0 f1 f2;obtain⟨w9,K,B,F,z,t⟩:=cg a.out (.bool Q) (.slice A5 O.length c5) (.slice A6 L.length c6);first
  |rw[K]
  |(have s:=K;simp only[ne_eq,decide_not]at s;rw[s])
 obtain⟨E,A,C,_,_,_⟩:=B.three;refine bodyPost_ret (v:=.agg #[.bool Q,(.slice A5 O.length c5),(.slice A6 L.length c6)]) (by simp[results,Tryz.results145,go_sem,E,A,C]) Z ⟨_,Z,?_,o.out.trans (F.mono (L5 _))⟩;exact U.out _ _ ⟨_,_,Z,G.out.store a.out fc t z,a3.out.store a.out fc t z⟩
end Go.Proofs.YtfoejfohbkmmeaaGreatDoor
