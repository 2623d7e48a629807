import Derived.Test.YtfoejfohbkmmeaaGreatDoorP18
import Derived.Test.YtfoejfohbkmmeaaGreatDoorP01
import Derived.Test.YtfoejfohbkmmeaaGreatDoorP00
import Derived.Test.YtfoejfohbkmmeaaGreatDoorP06
set_option maxHeartbeats 1000000
namespace Go.Proofs.YtfoejfohbkmmeaaGreatDoor
open Go.RowKit
open Lib renaming hid→J
theorem wG(l:List UInt8):Lib.hasPrefix (39::l) [39]=true:=by simp[Lib.hasPrefix]
theorem AA(l:List UInt8)(h:∀r,l≠39::r):Lib.hasPrefix l [39]=false:=by
 cases l with
 |nil=>rfl
 |cons c r=>
  simp only[Lib.hasPrefix];rw[List.isPrefixOf];have:c≠39:=fun e=>h r (by rw[e])
  simp[Ne.symm this]
theorem qh(l:List UInt8)(s:ByteArray)(h:s.data.toList≠l):(l==s.toList)=false:=by
 rw[Lib.toList_data,beq_eq_false_iff_ne];exact fun e=>h e.symm
theorem m9(l:List UInt8)(s:ByteArray)(h:s.data.toList=l):(l==s.toList)=true:=by
 rw[Lib.toList_data,beq_iff_eq];exact h.symm
theorem x8(s:ByteArray)(w:World)(Q:s.size<=4294967280)(q:Lib.hasPrefix s.data.toList [39]=false)(f:∀v,Lib.parseIntB 64 s.data.toList≠ .ok v)(x:Env w):
  Calls Tryz.prog 76 #[.string s] w fun e w'=>e=.returned (.tuple #[.agg #[.int .i64 0,.int .i64 0,.string ⟨#[]⟩],.int .i64 2])/\Below w.heap.size w w':=by
 have u:∀w:World,Calls Tryz.prog 77 #[.string s,.string ⟨#[39]⟩] w fun e w'=>e=.returned (.bool false)/\w=w':=fun w=>by
  have:=eW s ⟨#[39]⟩ w;rwa[show Lib.hasPrefix s.data.toList [39]=false from q]at this
 have A:=J u;clear u q;have i:=J f;clear f;have K:=J x;clear x;obtain⟨W,r,d,h⟩:=t6 w 77 77 #[.int .i64 0,.int .i64 0,.string ⟨#[]⟩] #[.int .i64 0,.int .i64 0,.string ⟨#[]⟩];have F:=J r;have t:=J h;have g:=J h.2.2;have b:=J d;clear r h d
 go_enter Tryz.func76,Tryz.ntmps76
 go_wp2_with fail
 rw[F.out];refine(A.out _).mono ?_;rintro e O ⟨rfl,rfl⟩
 go_wp2_with fail
 refine(vI s _ (by omega) i.out (K.out.below b.out (L4 _))).mono ?_;rintro e O ⟨v,N,rfl,a⟩;have m:=J (b.out.trans (a.mono (by rw[g.out];omega)));have p:=J (t.out.2.1.below a (by rw[g.out];omega));have c:=J (t.out.1.below a (by rw[g.out];omega));clear a;obtain⟨P,I,M,y,E,L⟩:=p.out.three;obtain⟨l,o,j,C,B,H⟩:=c.out.three
 go_wp2
 clear P I M y E L l o j C B H;obtain⟨R,G,n,k,D,z⟩:=ec c.out (.int .i64 0) (.int .i64 0) (.string ⟨#[]⟩);rw[G];obtain⟨l,o,j,_,_,_⟩:=n.three;exact bodyPost_ret (v:=.tuple #[.agg #[.int .i64 0,.int .i64 0,.string ⟨#[]⟩],.int .i64 2]) (by simp[results,Tryz.results76,go_sem,l,o,j]) Z ⟨Z,m.out.trans k⟩
theorem sy(s:ByteArray)(w:World)(hs:s.size<=4294967280)(n:Int)(S:Lib.hasPrefix s.data.toList [39]=false)(D:Lib.parseIntB 64 s.data.toList=.ok n)(h0: -9223372036854775808<=n)(h1:n<=9223372036854775807)(h:s.data.toList=cY 1 n ⟨#[]⟩)(E:Env w):
  Calls Tryz.prog 76 #[.string s] w fun e w'=>e=.returned (.tuple #[.agg #[.int .i64 1,.int .i64 n,.string ⟨#[]⟩],.int .i64 0])/\Below w.heap.size w w':=by
 have hP:∀w:World,Calls Tryz.prog 77 #[.string s,.string ⟨#[39]⟩] w fun e w'=>e=.returned (.bool false)/\w=w':=fun w=>by
  have:=eW s ⟨#[39]⟩ w;rwa[show Lib.hasPrefix s.data.toList [39]=false from S]at this
 have HP:=J hP;clear hP S;have H:=J D;clear D;have f:bF 1 n ⟨#[]⟩=true:=by simp[bF]
 have X:∀w:World,Calls Tryz.prog 104 #[.agg #[.int .i64 1,.int .i64 n,.string ⟨#[]⟩]] w fun e w'=>e=.returned (.bool true)/\Below w.heap.size w w':=fun w=>by
  have:=gn 1 (n) ⟨#[]⟩ w;rwa[f]at this
 have HV:=J X;clear X;have V:∀w:World,Env w->Calls Tryz.prog 46 #[.agg #[.int .i64 1,.int .i64 n,.string ⟨#[]⟩]] w fun e w'=>e=.returned (.string ⟨(cY 1 (n) ⟨#[]⟩).toArray⟩)/\Below w.heap.size w w':=fun w E=>jY 1 (n) ⟨#[]⟩ w h0 h1 E
 have HF:=J V;clear V;have a1:(cY 1 n ⟨#[]⟩==s.toList)=true:=m9 _ s h;clear f h;have HE:=J E;clear E;obtain⟨W,T,t,G⟩:=t6 w 77 77 #[.int .i64 0,.int .i64 0,.string ⟨#[]⟩] #[.int .i64 0,.int .i64 0,.string ⟨#[]⟩];have HW:=J T;have U:=J G;have j:=J G.2.2;have F:=J t;clear T G t
 go_enter Tryz.func76,Tryz.ntmps76
 go_wp2_with fail
 rw[HW.out];refine(HP.out _).mono ?_;rintro e w1 ⟨rfl,rfl⟩
 go_wp2_with fail
 refine(qD s n _ (by omega) H.out).mono ?_;rintro e w1 ⟨rfl,a⟩
 go_wp2_with fail
 refine(sg _ _).mono ?_;rintro e w2 ⟨rfl,b⟩;have N:=J ((F.out.trans (a.mono (by rw[j.out];omega))).trans (b.mono (Ma (by rw[j.out];omega) a.size)));have Y:=J (IsBlk.below (IsBlk.below U.out.2.1 a (by rw[j.out];omega)) b (Mj (by rw[j.out];omega) a.size));have HR:=J (IsBlk.below (IsBlk.below U.out.1 a (by rw[j.out];omega)) b (Mj (by rw[j.out];omega) a.size));clear a b;obtain⟨y,u,B,k,q,A⟩:=Y.out.three
 go_wp2_with fail
 clear y u B k q A;obtain⟨w3,h3,p,l,O,z⟩:=ec Y.out (.int .i64 1) (.int .i64 n) (.string ⟨#[]⟩);rw[h3];have x:=J (show IsBlk w3 w.heap.size 77 #[.int .i64 0,.int .i64 0,.string ⟨#[]⟩]from(z w.heap.size (by omega)).trans HR.out);have m:=J (N.out.trans (l.mono (by omega)));have r:=J p;clear h3 p l O z;refine(HV.out _).mono ?_;rintro e w4 ⟨rfl,c⟩;have g:=J (m.out.trans (c.mono m.out.size));have i:=J (r.out.below c r.out.lt);have o:=J (x.out.below c x.out.lt);clear c;obtain⟨y,u,B,k,q,A⟩:=i.out.three
 go_wp2_with fail
 clear y u B k q A;refine(HF.out _ (HE.out.below g.out (L4 _))).mono ?_;rintro e w5 ⟨rfl,d⟩;have P:=J (g.out.trans (d.mono g.out.size));have L:=J (i.out.below d i.out.lt);have C:=J (o.out.below d o.out.lt);clear d;obtain⟨y,u,B,k,q,A⟩:=L.out.three;obtain⟨M,Q,I,g0,g1,g2⟩:=C.out.three
 go_wp2
 clear y u B k q A M Q I g0 g1 g2;obtain⟨w6,h6,R,K,a2,a0⟩:=ec C.out (.int .i64 1) (.int .i64 n) (.string ⟨#[]⟩);rw[h6];obtain⟨M,Q,I,_,_,_⟩:=R.three;exact bodyPost_ret (v:=.tuple #[.agg #[.int .i64 1,.int .i64 n,.string ⟨#[]⟩],.int .i64 0]) (by simp[results,Tryz.results76,go_sem,M,Q,I]) Z ⟨Z,P.out.trans K⟩
theorem rn(s:ByteArray)(w:World)(hs:s.size<=4294967280)(n:Int)(S:Lib.hasPrefix s.data.toList [39]=false)(D:Lib.parseIntB 64 s.data.toList=.ok n)(h0: -9223372036854775808<=n)(h1:n<=9223372036854775807)(h:s.data.toList≠cY 1 n ⟨#[]⟩)(E:Env w):
  Calls Tryz.prog 76 #[.string s] w fun e w'=>e=.returned (.tuple #[.agg #[.int .i64 0,.int .i64 0,.string ⟨#[]⟩],.int .i64 2])/\Below w.heap.size w w':=by
 have hP:∀w:World,Calls Tryz.prog 77 #[.string s,.string ⟨#[39]⟩] w fun e w'=>e=.returned (.bool false)/\w=w':=fun w=>by
  have:=eW s ⟨#[39]⟩ w;rwa[show Lib.hasPrefix s.data.toList [39]=false from S]at this
 have HP:=J hP;clear hP S;have H:=J D;clear D;have f:bF 1 n ⟨#[]⟩=true:=by simp[bF]
 have X:∀w:World,Calls Tryz.prog 104 #[.agg #[.int .i64 1,.int .i64 n,.string ⟨#[]⟩]] w fun e w'=>e=.returned (.bool true)/\Below w.heap.size w w':=fun w=>by
  have:=gn 1 (n) ⟨#[]⟩ w;rwa[f]at this
 have HV:=J X;clear X;have V:∀w:World,Env w->Calls Tryz.prog 46 #[.agg #[.int .i64 1,.int .i64 n,.string ⟨#[]⟩]] w fun e w'=>e=.returned (.string ⟨(cY 1 (n) ⟨#[]⟩).toArray⟩)/\Below w.heap.size w w':=fun w E=>jY 1 (n) ⟨#[]⟩ w h0 h1 E
 have HF:=J V;clear V;have a1:(cY 1 n ⟨#[]⟩==s.toList)=false:=qh _ s h;clear f h;have HE:=J E;clear E;obtain⟨W,T,t,G⟩:=t6 w 77 77 #[.int .i64 0,.int .i64 0,.string ⟨#[]⟩] #[.int .i64 0,.int .i64 0,.string ⟨#[]⟩];have HW:=J T;have U:=J G;have j:=J G.2.2;have F:=J t;clear T G t
 go_enter Tryz.func76,Tryz.ntmps76
 go_wp2_with fail
 rw[HW.out];refine(HP.out _).mono ?_;rintro e w1 ⟨rfl,rfl⟩
 go_wp2_with fail
 refine(qD s n _ (by omega) H.out).mono ?_;rintro e w1 ⟨rfl,a⟩
 go_wp2_with fail
 refine(sg _ _).mono ?_;rintro e w2 ⟨rfl,b⟩;have N:=J ((F.out.trans (a.mono (by rw[j.out];omega))).trans (b.mono (Ma (by rw[j.out];omega) a.size)));have Y:=J (IsBlk.below (IsBlk.below U.out.2.1 a (by rw[j.out];omega)) b (Mj (by rw[j.out];omega) a.size));have HR:=J (IsBlk.below (IsBlk.below U.out.1 a (by rw[j.out];omega)) b (Mj (by rw[j.out];omega) a.size));clear a b;obtain⟨y,u,B,k,q,A⟩:=Y.out.three
 go_wp2_with fail
 clear y u B k q A;obtain⟨w3,h3,p,l,O,z⟩:=ec Y.out (.int .i64 1) (.int .i64 n) (.string ⟨#[]⟩);rw[h3];have x:=J (show IsBlk w3 w.heap.size 77 #[.int .i64 0,.int .i64 0,.string ⟨#[]⟩]from(z w.heap.size (by omega)).trans HR.out);have m:=J (N.out.trans (l.mono (by omega)));have r:=J p;clear h3 p l O z;refine(HV.out _).mono ?_;rintro e w4 ⟨rfl,c⟩;have g:=J (m.out.trans (c.mono m.out.size));have i:=J (r.out.below c r.out.lt);have o:=J (x.out.below c x.out.lt);clear c;obtain⟨y,u,B,k,q,A⟩:=i.out.three
 go_wp2_with fail
 clear y u B k q A;refine(HF.out _ (HE.out.below g.out (L4 _))).mono ?_;rintro e w5 ⟨rfl,d⟩;have P:=J (g.out.trans (d.mono g.out.size));have L:=J (i.out.below d i.out.lt);have C:=J (o.out.below d o.out.lt);clear d;obtain⟨y,u,B,k,q,A⟩:=L.out.three;obtain⟨M,Q,I,g0,g1,g2⟩:=C.out.three
 go_wp2
 clear y u B k q A M Q I g0 g1 g2;obtain⟨w6,h6,R,K,a2,a0⟩:=ec C.out (.int .i64 0) (.int .i64 0) (.string ⟨#[]⟩);rw[h6];obtain⟨M,Q,I,_,_,_⟩:=R.three;exact bodyPost_ret (v:=.tuple #[.agg #[.int .i64 0,.int .i64 0,.string ⟨#[]⟩],.int .i64 2]) (by simp[results,Tryz.results76,go_sem,M,Q,I]) Z ⟨Z,P.out.trans K⟩
theorem x9(s:ByteArray)(w:World)(M:s.size<=4294967280)(m:Lib.hasPrefix s.data.toList [39]=true)(K:s.size<2)(q:Env w):
  Calls Tryz.prog 76 #[.string s] w fun e w'=>e=.returned (.tuple #[.agg #[.int .i64 0,.int .i64 0,.string ⟨#[]⟩],.int .i64 2])/\Below w.heap.size w w':=by
 have p:∀w:World,Calls Tryz.prog 77 #[.string s,.string ⟨#[39]⟩] w fun e w'=>e=.returned (.bool true)/\w=w':=fun w=>by
  have:=eW s ⟨#[39]⟩ w;rwa[show Lib.hasPrefix s.data.toList [39]=true from m]at this
 have u:=J p;clear p m;have L:=J q;clear q;obtain⟨W,n,b,d⟩:=t6 w 77 77 #[.int .i64 0,.int .i64 0,.string ⟨#[]⟩] #[.int .i64 0,.int .i64 0,.string ⟨#[]⟩];have B:=J n;have o:=J d;have I:=J d.2.2;have c:=J b;clear n d b
 go_enter Tryz.func76,Tryz.ntmps76
 go_wp2_with fail
 rw[B.out];refine(u.out _).mono ?_;rintro e O ⟨rfl,rfl⟩;have l:=J o.out.2.1;have a:=J o.out.1;have i:=J c.out;obtain⟨H,E,G,r,A,F⟩:=l.out.three;obtain⟨h,k,f,y,x,D⟩:=a.out.three
 go_wp2
 clear H E G r A F h k f y x D;obtain⟨N,C,j,g,z,t⟩:=ec a.out (.int .i64 0) (.int .i64 0) (.string ⟨#[]⟩);rw[C];obtain⟨h,k,f,_,_,_⟩:=j.three;exact bodyPost_ret (v:=.tuple #[.agg #[.int .i64 0,.int .i64 0,.string ⟨#[]⟩],.int .i64 2]) (by simp[results,Tryz.results76,go_sem,h,k,f]) Z ⟨Z,i.out.trans g⟩
theorem sA(s:ByteArray)(w:World)(hs:s.size<=4294967280)(b:ByteArray)(r:b=⟨(sm [39,39] [39] (s.extract 1 (s.size-1)).data.toList).toArray⟩)(S:Lib.hasPrefix s.data.toList [39]=true)(h2:2<=s.size)(g:bF 2 0 b=true)(h:s.data.toList=cY 2 0 b)(F:Env w):
  Calls Tryz.prog 76 #[.string s] w fun e w'=>e=.returned (.tuple #[.agg #[.int .i64 2,.int .i64 0,.string b],.int .i64 0])/\Below w.heap.size w w':=by
 have hP:∀w:World,Calls Tryz.prog 77 #[.string s,.string ⟨#[39]⟩] w fun e w'=>e=.returned (.bool true)/\w=w':=fun w=>by
  have:=eW s ⟨#[39]⟩ w;rwa[show Lib.hasPrefix s.data.toList [39]=true from S]at this
 have HP:=J hP;clear hP S;have O:=J r;clear r;have X:∀w:World,Calls Tryz.prog 104 #[.agg #[.int .i64 2,.int .i64 0,.string b]] w fun e w'=>e=.returned (.bool true)/\Below w.heap.size w w':=fun w=>by
  have:=gn 2 (0) b w;rwa[g]at this
 have HV:=J X;clear X;have V:∀w:World,Env w->Calls Tryz.prog 46 #[.agg #[.int .i64 2,.int .i64 0,.string b]] w fun e w'=>e=.returned (.string ⟨(cY 2 (0) b).toArray⟩)/\Below w.heap.size w w':=fun w F=>jY 2 (0) b w (by omega) (by omega) F
 have HF:=J V;clear V;have a1:(cY 2 0 b==s.toList)=true:=m9 _ s h;clear g h;have HE:=J F;clear F;obtain⟨W,T,x,G⟩:=t6 w 77 77 #[.int .i64 0,.int .i64 0,.string ⟨#[]⟩] #[.int .i64 0,.int .i64 0,.string ⟨#[]⟩];have HW:=J T;have U:=J G;have k:=J G.2.2;have l:=J x;clear T G x
 go_enter Tryz.func76,Tryz.ntmps76
 go_wp2_with fail
 rw[HW.out];refine(HP.out _).mono ?_;rintro e w1 ⟨rfl,rfl⟩
 go_wp2_with fail
 refine(g7 _ ⟨#[39,39]⟩ ⟨#[39]⟩ _ ?h1 (by decide) (by decide) (HE.out.below l.out (L4 _))).mono ?_
 case h1=>simp;omega
 rintro e w1 ⟨rfl,a⟩;rw[show Lib.replaceAll (s.extract 1 (s.size-1)).data.toList [39,39] [39]=sm [39,39] [39] (s.extract 1 (s.size-1)).data.toList from ib _ (by decide),<-O.out]
 go_wp2_with fail
 refine(ky _ _).mono ?_;rintro e w2 ⟨rfl,c⟩;have M:=J ((l.out.trans (a.mono (by rw[k.out];omega))).trans (c.mono (Ma (by rw[k.out];omega) a.size)));have Y:=J (IsBlk.below (IsBlk.below U.out.2.1 a (by rw[k.out];omega)) c (Mj (by rw[k.out];omega) a.size));have HR:=J (IsBlk.below (IsBlk.below U.out.1 a (by rw[k.out];omega)) c (Mj (by rw[k.out];omega) a.size));clear a c;obtain⟨A,y,D,m,t,C⟩:=Y.out.three
 go_wp2_with fail
 clear A y D m t C;obtain⟨w3,h3,q,n,N,B⟩:=ec Y.out (.int .i64 2) (.int .i64 0) (.string b);rw[h3];have z:=J (show IsBlk w3 w.heap.size 77 #[.int .i64 0,.int .i64 0,.string ⟨#[]⟩]from(B w.heap.size (by omega)).trans HR.out);have o:=J (M.out.trans (n.mono (by omega)));have u:=J q;clear h3 q n N B;refine(HV.out _).mono ?_;rintro e w4 ⟨rfl,d⟩;have i:=J (o.out.trans (d.mono o.out.size));have j:=J (u.out.below d u.out.lt);have p:=J (z.out.below d z.out.lt);clear d;obtain⟨A,y,D,m,t,C⟩:=j.out.three
 go_wp2_with fail
 clear A y D m t C;refine(HF.out _ (HE.out.below i.out (L4 _))).mono ?_;rintro e w5 ⟨rfl,f⟩;have P:=J (i.out.trans (f.mono i.out.size));have K:=J (j.out.below f j.out.lt);have E:=J (p.out.below f p.out.lt);clear f;obtain⟨A,y,D,m,t,C⟩:=K.out.three;obtain⟨L,Q,H,g0,g1,g2⟩:=E.out.three
 go_wp2
 clear A y D m t C L Q H g0 g1 g2;obtain⟨w6,h6,R,I,a2,a0⟩:=ec E.out (.int .i64 2) (.int .i64 0) (.string b);rw[h6];obtain⟨L,Q,H,_,_,_⟩:=R.three;exact bodyPost_ret (v:=.tuple #[.agg #[.int .i64 2,.int .i64 0,.string b],.int .i64 0]) (by simp[results,Tryz.results76,go_sem,L,Q,H]) Z ⟨Z,P.out.trans I⟩
theorem ro(s:ByteArray)(w:World)(hs:s.size<=4294967280)(b:ByteArray)(r:b=⟨(sm [39,39] [39] (s.extract 1 (s.size-1)).data.toList).toArray⟩)(S:Lib.hasPrefix s.data.toList [39]=true)(h2:2<=s.size)(g:bF 2 0 b=true)(h:s.data.toList≠cY 2 0 b)(F:Env w):
  Calls Tryz.prog 76 #[.string s] w fun e w'=>e=.returned (.tuple #[.agg #[.int .i64 0,.int .i64 0,.string ⟨#[]⟩],.int .i64 2])/\Below w.heap.size w w':=by
 have hP:∀w:World,Calls Tryz.prog 77 #[.string s,.string ⟨#[39]⟩] w fun e w'=>e=.returned (.bool true)/\w=w':=fun w=>by
  have:=eW s ⟨#[39]⟩ w;rwa[show Lib.hasPrefix s.data.toList [39]=true from S]at this
 have HP:=J hP;clear hP S;have O:=J r;clear r;have X:∀w:World,Calls Tryz.prog 104 #[.agg #[.int .i64 2,.int .i64 0,.string b]] w fun e w'=>e=.returned (.bool true)/\Below w.heap.size w w':=fun w=>by
  have:=gn 2 (0) b w;rwa[g]at this
 have HV:=J X;clear X;have V:∀w:World,Env w->Calls Tryz.prog 46 #[.agg #[.int .i64 2,.int .i64 0,.string b]] w fun e w'=>e=.returned (.string ⟨(cY 2 (0) b).toArray⟩)/\Below w.heap.size w w':=fun w F=>jY 2 (0) b w (by omega) (by omega) F
 have HF:=J V;clear V;have a1:(cY 2 0 b==s.toList)=false:=qh _ s h;clear g h;have HE:=J F;clear F;obtain⟨W,T,x,G⟩:=t6 w 77 77 #[.int .i64 0,.int .i64 0,.string ⟨#[]⟩] #[.int .i64 0,.int .i64 0,.string ⟨#[]⟩];have HW:=J T;have U:=J G;have k:=J G.2.2;have l:=J x;clear T G x
 go_enter Tryz.func76,Tryz.ntmps76
 go_wp2_with fail
 rw[HW.out];refine(HP.out _).mono ?_;rintro e w1 ⟨rfl,rfl⟩
 go_wp2_with fail
 refine(g7 _ ⟨#[39,39]⟩ ⟨#[39]⟩ _ ?h1 (by decide) (by decide) (HE.out.below l.out (L4 _))).mono ?_
 case h1=>simp;omega
 rintro e w1 ⟨rfl,a⟩;rw[show Lib.replaceAll (s.extract 1 (s.size-1)).data.toList [39,39] [39]=sm [39,39] [39] (s.extract 1 (s.size-1)).data.toList from ib _ (by decide),<-O.out]
 go_wp2_with fail
 refine(ky _ _).mono ?_;rintro e w2 ⟨rfl,c⟩;have M:=J ((l.out.trans (a.mono (by rw[k.out];omega))).trans (c.mono (Ma (by rw[k.out];omega) a.size)));have Y:=J (IsBlk.below (IsBlk.below U.out.2.1 a (by rw[k.out];omega)) c (Mj (by rw[k.out];omega) a.size));have HR:=J (IsBlk.below (IsBlk.below U.out.1 a (by rw[k.out];omega)) c (Mj (by rw[k.out];omega) a.size));clear a c;obtain⟨A,y,D,m,t,C⟩:=Y.out.three
 go_wp2_with fail
 clear A y D m t C;obtain⟨w3,h3,q,n,N,B⟩:=ec Y.out (.int .i64 2) (.int .i64 0) (.string b);rw[h3];have z:=J (show IsBlk w3 w.heap.size 77 #[.int .i64 0,.int .i64 0,.string ⟨#[]⟩]from(B w.heap.size (by omega)).trans HR.out);have o:=J (M.out.trans (n.mono (by omega)));have u:=J q;clear h3 q n N B;refine(HV.out _).mono ?_;rintro e w4 ⟨rfl,d⟩;have i:=J (o.out.trans (d.mono o.out.size));have j:=J (u.out.below d u.out.lt);have p:=J (z.out.below d z.out.lt);clear d;obtain⟨A,y,D,m,t,C⟩:=j.out.three
 go_wp2_with fail
 clear A y D m t C;refine(HF.out _ (HE.out.below i.out (L4 _))).mono ?_;rintro e w5 ⟨rfl,f⟩;have P:=J (i.out.trans (f.mono i.out.size));have K:=J (j.out.below f j.out.lt);have E:=J (p.out.below f p.out.lt);clear f;obtain⟨A,y,D,m,t,C⟩:=K.out.three;obtain⟨L,Q,H,g0,g1,g2⟩:=E.out.three
 go_wp2
 clear A y D m t C L Q H g0 g1 g2;obtain⟨w6,h6,R,I,a2,a0⟩:=ec E.out (.int .i64 0) (.int .i64 0) (.string ⟨#[]⟩);rw[h6];obtain⟨L,Q,H,_,_,_⟩:=R.three;exact bodyPost_ret (v:=.tuple #[.agg #[.int .i64 0,.int .i64 0,.string ⟨#[]⟩],.int .i64 2]) (by simp[results,Tryz.results76,go_sem,L,Q,H]) Z ⟨Z,P.out.trans I⟩
theorem ub(s:ByteArray)(w:World)(hs:s.size<=4294967280)(i:ByteArray)(m:i=⟨(sm [39,39] [39] (s.extract 1 (s.size-1)).data.toList).toArray⟩)(M:Lib.hasPrefix s.data.toList [39]=true)(h2:2<=s.size)(d:bF 2 0 i=false)(S:Env w):
  Calls Tryz.prog 76 #[.string s] w fun e w'=>e=.returned (.tuple #[.agg #[.int .i64 0,.int .i64 0,.string ⟨#[]⟩],.int .i64 2])/\Below w.heap.size w w':=by
 have R:∀w:World,Calls Tryz.prog 77 #[.string s,.string ⟨#[39]⟩] w fun e w'=>e=.returned (.bool true)/\w=w':=fun w=>by
  have:=eW s ⟨#[39]⟩ w;rwa[show Lib.hasPrefix s.data.toList [39]=true from M]at this
 have X:=J R;clear R M;have F:=J m;clear m;have P:∀w:World,Calls Tryz.prog 104 #[.agg #[.int .i64 2,.int .i64 0,.string i]] w fun e w'=>e=.returned (.bool false)/\Below w.heap.size w w':=fun w=>by
  have:=gn 2 (0) i w;rwa[d]at this
 have HV:=J P;clear P;clear d;have HE:=J S;clear S;obtain⟨W,N,o,t⟩:=t6 w 77 77 #[.int .i64 0,.int .i64 0,.string ⟨#[]⟩] #[.int .i64 0,.int .i64 0,.string ⟨#[]⟩];have HW:=J N;have O:=J t;have f:=J t.2.2;have g:=J o;clear N t o
 go_enter Tryz.func76,Tryz.ntmps76
 go_wp2_with fail
 rw[HW.out];refine(X.out _).mono ?_;rintro e w1 ⟨rfl,rfl⟩
 go_wp2_with fail
 refine(g7 _ ⟨#[39,39]⟩ ⟨#[39]⟩ _ ?h1 (by decide) (by decide) (HE.out.below g.out (L4 _))).mono ?_
 case h1=>simp;omega
 rintro e w1 ⟨rfl,a⟩;rw[show Lib.replaceAll (s.extract 1 (s.size-1)).data.toList [39,39] [39]=sm [39,39] [39] (s.extract 1 (s.size-1)).data.toList from ib _ (by decide),<-F.out]
 go_wp2_with fail
 refine(ky _ _).mono ?_;rintro e w2 ⟨rfl,b⟩;have B:=J ((g.out.trans (a.mono (by rw[f.out];omega))).trans (b.mono (Ma (by rw[f.out];omega) a.size)));have Q:=J (IsBlk.below (IsBlk.below O.out.2.1 a (by rw[f.out];omega)) b (Mj (by rw[f.out];omega) a.size));have V:=J (IsBlk.below (IsBlk.below O.out.1 a (by rw[f.out];omega)) b (Mj (by rw[f.out];omega) a.size));clear a b;obtain⟨G,E,L,r,z,H⟩:=Q.out.three
 go_wp2_with fail
 clear G E L r z H;obtain⟨w3,T,l,h,D,q⟩:=ec Q.out (.int .i64 2) (.int .i64 0) (.string i);rw[T];have p:=J (show IsBlk w3 w.heap.size 77 #[.int .i64 0,.int .i64 0,.string ⟨#[]⟩]from(q w.heap.size (by omega)).trans V.out);have j:=J (B.out.trans (h.mono (by omega)));have n:=J l;clear T l h D q;refine(HV.out _).mono ?_;rintro e w4 ⟨rfl,c⟩;have x:=J (j.out.trans (c.mono j.out.size));have C:=J (n.out.below c n.out.lt);have k:=J (p.out.below c p.out.lt);clear c;obtain⟨G,E,L,r,z,H⟩:=C.out.three;obtain⟨A,K,u,g0,Y,g2⟩:=k.out.three
 go_wp2
 clear G E L r z H A K u g0 Y g2;obtain⟨w6,h6,I,y,a0,U⟩:=ec k.out (.int .i64 0) (.int .i64 0) (.string ⟨#[]⟩);rw[h6];obtain⟨A,K,u,_,_,_⟩:=I.three;exact bodyPost_ret (v:=.tuple #[.agg #[.int .i64 0,.int .i64 0,.string ⟨#[]⟩],.int .i64 2]) (by simp[results,Tryz.results76,go_sem,A,K,u]) Z ⟨Z,x.out.trans y⟩
theorem ya(l:List UInt8)(n:Int)(h:Lib.parseIntB 64 l=.ok n): -9223372036854775808<=n/\n<=9223372036854775807:=by
 have a:(2^(64-1):Nat)=9223372036854775808:=by decide
 cases l with
 |nil=>simp[Lib.parseIntB]at h
 |cons c r=>
  simp only[Lib.parseIntB,a]at h;split at h
  ·cases h
  ·cases h
  split at h
  ·cases h
  split at h
  ·cases h
  injection h with h
  subst h;split<;>omega
theorem fU{n:Int}{a:ByteArray}(h:bF 1 n a=true):a=⟨#[]⟩:=by
 apply PH;simp[bF]at h;simpa using h
theorem go{t n:Int}{a:ByteArray}(b:t≠1)(h:bF t n a=true):t=2/\n=0/\a.size<=64/\a.data.toList.all qM=true:=by
 simp[bF,b]at h;exact⟨h.1.1.1,h.1.1.2,h.1.2,by simpa using h.2⟩
theorem yb(s a:ByteArray)(h:s.data.toList=[39]++gB a.data.toList++[39]):(s.extract 1 (s.size-1)).data.toList=gB a.data.toList:=by
 have b:s.size=(gB a.data.toList).length+2:=by
  have:=congrArg List.length h;simp at this;omega
 rw[Lib.extract_data,h,b];simp
theorem FB(t n:Int)(d s:ByteArray)(w:World)(g:s.size<=4294967280)(a:bF t n d=true)(f:s.data.toList=cY t n d)(j: -9223372036854775808<=n)(l:n<=9223372036854775807)(i:Env w):
  Calls Tryz.prog 76 #[.string s] w fun e w'=>e=.returned (.tuple #[.agg #[.int .i64 t,.int .i64 n,.string d],.int .i64 0])/\Below w.heap.size w w':=by
 by_cases k:t=1
 ·subst k;obtain rfl:=fU a;have b:s.data.toList=Lib.itoa n:=by rw[f];simp[cY,a]
  refine sy s w g n ?_ (by rw[b];exact nY n j l) j l f i;obtain⟨c,r,e,m⟩:=iE n;exact AA _ fun q h=>m (by rw[b,e]at h;injection h)
 obtain⟨rfl,rfl,o,_⟩:=go k a;have b:s.data.toList=[39]++gB d.data.toList++[39]:=by rw[f];simp[cY,a]
 have p:s.size=(gB d.data.toList).length+2:=by
  have:=congrArg List.length b;simp at this;omega
 refine sA s w g d ?_ (by rw[b];exact wG _) (by omega) a f i;rw[yb s d b,kT,jv]
theorem Dy(s:ByteArray)(w:World)(c:s.size<=4294967280)(h:∀(t n:Int) (a:ByteArray),bF t n a=true-> -9223372036854775808<=n->n<=9223372036854775807->s.data.toList≠cY t n a)(d:Env w):
  Calls Tryz.prog 76 #[.string s] w fun e w'=>e=.returned (.tuple #[.agg #[.int .i64 0,.int .i64 0,.string ⟨#[]⟩],.int .i64 2])/\Below w.heap.size w w':=by
 cases b:Lib.hasPrefix s.data.toList [39]
 ·by_cases g:∃n,Lib.parseIntB 64 s.data.toList=.ok n
  ·obtain⟨n,g⟩:=g;obtain⟨k,l⟩:=ya _ _ g;exact rn s w c n b g k l (h 1 n ⟨#[]⟩ (by simp[bF]) k l) d
  exact x8 s w c b (fun v f=>g ⟨v,f⟩) d
 rcases MA s.size 2 with j|j
 ·exact x9 s w c b j d
 obtain⟨a,i⟩:∃a:ByteArray,a=⟨(sm [39,39] [39] (s.extract 1 (s.size-1)).data.toList).toArray⟩:=⟨_,rfl⟩;cases f:bF 2 0 a
 ·exact ub s w c a i b j f d
 exact ro s w c a i b j f (h 2 0 a f (by omega) (by omega)) d
theorem Ik{t n i f:Int}{j b:ByteArray}(g:bF t n j=true)(a:bF i f b=true)(p: -9223372036854775808<=n)(q:n<=9223372036854775807)(k: -9223372036854775808<=f)(m:f<=9223372036854775807)
  (h:cY t n j=cY i f b):t=i/\n=f/\j=b:=by
 by_cases o:t=1
 ·subst o;obtain rfl:=fU g;by_cases d:i=1
  ·subst d;obtain rfl:=fU a;exact⟨Z,Fh p q k m (by simpa[cY,g,a]using h),Z⟩
  obtain⟨rfl,rfl,_,_⟩:=go d a;obtain⟨c,r,e,l⟩:=iE n;simp[cY,g,a,e]at h;exact absurd h.1 l
 obtain⟨rfl,rfl,_,_⟩:=go o g;by_cases d:i=1
 ·subst d;obtain rfl:=fU a;obtain⟨c,r,e,l⟩:=iE f;simp[cY,g,a,e]at h;exact absurd h.1.symm l
 obtain⟨rfl,rfl,_,_⟩:=go d a;refine⟨Z,Z,?_⟩;have:gB j.data.toList=gB b.data.toList:=by simpa[cY,g,a]using h
 have:=H4 this;rw[<-jv j,<-jv b,this]
def AB(f:FuncId):Prop:=∃fn,Tryz.prog.funcs[f]? =some fn/\(fn.name== "runtime.NumGoroutine")=false/\fn.body.isNone=false
theorem PT.uncons{W:World}{G:Nat->Prop}{vs:List Value}{t:Tree}{ts:List Tree}(h:PT W G vs (t::ts)):∃v us,vs=v::us/\PT W G [v] [t]/\PT W G us ts:=by
 cases vs with
 |nil=>cases h
 |cons v us=>exact⟨v,us,Z,h.head,h.tail⟩
theorem dp{W:World}{G:Nat->Prop}{vs:List Value}{t:Tree}(h:PT W G vs [t]):∃v,vs=[v]/\PT W G [v] [t]:=by
 obtain⟨v,us,rfl,b,a⟩:=h.uncons;cases a;exact⟨v,Z,b⟩
theorem d5{W:World}{G:Nat->Prop}{vs:List Value}{t u:Tree}(h:PT W G vs [t,u]):∃v x,vs=[v,x]/\PT W G [v] [t]/\PT W G [x] [u]:=by
 obtain⟨v,us,rfl,c,b⟩:=h.uncons;obtain⟨x,rfl,a⟩:=dp b;exact⟨v,x,Z,c,a⟩
theorem o7{W:World}{G:Nat->Prop}{vs:List Value}{t u r:Tree}(h:PT W G vs [t,u,r]):∃v x y,vs=[v,x,y]/\PT W G [v] [t]/\PT W G [x] [u]/\PT W G [y] [r]:=by
 obtain⟨v,us,rfl,c,b⟩:=h.uncons;obtain⟨x,y,rfl,d,a⟩:=d5 b;exact⟨v,x,y,Z,c,d,a⟩
theorem qi{α:Type}(f:α->Tree)(h:∀a,(f a).cells=[f a]):∀l:List α,flat (l.map f)=l.map f
 |[]=>rfl
 |a::l=>by rw[M3,eN,h a,qi f h l];rfl
theorem sB{W:World}{G:Nat->Prop}:∀{l:List Nat} {xs:List Value},PT W G xs (l.map fun d=>.sc (.int .u32 (d:Nat)))->xs=cA l
 |[],xs,h=>by cases h;rfl
 |_::l,xs,h=>by
  cases h with
  |sc v h=>rw[sB h];rfl
theorem Cf(W:World)(G:Nat->Prop):∀l:List Nat,PT W G (cA l) (l.map fun d=>.sc (.int .u32 (d:Nat)))
 |[]=>.nil
 |_::l=>.sc _ (Cf W G l)
theorem dQ{W:World}{G:Nat->Prop}{v:Value}{n:Nat}(h:PT W G [v] [aH n]):IsD W v n:=by
 obtain⟨A,c,j,f,p,k,a⟩:=PT.slice h;rw[L5]at j f a;refine⟨A,c,j,fun l=>?_,fun e=>⟨?_,k e⟩,f,p,bZ n⟩
 ·obtain⟨b,off,xs,rfl,m,_,o,i⟩:=a (by simpa[cA]using l);rw[qi _ (fun _=>rfl)]at i;rw[<-sB i];exact⟨b,off,Z,m,o⟩
 rcases M1 (ax n).length with d|d
 ·exact d
 obtain⟨b,off,xs,g,_⟩:=a d;rw[e]at g;cases g
def OkG(G:Nat->Prop)(W:World):Prop:=∀g,G g->g<W.heap.size/\NoDigB W g
theorem OkG.later{G:Nat->Prop}{W W':World}(h:OkG G W)(b:Below W.heap.size W W'):OkG G W':=fun g a=>⟨Mj (h g a).1 b.size,(h g a).2.of (b.block g (h g a).1)⟩
theorem fO{W:World}{G:Nat->Prop}{v:Value}{n:Nat}(l:OkG G W)(h:IsD W v n):PT W G [v] [aH n]:=by
 obtain⟨A,c,rfl,a⟩:=h;unfold aH;by_cases o:(ax n).length=0
 ·have e:ax n=[]:=Mr o;rw[e];exact .sl0 A c (fun e=>(a.nil e).2) a.max .nil
 obtain⟨b,off,rfl,p,g⟩:=a.digit (i:=0) (by omega);refine .sl b off c _ (cA (ax n)) _ p (fun m=>?_) (fun j u f=>?_) (by simp) (by simpa using a.cap) a.max ?_ .nil
 ·have:=(l b m).2 _ _ (g 0 (by omega));simp[bQ]at this
 ·simp only[cA,MN,Nb]at f;obtain⟨d,k,rfl⟩:=f;obtain⟨q,rfl⟩:=L6.1 k;exact g j q
 rw[qi _ (fun _=>rfl)];exact Cf W G _
theorem JS{W:World}{G:Nat->Prop}{v:Value}{ng:Bool}{N D:Nat}(h:PT W G [v] [jX ng N D]):LY W v ng N D:=by
 cases h with
 |agg xs cs hx _=>
  obtain⟨a,b,c,rfl,f,e,d⟩:=o7 hx;cases f;exact⟨b,c,Z,dQ e,dQ d⟩
theorem JT{W:World}{G:Nat->Prop}{v:Value}{ng:Bool}{N D:Nat}(a:OkG G W)(h:LY W v ng N D):PT W G [v] [jX ng N D]:=by
 obtain⟨d,c,rfl,e,b⟩:=h;exact .agg [.bool ng,d,c] _ (.sc _ ((fO a e).cons ((fO a b).cons .nil))) .nil
theorem sC{W:World}{G:Nat->Prop}:∀{l:List V} {xs:List Value},PT W G xs (flat (l.map V.tree))->xs=fN l
 |[],xs,h=>by cases h;rfl
 |v::l,xs,h=>by
  cases h with
  |sc a h=>
   cases h with
   |sc b h=>
    cases h with
    |sc c h=>rw[sC (l:=l) h];rfl
theorem rD{W:World}{G:Nat->Prop}{v:Value}{l:List V}(h:PT W G [v] [.sl (l.map V.tree)]):∃A c,v=.slice A l.length c/\At W W.heap.size A (fN l)/\(A=none->l.length=0/\c=0):=by
 obtain⟨A,c,g,k,p,i,a⟩:=PT.slice h;rw[L5]at g k a;refine⟨A,c,g,fun j=>?_,fun e=>⟨?_,i e⟩⟩
 ·obtain⟨b,off,xs,rfl,n,_,o,m⟩:=a (by rw[kt]at j;omega);rw[<-sC m];exact⟨b,off,Z,n,o⟩
 rcases M1 l.length with d|d
 ·exact d
 obtain⟨b,off,xs,f,_⟩:=a d;rw[e]at f;cases f
theorem wH{W:World}{G:Nat->Prop}{u:Value}{v:V}(h:PT W G [u] [v.tree]):u=.agg #[.int .i64 v.t,.int .i64 v.n,.string v.s]:=by
 cases h with
 |agg xs cs hx _=>
  obtain⟨a,b,c,rfl,f,e,d⟩:=o7 hx;cases f;cases e;cases d;rfl
theorem Ct.sc{f:FuncId}{args:List Tree}{r:Value}(d:AB f)(h:∀(G:Nat->Prop) (w:World) (vs:List Value),Env w->OkG G w->PT w G vs args->Calls Tryz.prog f vs.toArray w fun e w'=>e=.returned r/\Below w.heap.size w w'):Ct f args (.sc r):=
 ⟨d,fun G w vs g b a=>(h G w vs g b a).mono fun _ _ ⟨i,c⟩=>⟨r,i,.sc _ .nil,c⟩⟩
theorem FC{f:FuncId}{args:List Tree}{r:Value}(e:AB f)(h:∀(G:Nat->Prop) (w:World) (vs:List Value),Env w->OkG G w->PT w G vs args->Calls Tryz.prog f vs.toArray w (gF (fun _ v=>v=r) w)):Ct f args (.sc r):=
 ⟨e,fun G w vs d b a=>(h G w vs d b a).mono fun _ _ ⟨v,i,c,g⟩=>⟨v,i,by rw[c];exact .sc _ .nil,g⟩⟩
theorem eU{f:FuncId}{args:List Tree}{r:Tree}{K:World->Value->Prop}(g:AB f)(d:∀(G:Nat->Prop) (W:World) (v:Value),OkG G W->K W v->PT W G [v] [r])(h:∀(G:Nat->Prop) (w:World) (vs:List Value),Env w->OkG G w->PT w G vs args->Calls Tryz.prog f vs.toArray w (gF K w)):Ct f args r:=
 ⟨g,fun G w vs i a c=>(h G w vs i a c).mono fun _ w' ⟨v,j,e,b⟩=>⟨v,j,d G w' v (OkG.later a b) e,b⟩⟩
theorem FD(v:V):Ct 104 [v.tree] (bT v.ok):=Ct.sc ⟨_,Tryz.func104,Z,Z⟩ fun G w vs _ _ a=>by
 obtain⟨u,rfl,h⟩:=dp a;rw[wH h];exact gn v.t v.n v.s w
theorem jG(l m:List V)(h:l.length<=65536)(b:m.length<=65536):Ct 64 [.sl (l.map V.tree),.sl (m.map V.tree)] (iT (aX l m)):=Ct.sc ⟨_,Tryz.func64,Z,Z⟩ fun G w vs _ _ a=>by
 obtain⟨u,x,rfl,i,f⟩:=d5 a;obtain⟨A,c,rfl,g,_⟩:=rD i;obtain⟨B,d,rfl,e,_⟩:=rD f;exact Al A B c d l m w g e h b
theorem n3(n:Nat)(b:(ax n).length<=1048576):Ct 129 [aH n] (iT (cM n)):=FC ⟨_,Tryz.func129,Z,Z⟩ fun G w vs _ _ a=>by
 obtain⟨u,rfl,h⟩:=dp a;exact H8 (dQ h) (by omega)
theorem k5(n:Nat)(a:(ax n).length<=262144):Ct 129 [aH n] (iT (cM n)):=n3 n (by omega)
theorem kq(M N:Nat)(a:(ax M).length<=1048576)(e:(ax N).length<=1048576):Ct 152 [aH M,aH N] (aH (M*N)):=eU ⟨_,Tryz.func152,Z,Z⟩ (fun _ _ _ c h=>fO c h) fun G w vs _ _ b=>by
 obtain⟨u,x,rfl,f,d⟩:=d5 b;exact LJ (dQ f) (dQ d) a e
theorem Cg(M N:Nat)(a:(ax M).length<=1073741823)(d:(ax N).length<=1073741823):Ct 151 [aH M,aH N] (iT (eo M N)):=FC ⟨_,Tryz.func151,Z,Z⟩ fun G w vs _ _ b=>by
 obtain⟨u,x,rfl,e,c⟩:=d5 b;exact Fl (dQ e) (dQ c) a d
theorem ij(n:Nat)(c:n<18446744073709551616):Ct 149 [.sc (.int .u64 (n:Nat))] (aH n):=eU ⟨_,Tryz.func149,Z,Z⟩ (fun _ _ _ a h=>fO a h) fun G w vs _ _ b=>by
 obtain⟨u,rfl,h⟩:=dp b;cases h;exact qc n w c
end Go.Proofs.YtfoejfohbkmmeaaGreatDoor
