import Derived.Test.YtfoejfohbkmmeaaGreatDoorQ16
import Derived.Test.YtfoejfohbkmmeaaGreatDoorQ14
import Derived.Test.YtfoejfohbkmmeaaGreatDoorQ01
import Derived.Test.YtfoejfohbkmmeaaGreatDoorQ00
import Derived.Test.YtfoejfohbkmmeaaGreatDoorQ02
import Derived.Test.YtfoejfohbkmmeaaGreatDoorQ20
import Derived.Test.YtfoejfohbkmmeaaGreatDoorQ21
import Derived.Test.YtfoejfohbkmmeaaGreatDoorQ07
set_option maxHeartbeats 1000000
namespace Go.Proofs.YtfoejfohbkmmeaaGreatDoor
open Go.RowKit
open Lib renaming hid→J
def cB(t n:Int)(s:ByteArray):List UInt8:=
 if be t n s then(if t=1 then Lib.itoa n else [39]++gG s.data.toList++[39])else []
theorem zQ(t n:Int)(s:ByteArray)(w:World)(h:be t n s=false):
  Calls Tryz.prog 46 #[.agg #[.int .i64 t,.int .i64 n,.string s]] w fun e w'=>e=.returned (.string ⟨(cB t n s).toArray⟩)/\Below w.heap.size w w':=by
 have d:=J (show cB t n s=[] by simp[cB,h]);have a:∀w:World,Calls Tryz.prog 104 #[.agg #[.int .i64 t,.int .i64 n,.string s]] w fun e w'=>e=.returned (.bool false)/\Below w.heap.size w w':=fun w=>by
  have:=eG t n s w;rwa[h]at this
 have c:=J a;clear a h
 go_enter Tryz.func46,Tryz.ntmps46
 go_wp2_with (go_at_call 104;refine(c.out _).mono ?_;rintro e w' ⟨rfl,b⟩)
 go_ret
 exact⟨by rw[d.out];rfl,((Below.refl _ _).alloc (L5 _) _).trans (b.mono (by simp))⟩
theorem zR(n:Int)(s:ByteArray)(w:World)(h:be 1 n s=true)(q: -9223372036854775808<=n)(u:n<=9223372036854775807)(f:Env w):
  Calls Tryz.prog 46 #[.agg #[.int .i64 1,.int .i64 n,.string s]] w fun e w'=>e=.returned (.string ⟨(cB 1 n s).toArray⟩)/\Below w.heap.size w w':=by
 have o:=J (show cB 1 n s=Lib.itoa n by simp[cB,h]);have j:∀w:World,Calls Tryz.prog 104 #[.agg #[.int .i64 1,.int .i64 n,.string s]] w fun e w'=>e=.returned (.bool true)/\Below w.heap.size w w':=fun w=>by
  have:=eG 1 n s w;rwa[h]at this
 have t:=J j;clear j h;have v:=J f;clear f;obtain⟨W,i,k,g,r,x,A⟩:=JY w 77 (.int .i64 1) (.int .i64 n) (.string s);have l:=J i;clear i;have d:=J g;clear g
 go_enter Tryz.func46,Tryz.ntmps46
 go_wp2_with fail
 rw[l.out];refine(t.out _).mono ?_;rintro e m ⟨rfl,a⟩;have z:=(a.cell (p:=⟨w.heap.size,0,none⟩) (by simp[d.out])).trans r;have B:=(a.cell (p:=⟨w.heap.size,1,none⟩) (by simp[d.out])).trans x;have b:Below w.heap.size w m:=k.trans (a.mono (by rw[d.out];omega))
 go_wp2_with fail
 refine(tG n _ q u (v.out.below b (L5 _))).mono ?_;rintro e y ⟨rfl,c⟩
 go_wp2
 go_ret
 exact⟨by rw[o.out];rfl,b.trans (c.mono b.size)⟩
theorem zS(n:Int)(s:ByteArray)(w:World)(h:be 2 n s=true)(f:Env w):
  Calls Tryz.prog 46 #[.agg #[.int .i64 2,.int .i64 n,.string s]] w fun e w'=>e=.returned (.string ⟨(cB 2 n s).toArray⟩)/\Below w.heap.size w w':=by
 have q:=J (show cB 2 n s=[39]++gG s.data.toList++[39] by simp[cB,h]);have A:s.size<=64:=by simp[be]at h;omega
 have k:∀w:World,Calls Tryz.prog 104 #[.agg #[.int .i64 2,.int .i64 n,.string s]] w fun e w'=>e=.returned (.bool true)/\Below w.heap.size w w':=fun w=>by
  have:=eG 2 n s w;rwa[h]at this
 have u:=J k;clear k h;have v:=J f;clear f;obtain⟨W,j,l,i,t,B,r⟩:=JY w 77 (.int .i64 2) (.int .i64 n) (.string s);have m:=J j;clear j;have d:=J i;clear i
 go_enter Tryz.func46,Tryz.ntmps46
 go_wp2_with fail
 rw[m.out];refine(u.out _).mono ?_;rintro e o ⟨rfl,a⟩;have z:=(a.cell (p:=⟨w.heap.size,0,none⟩) (by simp[d.out])).trans t;have x:=(a.cell (p:=⟨w.heap.size,2,none⟩) (by simp[d.out])).trans r;have b:Below w.heap.size w o:=l.trans (a.mono (by rw[d.out];omega))
 go_wp2_with fail
 refine(gI s ⟨#[39]⟩ ⟨#[39,39]⟩ _ (by omega) (by decide) (by decide) (v.out.below b (L5 _))).mono ?_;rintro e y ⟨rfl,c⟩;have g:Lib.replaceAll s.data.toList [39] [39,39]=gG s.data.toList:=by rw[gM _ (by decide),vL]
 simp only[g];clear g;have C:(gG s.data.toList).length<=128:=by have:=iB s.data.toList;simp at this;omega
 go_wp2
 go_ret
 refine⟨?_,b.trans (c.mono b.size)⟩;rw[q.out,<-j9,<-j9];rfl
theorem hH(t n:Int)(s:ByteArray)(w:World)(c: -9223372036854775808<=n)(d:n<=9223372036854775807)(a:Env w):
  Calls Tryz.prog 46 #[.agg #[.int .i64 t,.int .i64 n,.string s]] w fun e w'=>e=.returned (.string ⟨(cB t n s).toArray⟩)/\Below w.heap.size w w':=by
 cases h:be t n s
 ·exact zQ t n s w h
 by_cases b:t=1
 ·subst b;exact zR n s w h c d a
 have:t=2:=by simp[be,b]at h;exact h.1.1.1
 subst this;exact zS n s w h a
theorem vW(l:List UInt8):Lib.hasPrefix (39::l) [39]=true:=by simp[Lib.hasPrefix]
theorem zT(l:List UInt8)(h:∀r,l≠39::r):Lib.hasPrefix l [39]=false:=by
 cases l with
 |nil=>rfl
 |cons c r=>
  simp only[Lib.hasPrefix];rw[List.isPrefixOf];have:c≠39:=fun e=>h r (by rw[e])
  simp[Ne.symm this]
theorem pI(l:List UInt8)(s:ByteArray)(h:s.data.toList≠l):(l==s.toList)=false:=by
 rw[Lib.toList_data,beq_eq_false_iff_ne];exact fun e=>h e.symm
theorem mL(l:List UInt8)(s:ByteArray)(h:s.data.toList=l):(l==s.toList)=true:=by
 rw[Lib.toList_data,beq_iff_eq];exact h.symm
theorem xC(s:ByteArray)(w:World)(R:s.size<=4294967280)(t:Lib.hasPrefix s.data.toList [39]=false)(c:∀v,Lib.parseIntB 64 s.data.toList≠ .ok v)(r:Env w):
  Calls Tryz.prog 76 #[.string s] w fun e w'=>e=.returned (.tuple #[.agg #[.int .i64 0,.int .i64 0,.string ⟨#[]⟩],.int .i64 2])/\Below w.heap.size w w':=by
 have u:∀w:World,Calls Tryz.prog 77 #[.string s,.string ⟨#[39]⟩] w fun e w'=>e=.returned (.bool false)/\w=w':=fun w=>by
  have:=eN s ⟨#[39]⟩ w;rwa[show Lib.hasPrefix s.data.toList [39]=false from t]at this
 have G:=J u;clear u t;have h:=J c;clear c;have M:=J r;clear r;obtain⟨W,x,d,k⟩:=pm w 77 77 #[.int .i64 0,.int .i64 0,.string ⟨#[]⟩] #[.int .i64 0,.int .i64 0,.string ⟨#[]⟩];have A:=J x;have q:=J k;have m:=J k.2.2;have b:=J d;clear x k d
 go_enter Tryz.func76,Tryz.ntmps76
 go_wp2_with fail
 rw[A.out];refine(G.out _).mono ?_;rintro e E ⟨rfl,rfl⟩
 go_wp2_with fail
 refine(u9 s _ (by omega) h.out (M.out.below b.out (L5 _))).mono ?_;rintro e E ⟨v,N,rfl,a⟩;have p:=J (b.out.trans (a.mono (by rw[m.out];omega)));have l:=J (q.out.2.1.below a (by rw[m.out];omega));have f:=J (q.out.1.below a (by rw[m.out];omega));clear a;obtain⟨K,P,H,D,z,y⟩:=l.out.three;obtain⟨j,n,g,I,B,F⟩:=f.out.three
 go_wp2
 clear K P H D z y j n g I B F;obtain⟨Q,O,o,i,C,L⟩:=cg f.out (.int .i64 0) (.int .i64 0) (.string ⟨#[]⟩);rw[O];obtain⟨j,n,g,_,_,_⟩:=o.three;exact bodyPost_ret (v:=.tuple #[.agg #[.int .i64 0,.int .i64 0,.string ⟨#[]⟩],.int .i64 2]) (by simp[results,Tryz.results76,go_sem,j,n,g]) Z ⟨Z,p.out.trans i⟩
theorem sk(s:ByteArray)(w:World)(hs:s.size<=4294967280)(n:Int)(U:Lib.hasPrefix s.data.toList [39]=false)(r:Lib.parseIntB 64 s.data.toList=.ok n)(h0: -9223372036854775808<=n)(h1:n<=9223372036854775807)(h:s.data.toList=cB 1 n ⟨#[]⟩)(E:Env w):
  Calls Tryz.prog 76 #[.string s] w fun e w'=>e=.returned (.tuple #[.agg #[.int .i64 1,.int .i64 n,.string ⟨#[]⟩],.int .i64 0])/\Below w.heap.size w w':=by
 have V:∀w:World,Calls Tryz.prog 77 #[.string s,.string ⟨#[39]⟩] w fun e w'=>e=.returned (.bool false)/\w=w':=fun w=>by
  have:=eN s ⟨#[39]⟩ w;rwa[show Lib.hasPrefix s.data.toList [39]=false from U]at this
 have HP:=J V;clear V U;have G:=J r;clear r;have f:be 1 n ⟨#[]⟩=true:=by simp[be]
 have Y:∀w:World,Calls Tryz.prog 104 #[.agg #[.int .i64 1,.int .i64 n,.string ⟨#[]⟩]] w fun e w'=>e=.returned (.bool true)/\Below w.heap.size w w':=fun w=>by
  have:=eG 1 (n) ⟨#[]⟩ w;rwa[f]at this
 have HV:=J Y;clear Y;have T:∀w:World,Env w->Calls Tryz.prog 46 #[.agg #[.int .i64 1,.int .i64 n,.string ⟨#[]⟩]] w fun e w'=>e=.returned (.string ⟨(cB 1 (n) ⟨#[]⟩).toArray⟩)/\Below w.heap.size w w':=fun w E=>hH 1 (n) ⟨#[]⟩ w h0 h1 E
 have HF:=J T;clear T;have a1:(cB 1 n ⟨#[]⟩==s.toList)=true:=mL _ s h;clear f h;have HE:=J E;clear E;obtain⟨W,hW,t,L⟩:=pm w 77 77 #[.int .i64 0,.int .i64 0,.string ⟨#[]⟩] #[.int .i64 0,.int .i64 0,.string ⟨#[]⟩];have HW:=J hW;have S:=J L;have j:=J L.2.2;have H:=J t;clear hW L t
 go_enter Tryz.func76,Tryz.ntmps76
 go_wp2_with fail
 rw[HW.out];refine(HP.out _).mono ?_;rintro e w1 ⟨rfl,rfl⟩
 go_wp2_with fail
 refine(p6 s n _ (by omega) G.out).mono ?_;rintro e w1 ⟨rfl,a⟩
 go_wp2_with fail
 refine(rT _ _).mono ?_;rintro e w2 ⟨rfl,d⟩;have R:=J ((H.out.trans (a.mono (by rw[j.out];omega))).trans (d.mono (L6 (by rw[j.out];omega) a.size)));have HG:=J (IsBlk.below (IsBlk.below S.out.2.1 a (by rw[j.out];omega)) d (Mp (by rw[j.out];omega) a.size));have HR:=J (IsBlk.below (IsBlk.below S.out.1 a (by rw[j.out];omega)) d (Mp (by rw[j.out];omega) a.size));clear a d;obtain⟨y,z,u,o,l,k⟩:=HG.out.three
 go_wp2_with fail
 clear y z u o l k;obtain⟨w3,X,x,m,M,D⟩:=cg HG.out (.int .i64 1) (.int .i64 n) (.string ⟨#[]⟩);rw[X];have A:=J (show IsBlk w3 w.heap.size 77 #[.int .i64 0,.int .i64 0,.string ⟨#[]⟩]from(D w.heap.size (by omega)).trans HR.out);have q:=J (R.out.trans (m.mono (by omega)));have B:=J x;clear X x m M D;refine(HV.out _).mono ?_;rintro e w4 ⟨rfl,c⟩;have i:=J (q.out.trans (c.mono q.out.size));have g:=J (B.out.below c B.out.lt);have p:=J (A.out.below c A.out.lt);clear c;obtain⟨y,z,u,o,l,k⟩:=g.out.three
 go_wp2_with fail
 clear y z u o l k;refine(HF.out _ (HE.out.below i.out (L5 _))).mono ?_;rintro e w5 ⟨rfl,b⟩;have N:=J (i.out.trans (b.mono i.out.size));have O:=J (g.out.below b g.out.lt);have C:=J (p.out.below b p.out.lt);clear b;obtain⟨y,z,u,o,l,k⟩:=O.out.three;obtain⟨K,P,F,g0,g1,g2⟩:=C.out.three
 go_wp2
 clear y z u o l k K P F g0 g1 g2;obtain⟨w6,h6,Q,I,a0,a2⟩:=cg C.out (.int .i64 1) (.int .i64 n) (.string ⟨#[]⟩);rw[h6];obtain⟨K,P,F,_,_,_⟩:=Q.three;exact bodyPost_ret (v:=.tuple #[.agg #[.int .i64 1,.int .i64 n,.string ⟨#[]⟩],.int .i64 0]) (by simp[results,Tryz.results76,go_sem,K,P,F]) Z ⟨Z,N.out.trans I⟩
theorem qJ(s:ByteArray)(w:World)(hs:s.size<=4294967280)(n:Int)(U:Lib.hasPrefix s.data.toList [39]=false)(r:Lib.parseIntB 64 s.data.toList=.ok n)(h0: -9223372036854775808<=n)(h1:n<=9223372036854775807)(h:s.data.toList≠cB 1 n ⟨#[]⟩)(E:Env w):
  Calls Tryz.prog 76 #[.string s] w fun e w'=>e=.returned (.tuple #[.agg #[.int .i64 0,.int .i64 0,.string ⟨#[]⟩],.int .i64 2])/\Below w.heap.size w w':=by
 have V:∀w:World,Calls Tryz.prog 77 #[.string s,.string ⟨#[39]⟩] w fun e w'=>e=.returned (.bool false)/\w=w':=fun w=>by
  have:=eN s ⟨#[39]⟩ w;rwa[show Lib.hasPrefix s.data.toList [39]=false from U]at this
 have HP:=J V;clear V U;have G:=J r;clear r;have f:be 1 n ⟨#[]⟩=true:=by simp[be]
 have Y:∀w:World,Calls Tryz.prog 104 #[.agg #[.int .i64 1,.int .i64 n,.string ⟨#[]⟩]] w fun e w'=>e=.returned (.bool true)/\Below w.heap.size w w':=fun w=>by
  have:=eG 1 (n) ⟨#[]⟩ w;rwa[f]at this
 have HV:=J Y;clear Y;have T:∀w:World,Env w->Calls Tryz.prog 46 #[.agg #[.int .i64 1,.int .i64 n,.string ⟨#[]⟩]] w fun e w'=>e=.returned (.string ⟨(cB 1 (n) ⟨#[]⟩).toArray⟩)/\Below w.heap.size w w':=fun w E=>hH 1 (n) ⟨#[]⟩ w h0 h1 E
 have HF:=J T;clear T;have a1:(cB 1 n ⟨#[]⟩==s.toList)=false:=pI _ s h;clear f h;have HE:=J E;clear E;obtain⟨W,hW,t,L⟩:=pm w 77 77 #[.int .i64 0,.int .i64 0,.string ⟨#[]⟩] #[.int .i64 0,.int .i64 0,.string ⟨#[]⟩];have HW:=J hW;have S:=J L;have j:=J L.2.2;have H:=J t;clear hW L t
 go_enter Tryz.func76,Tryz.ntmps76
 go_wp2_with fail
 rw[HW.out];refine(HP.out _).mono ?_;rintro e w1 ⟨rfl,rfl⟩
 go_wp2_with fail
 refine(p6 s n _ (by omega) G.out).mono ?_;rintro e w1 ⟨rfl,a⟩
 go_wp2_with fail
 refine(rT _ _).mono ?_;rintro e w2 ⟨rfl,d⟩;have R:=J ((H.out.trans (a.mono (by rw[j.out];omega))).trans (d.mono (L6 (by rw[j.out];omega) a.size)));have HG:=J (IsBlk.below (IsBlk.below S.out.2.1 a (by rw[j.out];omega)) d (Mp (by rw[j.out];omega) a.size));have HR:=J (IsBlk.below (IsBlk.below S.out.1 a (by rw[j.out];omega)) d (Mp (by rw[j.out];omega) a.size));clear a d;obtain⟨y,z,u,o,l,k⟩:=HG.out.three
 go_wp2_with fail
 clear y z u o l k;obtain⟨w3,X,x,m,M,D⟩:=cg HG.out (.int .i64 1) (.int .i64 n) (.string ⟨#[]⟩);rw[X];have A:=J (show IsBlk w3 w.heap.size 77 #[.int .i64 0,.int .i64 0,.string ⟨#[]⟩]from(D w.heap.size (by omega)).trans HR.out);have q:=J (R.out.trans (m.mono (by omega)));have B:=J x;clear X x m M D;refine(HV.out _).mono ?_;rintro e w4 ⟨rfl,c⟩;have i:=J (q.out.trans (c.mono q.out.size));have g:=J (B.out.below c B.out.lt);have p:=J (A.out.below c A.out.lt);clear c;obtain⟨y,z,u,o,l,k⟩:=g.out.three
 go_wp2_with fail
 clear y z u o l k;refine(HF.out _ (HE.out.below i.out (L5 _))).mono ?_;rintro e w5 ⟨rfl,b⟩;have N:=J (i.out.trans (b.mono i.out.size));have O:=J (g.out.below b g.out.lt);have C:=J (p.out.below b p.out.lt);clear b;obtain⟨y,z,u,o,l,k⟩:=O.out.three;obtain⟨K,P,F,g0,g1,g2⟩:=C.out.three
 go_wp2
 clear y z u o l k K P F g0 g1 g2;obtain⟨w6,h6,Q,I,a0,a2⟩:=cg C.out (.int .i64 0) (.int .i64 0) (.string ⟨#[]⟩);rw[h6];obtain⟨K,P,F,_,_,_⟩:=Q.three;exact bodyPost_ret (v:=.tuple #[.agg #[.int .i64 0,.int .i64 0,.string ⟨#[]⟩],.int .i64 2]) (by simp[results,Tryz.results76,go_sem,K,P,F]) Z ⟨Z,N.out.trans I⟩
theorem xD(s:ByteArray)(w:World)(N:s.size<=4294967280)(o:Lib.hasPrefix s.data.toList [39]=true)(M:s.size<2)(n:Env w):
  Calls Tryz.prog 76 #[.string s] w fun e w'=>e=.returned (.tuple #[.agg #[.int .i64 0,.int .i64 0,.string ⟨#[]⟩],.int .i64 2])/\Below w.heap.size w w':=by
 have p:∀w:World,Calls Tryz.prog 77 #[.string s,.string ⟨#[39]⟩] w fun e w'=>e=.returned (.bool true)/\w=w':=fun w=>by
  have:=eN s ⟨#[39]⟩ w;rwa[show Lib.hasPrefix s.data.toList [39]=true from o]at this
 have B:=J p;clear p o;have O:=J n;clear n;obtain⟨W,q,a,h⟩:=pm w 77 77 #[.int .i64 0,.int .i64 0,.string ⟨#[]⟩] #[.int .i64 0,.int .i64 0,.string ⟨#[]⟩];have u:=J q;have m:=J h;have L:=J h.2.2;have d:=J a;clear q h a
 go_enter Tryz.func76,Tryz.ntmps76
 go_wp2_with fail
 rw[u.out];refine(B.out _).mono ?_;rintro e I ⟨rfl,rfl⟩;have i:=J m.out.2.1;have b:=J m.out.1;have l:=J d.out;obtain⟨E,H,C,z,t,r⟩:=i.out.three;obtain⟨g,j,c,D,x,A⟩:=b.out.three
 go_wp2
 clear E H C z t r g j c D x A;obtain⟨K,G,k,f,y,F⟩:=cg b.out (.int .i64 0) (.int .i64 0) (.string ⟨#[]⟩);rw[G];obtain⟨g,j,c,_,_,_⟩:=k.three;exact bodyPost_ret (v:=.tuple #[.agg #[.int .i64 0,.int .i64 0,.string ⟨#[]⟩],.int .i64 2]) (by simp[results,Tryz.results76,go_sem,g,j,c]) Z ⟨Z,l.out.trans f⟩
theorem sm(s:ByteArray)(w:World)(hs:s.size<=4294967280)(b:ByteArray)(u:b=⟨(rX [39,39] [39] (s.extract 1 (s.size-1)).data.toList).toArray⟩)(U:Lib.hasPrefix s.data.toList [39]=true)(h2:2<=s.size)(g:be 2 0 b=true)(h:s.data.toList=cB 2 0 b)(F:Env w):
  Calls Tryz.prog 76 #[.string s] w fun e w'=>e=.returned (.tuple #[.agg #[.int .i64 2,.int .i64 0,.string b],.int .i64 0])/\Below w.heap.size w w':=by
 have V:∀w:World,Calls Tryz.prog 77 #[.string s,.string ⟨#[39]⟩] w fun e w'=>e=.returned (.bool true)/\w=w':=fun w=>by
  have:=eN s ⟨#[39]⟩ w;rwa[show Lib.hasPrefix s.data.toList [39]=true from U]at this
 have HP:=J V;clear V U;have G:=J u;clear u;have Y:∀w:World,Calls Tryz.prog 104 #[.agg #[.int .i64 2,.int .i64 0,.string b]] w fun e w'=>e=.returned (.bool true)/\Below w.heap.size w w':=fun w=>by
  have:=eG 2 (0) b w;rwa[g]at this
 have HV:=J Y;clear Y;have T:∀w:World,Env w->Calls Tryz.prog 46 #[.agg #[.int .i64 2,.int .i64 0,.string b]] w fun e w'=>e=.returned (.string ⟨(cB 2 (0) b).toArray⟩)/\Below w.heap.size w w':=fun w F=>hH 2 (0) b w (by omega) (by omega) F
 have HF:=J T;clear T;have a1:(cB 2 0 b==s.toList)=true:=mL _ s h;clear g h;have HE:=J F;clear F;obtain⟨W,hW,t,L⟩:=pm w 77 77 #[.int .i64 0,.int .i64 0,.string ⟨#[]⟩] #[.int .i64 0,.int .i64 0,.string ⟨#[]⟩];have HW:=J hW;have S:=J L;have k:=J L.2.2;have p:=J t;clear hW L t
 go_enter Tryz.func76,Tryz.ntmps76
 go_wp2_with fail
 rw[HW.out];refine(HP.out _).mono ?_;rintro e w1 ⟨rfl,rfl⟩
 go_wp2_with fail
 refine(gI _ ⟨#[39,39]⟩ ⟨#[39]⟩ _ ?h1 (by decide) (by decide) (HE.out.below p.out (L5 _))).mono ?_
 case h1=>simp;omega
 rintro e w1 ⟨rfl,a⟩;rw[show Lib.replaceAll (s.extract 1 (s.size-1)).data.toList [39,39] [39]=rX [39,39] [39] (s.extract 1 (s.size-1)).data.toList from gM _ (by decide),<-G.out]
 go_wp2_with fail
 refine(j7 _ _).mono ?_;rintro e w2 ⟨rfl,f⟩;have R:=J ((p.out.trans (a.mono (by rw[k.out];omega))).trans (f.mono (L6 (by rw[k.out];omega) a.size)));have HG:=J (IsBlk.below (IsBlk.below S.out.2.1 a (by rw[k.out];omega)) f (Mp (by rw[k.out];omega) a.size));have HR:=J (IsBlk.below (IsBlk.below S.out.1 a (by rw[k.out];omega)) f (Mp (by rw[k.out];omega) a.size));clear a f;obtain⟨z,A,x,o,m,l⟩:=HG.out.three
 go_wp2_with fail
 clear z A x o m l;obtain⟨w3,X,y,n,M,E⟩:=cg HG.out (.int .i64 2) (.int .i64 0) (.string b);rw[X];have B:=J (show IsBlk w3 w.heap.size 77 #[.int .i64 0,.int .i64 0,.string ⟨#[]⟩]from(E w.heap.size (by omega)).trans HR.out);have r:=J (R.out.trans (n.mono (by omega)));have C:=J y;clear X y n M E;refine(HV.out _).mono ?_;rintro e w4 ⟨rfl,d⟩;have j:=J (r.out.trans (d.mono r.out.size));have i:=J (C.out.below d C.out.lt);have q:=J (B.out.below d B.out.lt);clear d;obtain⟨z,A,x,o,m,l⟩:=i.out.three
 go_wp2_with fail
 clear z A x o m l;refine(HF.out _ (HE.out.below j.out (L5 _))).mono ?_;rintro e w5 ⟨rfl,c⟩;have N:=J (j.out.trans (c.mono j.out.size));have O:=J (i.out.below c i.out.lt);have D:=J (q.out.below c q.out.lt);clear c;obtain⟨z,A,x,o,m,l⟩:=O.out.three;obtain⟨K,P,H,g0,g1,g2⟩:=D.out.three
 go_wp2
 clear z A x o m l K P H g0 g1 g2;obtain⟨w6,h6,Q,I,a0,a2⟩:=cg D.out (.int .i64 2) (.int .i64 0) (.string b);rw[h6];obtain⟨K,P,H,_,_,_⟩:=Q.three;exact bodyPost_ret (v:=.tuple #[.agg #[.int .i64 2,.int .i64 0,.string b],.int .i64 0]) (by simp[results,Tryz.results76,go_sem,K,P,H]) Z ⟨Z,N.out.trans I⟩
theorem qK(s:ByteArray)(w:World)(hs:s.size<=4294967280)(b:ByteArray)(u:b=⟨(rX [39,39] [39] (s.extract 1 (s.size-1)).data.toList).toArray⟩)(U:Lib.hasPrefix s.data.toList [39]=true)(h2:2<=s.size)(g:be 2 0 b=true)(h:s.data.toList≠cB 2 0 b)(F:Env w):
  Calls Tryz.prog 76 #[.string s] w fun e w'=>e=.returned (.tuple #[.agg #[.int .i64 0,.int .i64 0,.string ⟨#[]⟩],.int .i64 2])/\Below w.heap.size w w':=by
 have V:∀w:World,Calls Tryz.prog 77 #[.string s,.string ⟨#[39]⟩] w fun e w'=>e=.returned (.bool true)/\w=w':=fun w=>by
  have:=eN s ⟨#[39]⟩ w;rwa[show Lib.hasPrefix s.data.toList [39]=true from U]at this
 have HP:=J V;clear V U;have G:=J u;clear u;have Y:∀w:World,Calls Tryz.prog 104 #[.agg #[.int .i64 2,.int .i64 0,.string b]] w fun e w'=>e=.returned (.bool true)/\Below w.heap.size w w':=fun w=>by
  have:=eG 2 (0) b w;rwa[g]at this
 have HV:=J Y;clear Y;have T:∀w:World,Env w->Calls Tryz.prog 46 #[.agg #[.int .i64 2,.int .i64 0,.string b]] w fun e w'=>e=.returned (.string ⟨(cB 2 (0) b).toArray⟩)/\Below w.heap.size w w':=fun w F=>hH 2 (0) b w (by omega) (by omega) F
 have HF:=J T;clear T;have a1:(cB 2 0 b==s.toList)=false:=pI _ s h;clear g h;have HE:=J F;clear F;obtain⟨W,hW,t,L⟩:=pm w 77 77 #[.int .i64 0,.int .i64 0,.string ⟨#[]⟩] #[.int .i64 0,.int .i64 0,.string ⟨#[]⟩];have HW:=J hW;have S:=J L;have k:=J L.2.2;have p:=J t;clear hW L t
 go_enter Tryz.func76,Tryz.ntmps76
 go_wp2_with fail
 rw[HW.out];refine(HP.out _).mono ?_;rintro e w1 ⟨rfl,rfl⟩
 go_wp2_with fail
 refine(gI _ ⟨#[39,39]⟩ ⟨#[39]⟩ _ ?h1 (by decide) (by decide) (HE.out.below p.out (L5 _))).mono ?_
 case h1=>simp;omega
 rintro e w1 ⟨rfl,a⟩;rw[show Lib.replaceAll (s.extract 1 (s.size-1)).data.toList [39,39] [39]=rX [39,39] [39] (s.extract 1 (s.size-1)).data.toList from gM _ (by decide),<-G.out]
 go_wp2_with fail
 refine(j7 _ _).mono ?_;rintro e w2 ⟨rfl,f⟩;have R:=J ((p.out.trans (a.mono (by rw[k.out];omega))).trans (f.mono (L6 (by rw[k.out];omega) a.size)));have HG:=J (IsBlk.below (IsBlk.below S.out.2.1 a (by rw[k.out];omega)) f (Mp (by rw[k.out];omega) a.size));have HR:=J (IsBlk.below (IsBlk.below S.out.1 a (by rw[k.out];omega)) f (Mp (by rw[k.out];omega) a.size));clear a f;obtain⟨z,A,x,o,m,l⟩:=HG.out.three
 go_wp2_with fail
 clear z A x o m l;obtain⟨w3,X,y,n,M,E⟩:=cg HG.out (.int .i64 2) (.int .i64 0) (.string b);rw[X];have B:=J (show IsBlk w3 w.heap.size 77 #[.int .i64 0,.int .i64 0,.string ⟨#[]⟩]from(E w.heap.size (by omega)).trans HR.out);have r:=J (R.out.trans (n.mono (by omega)));have C:=J y;clear X y n M E;refine(HV.out _).mono ?_;rintro e w4 ⟨rfl,d⟩;have j:=J (r.out.trans (d.mono r.out.size));have i:=J (C.out.below d C.out.lt);have q:=J (B.out.below d B.out.lt);clear d;obtain⟨z,A,x,o,m,l⟩:=i.out.three
 go_wp2_with fail
 clear z A x o m l;refine(HF.out _ (HE.out.below j.out (L5 _))).mono ?_;rintro e w5 ⟨rfl,c⟩;have N:=J (j.out.trans (c.mono j.out.size));have O:=J (i.out.below c i.out.lt);have D:=J (q.out.below c q.out.lt);clear c;obtain⟨z,A,x,o,m,l⟩:=O.out.three;obtain⟨K,P,H,g0,g1,g2⟩:=D.out.three
 go_wp2
 clear z A x o m l K P H g0 g1 g2;obtain⟨w6,h6,Q,I,a0,a2⟩:=cg D.out (.int .i64 0) (.int .i64 0) (.string ⟨#[]⟩);rw[h6];obtain⟨K,P,H,_,_,_⟩:=Q.three;exact bodyPost_ret (v:=.tuple #[.agg #[.int .i64 0,.int .i64 0,.string ⟨#[]⟩],.int .i64 2]) (by simp[results,Tryz.results76,go_sem,K,P,H]) Z ⟨Z,N.out.trans I⟩
theorem tK(s:ByteArray)(w:World)(hs:s.size<=4294967280)(o:ByteArray)(l:o=⟨(rX [39,39] [39] (s.extract 1 (s.size-1)).data.toList).toArray⟩)(O:Lib.hasPrefix s.data.toList [39]=true)(h2:2<=s.size)(d:be 2 0 o=false)(N:Env w):
  Calls Tryz.prog 76 #[.string s] w fun e w'=>e=.returned (.tuple #[.agg #[.int .i64 0,.int .i64 0,.string ⟨#[]⟩],.int .i64 2])/\Below w.heap.size w w':=by
 have P:∀w:World,Calls Tryz.prog 77 #[.string s,.string ⟨#[39]⟩] w fun e w'=>e=.returned (.bool true)/\w=w':=fun w=>by
  have:=eN s ⟨#[39]⟩ w;rwa[show Lib.hasPrefix s.data.toList [39]=true from O]at this
 have HP:=J P;clear P O;have u:=J l;clear l;have R:∀w:World,Calls Tryz.prog 104 #[.agg #[.int .i64 2,.int .i64 0,.string o]] w fun e w'=>e=.returned (.bool false)/\Below w.heap.size w w':=fun w=>by
  have:=eG 2 (0) o w;rwa[d]at this
 have HV:=J R;clear R;clear d;have HE:=J N;clear N;obtain⟨W,S,k,D⟩:=pm w 77 77 #[.int .i64 0,.int .i64 0,.string ⟨#[]⟩] #[.int .i64 0,.int .i64 0,.string ⟨#[]⟩];have V:=J S;have M:=J D;have f:=J D.2.2;have h:=J k;clear S D k
 go_enter Tryz.func76,Tryz.ntmps76
 go_wp2_with fail
 rw[V.out];refine(HP.out _).mono ?_;rintro e w1 ⟨rfl,rfl⟩
 go_wp2_with fail
 refine(gI _ ⟨#[39,39]⟩ ⟨#[39]⟩ _ ?h1 (by decide) (by decide) (HE.out.below h.out (L5 _))).mono ?_
 case h1=>simp;omega
 rintro e w1 ⟨rfl,a⟩;rw[show Lib.replaceAll (s.extract 1 (s.size-1)).data.toList [39,39] [39]=rX [39,39] [39] (s.extract 1 (s.size-1)).data.toList from gM _ (by decide),<-u.out]
 go_wp2_with fail
 refine(j7 _ _).mono ?_;rintro e w2 ⟨rfl,c⟩;have L:=J ((h.out.trans (a.mono (by rw[f.out];omega))).trans (c.mono (L6 (by rw[f.out];omega) a.size)));have T:=J (IsBlk.below (IsBlk.below M.out.2.1 a (by rw[f.out];omega)) c (Mp (by rw[f.out];omega) a.size));have U:=J (IsBlk.below (IsBlk.below M.out.1 a (by rw[f.out];omega)) c (Mp (by rw[f.out];omega) a.size));clear a c;obtain⟨H,I,E,z,x,r⟩:=T.out.three
 go_wp2_with fail
 clear H I E z x r;obtain⟨w3,Q,m,g,F,q⟩:=cg T.out (.int .i64 2) (.int .i64 0) (.string o);rw[Q];have n:=J (show IsBlk w3 w.heap.size 77 #[.int .i64 0,.int .i64 0,.string ⟨#[]⟩]from(q w.heap.size (by omega)).trans U.out);have j:=J (L.out.trans (g.mono (by omega)));have p:=J m;clear Q m g F q;refine(HV.out _).mono ?_;rintro e w4 ⟨rfl,b⟩;have A:=J (j.out.trans (b.mono j.out.size));have t:=J (p.out.below b p.out.lt);have i:=J (n.out.below b n.out.lt);clear b;obtain⟨H,I,E,z,x,r⟩:=t.out.three;obtain⟨C,G,y,g0,X,g2⟩:=i.out.three
 go_wp2
 clear H I E z x r C G y g0 X g2;obtain⟨w6,h6,K,B,Y,a0⟩:=cg i.out (.int .i64 0) (.int .i64 0) (.string ⟨#[]⟩);rw[h6];obtain⟨C,G,y,_,_,_⟩:=K.three;exact bodyPost_ret (v:=.tuple #[.agg #[.int .i64 0,.int .i64 0,.string ⟨#[]⟩],.int .i64 2]) (by simp[results,Tryz.results76,go_sem,C,G,y]) Z ⟨Z,A.out.trans B⟩
theorem xE(l:List UInt8)(n:Int)(h:Lib.parseIntB 64 l=.ok n): -9223372036854775808<=n/\n<=9223372036854775807:=by
 have a:(2^(64-1):Nat)=9223372036854775808:=by decide
 cases l with
 |nil=>simp[Lib.parseIntB]at h
 |cons c r=>
  simp only[Lib.parseIntB,a]at h;split at h
  ·cases h
  ·cases h
  split at h
  ·cases h
  split at h
  ·cases h
  injection h with h
  subst h;split<;>omega
theorem fL{n:Int}{a:ByteArray}(h:be 1 n a=true):a=⟨#[]⟩:=by
 apply PJ;simp[be]at h;simpa using h
theorem fT{t n:Int}{a:ByteArray}(b:t≠1)(h:be t n a=true):t=2/\n=0/\a.size<=64/\a.data.toList.all pj=true:=by
 simp[be,b]at h;exact⟨h.1.1.1,h.1.1.2,h.1.2,by simpa using h.2⟩
theorem xF(s a:ByteArray)(h:s.data.toList=[39]++gG a.data.toList++[39]):(s.extract 1 (s.size-1)).data.toList=gG a.data.toList:=by
 have b:s.size=(gG a.data.toList).length+2:=by
  have:=congrArg List.length h;simp at this;omega
 rw[Lib.extract_data,h,b];simp
theorem xG(t n:Int)(d s:ByteArray)(w:World)(k:s.size<=4294967280)(a:be t n d=true)(f:s.data.toList=cB t n d)(g: -9223372036854775808<=n)(h:n<=9223372036854775807)(l:Env w):
  Calls Tryz.prog 76 #[.string s] w fun e w'=>e=.returned (.tuple #[.agg #[.int .i64 t,.int .i64 n,.string d],.int .i64 0])/\Below w.heap.size w w':=by
 by_cases i:t=1
 ·subst i;obtain rfl:=fL a;have b:s.data.toList=Lib.itoa n:=by rw[f];simp[cB,a]
  refine sk s w k n ?_ (by rw[b];exact nv n g h) g h f l;obtain⟨c,r,e,m⟩:=g8 n;exact zT _ fun p j=>m (by rw[b,e]at j;injection j)
 obtain⟨rfl,rfl,o,_⟩:=fT i a;have b:s.data.toList=[39]++gG d.data.toList++[39]:=by rw[f];simp[cB,a]
 have q:s.size=(gG d.data.toList).length+2:=by
  have:=congrArg List.length b;simp at this;omega
 refine sm s w k d ?_ (by rw[b];exact vW _) (by omega) a f l;rw[xF s d b,kr,iY]
theorem un(s:ByteArray)(w:World)(g:s.size<=4294967280)(h:∀(t n:Int) (a:ByteArray),be t n a=true-> -9223372036854775808<=n->n<=9223372036854775807->s.data.toList≠cB t n a)(b:Env w):
  Calls Tryz.prog 76 #[.string s] w fun e w'=>e=.returned (.tuple #[.agg #[.int .i64 0,.int .i64 0,.string ⟨#[]⟩],.int .i64 2])/\Below w.heap.size w w':=by
 cases d:Lib.hasPrefix s.data.toList [39]
 ·by_cases f:∃n,Lib.parseIntB 64 s.data.toList=.ok n
  ·obtain⟨n,f⟩:=f;obtain⟨k,l⟩:=xE _ _ f;exact qJ s w g n d f k l (h 1 n ⟨#[]⟩ (by simp[be]) k l) b
  exact xC s w g d (fun v c=>f ⟨v,c⟩) b
 rcases MI s.size 2 with j|j
 ·exact xD s w g d j b
 obtain⟨a,i⟩:∃a:ByteArray,a=⟨(rX [39,39] [39] (s.extract 1 (s.size-1)).data.toList).toArray⟩:=⟨_,rfl⟩;cases c:be 2 0 a
 ·exact tK s w g a i d j c b
 exact qK s w g a i d j c (h 2 0 a c (by omega) (by omega)) b
theorem He{t n j g:Int}{i d:ByteArray}(f:be t n i=true)(a:be j g d=true)(p: -9223372036854775808<=n)(q:n<=9223372036854775807)(l: -9223372036854775808<=g)(m:g<=9223372036854775807)
  (h:cB t n i=cB j g d):t=j/\n=g/\i=d:=by
 by_cases o:t=1
 ·subst o;obtain rfl:=fL f;by_cases b:j=1
  ·subst b;obtain rfl:=fL a;exact⟨Z,EG p q l m (by simpa[cB,f,a]using h),Z⟩
  obtain⟨rfl,rfl,_,_⟩:=fT b a;obtain⟨c,r,e,k⟩:=g8 n;simp[cB,f,a,e]at h;exact absurd h.1 k
 obtain⟨rfl,rfl,_,_⟩:=fT o f;by_cases b:j=1
 ·subst b;obtain rfl:=fL a;obtain⟨c,r,e,k⟩:=g8 g;simp[cB,f,a,e]at h;exact absurd h.1.symm k
 obtain⟨rfl,rfl,_,_⟩:=fT b a;refine⟨Z,Z,?_⟩;have:gG i.data.toList=gG d.data.toList:=by simpa[cB,f,a]using h
 have:=GV this;rw[<-iY i,<-iY d,this]
def zU(f:FuncId):Prop:=∃fn,Tryz.prog.funcs[f]? =some fn/\(fn.name== "runtime.NumGoroutine")=false/\fn.body.isNone=false
theorem PT.uncons{W:World}{G:Nat->Prop}{vs:List Value}{t:Tree}{ts:List Tree}(h:PT W G vs (t::ts)):∃v us,vs=v::us/\PT W G [v] [t]/\PT W G us ts:=by
 cases vs with
 |nil=>cases h
 |cons v us=>exact⟨v,us,Z,h.head,h.tail⟩
theorem cR{W:World}{G:Nat->Prop}{vs:List Value}{t:Tree}(h:PT W G vs [t]):∃v,vs=[v]/\PT W G [v] [t]:=by
 obtain⟨v,us,rfl,b,a⟩:=h.uncons;cases a;exact⟨v,Z,b⟩
theorem eL{W:World}{G:Nat->Prop}{vs:List Value}{t u:Tree}(h:PT W G vs [t,u]):∃v x,vs=[v,x]/\PT W G [v] [t]/\PT W G [x] [u]:=by
 obtain⟨v,us,rfl,c,b⟩:=h.uncons;obtain⟨x,rfl,a⟩:=cR b;exact⟨v,x,Z,c,a⟩
theorem mc{W:World}{G:Nat->Prop}{vs:List Value}{t u r:Tree}(h:PT W G vs [t,u,r]):∃v x y,vs=[v,x,y]/\PT W G [v] [t]/\PT W G [x] [u]/\PT W G [y] [r]:=by
 obtain⟨v,us,rfl,d,c⟩:=h.uncons;obtain⟨x,y,rfl,a,b⟩:=eL c;exact⟨v,x,y,Z,d,a,b⟩
theorem pJ{α:Type}(f:α->Tree)(h:∀a,(f a).cells=[f a]):∀l:List α,flat (l.map f)=l.map f
 |[]=>rfl
 |a::l=>by rw[MX,ei,h a,pJ f h l];rfl
theorem sn{W:World}{G:Nat->Prop}:∀{l:List Nat} {xs:List Value},PT W G xs (l.map fun d=>.sc (.int .u32 (d:Nat)))->xs=ce l
 |[],xs,h=>by cases h;rfl
 |_::l,xs,h=>by
  cases h with
  |sc v h=>rw[sn h];rfl
theorem BR(W:World)(G:Nat->Prop):∀l:List Nat,PT W G (ce l) (l.map fun d=>.sc (.int .u32 (d:Nat)))
 |[]=>.nil
 |_::l=>.sc _ (BR W G l)
theorem dX{W:World}{G:Nat->Prop}{v:Value}{n:Nat}(h:PT W G [v] [aM n]):IsD W v n:=by
 obtain⟨A,c,g,i,o,p,d⟩:=PT.slice h;rw[L8]at g i d;refine⟨A,c,g,fun m=>?_,fun e=>⟨?_,p e⟩,i,o,bY n⟩
 ·obtain⟨b,off,xs,rfl,l,_,k,f⟩:=d (by simpa[ce]using m);rw[pJ _ (fun _=>rfl)]at f;rw[<-sn f];exact⟨b,off,Z,l,k⟩
 rcases M1 (ay n).length with a|a
 ·exact a
 obtain⟨b,off,xs,j,_⟩:=d a;rw[e]at j;cases j
def OkG(G:Nat->Prop)(W:World):Prop:=∀g,G g->g<W.heap.size/\NoDigB W g
theorem OkG.later{G:Nat->Prop}{W W':World}(h:OkG G W)(b:Below W.heap.size W W'):OkG G W':=fun g a=>⟨Mp (h g a).1 b.size,(h g a).2.of (b.block g (h g a).1)⟩
theorem ia{W:World}{G:Nat->Prop}{v:Value}{n:Nat}(p:OkG G W)(h:IsD W v n):PT W G [v] [aM n]:=by
 obtain⟨A,c,rfl,a⟩:=h;unfold aM;by_cases k:(ay n).length=0
 ·have e:ay n=[]:=Mk k;rw[e];exact .sl0 A c (fun e=>(a.nil e).2) a.max .nil
 obtain⟨b,off,rfl,l,f⟩:=a.digit (i:=0) (by omega);refine .sl b off c _ (ce (ay n)) _ l (fun o=>?_) (fun j u g=>?_) (by simp) (by simpa using a.cap) a.max ?_ .nil
 ·have:=(p b o).2 _ _ (f 0 (by omega));simp[bL]at this
 ·simp only[ce,MQ,Na]at g;obtain⟨d,q,rfl⟩:=g;obtain⟨m,rfl⟩:=L7.1 q;exact f j m
 rw[pJ _ (fun _=>rfl)];exact BR W G _
theorem pK{W:World}{G:Nat->Prop}{v:Value}{d:Bool}{N D:Nat}(h:PT W G [v] [jX d N D]):IsQ W v d N D:=by
 cases h with
 |agg xs cs hx _=>
  obtain⟨a,b,c,rfl,g,f,e⟩:=mc hx;cases g;exact⟨b,c,Z,dX f,dX e⟩
theorem zV{W:World}{G:Nat->Prop}{v:Value}{a:Bool}{N D:Nat}(b:OkG G W)(h:IsQ W v a N D):PT W G [v] [jX a N D]:=by
 obtain⟨c,d,rfl,e,f⟩:=h;exact .agg [.bool a,c,d] _ (.sc _ ((ia b e).cons ((ia b f).cons .nil))) .nil
theorem so{W:World}{G:Nat->Prop}{v:Value}{q:Rat}(a:OkG G W)(h:IsF W v q):PT W G [v] [dp q]:=zV a h
theorem sq{W:World}{G:Nat->Prop}:∀{l:List V} {xs:List Value},PT W G xs (flat (l.map V.tree))->xs=co l
 |[],xs,h=>by cases h;rfl
 |v::l,xs,h=>by
  cases h with
  |sc a h=>
   cases h with
   |sc b h=>
    cases h with
    |sc c h=>rw[sq (l:=l) h];rfl
theorem qX{W:World}{G:Nat->Prop}{v:Value}{l:List V}(h:PT W G [v] [.sl (l.map V.tree)]):∃A c,v=.slice A l.length c/\At W W.heap.size A (co l)/\(A=none->l.length=0/\c=0):=by
 obtain⟨A,c,f,n,p,o,d⟩:=PT.slice h;rw[L8]at f n d;refine⟨A,c,f,fun m=>?_,fun e=>⟨?_,o e⟩⟩
 ·obtain⟨b,off,xs,rfl,k,_,j,i⟩:=d (by rw[d8]at m;omega);rw[<-sq i];exact⟨b,off,Z,k,j⟩
 rcases M1 l.length with a|a
 ·exact a
 obtain⟨b,off,xs,g,_⟩:=d a;rw[e]at g;cases g
theorem zW{W:World}{G:Nat->Prop}{u:Value}{v:V}(h:PT W G [u] [v.tree]):u=.agg #[.int .i64 v.t,.int .i64 v.n,.string v.s]:=by
 cases h with
 |agg xs cs hx _=>
  obtain⟨a,b,c,rfl,f,e,d⟩:=mc hx;cases f;cases e;cases d;rfl
theorem Ct.sc{f:FuncId}{args:List Tree}{r:Value}(d:zU f)(h:∀(G:Nat->Prop) (w:World) (vs:List Value),Env w->OkG G w->PT w G vs args->Calls Tryz.prog f vs.toArray w fun e w'=>e=.returned r/\Below w.heap.size w w'):Ct f args (.sc r):=
 ⟨d,fun G w vs g i b=>(h G w vs g i b).mono fun _ _ ⟨a,c⟩=>⟨r,a,.sc _ .nil,c⟩⟩
theorem vX{f:FuncId}{args:List Tree}{r:Value}(e:zU f)(h:∀(G:Nat->Prop) (w:World) (vs:List Value),Env w->OkG G w->PT w G vs args->Calls Tryz.prog f vs.toArray w (Gives (fun _ v=>v=r) w)):Ct f args (.sc r):=
 ⟨e,fun G w vs a i c=>(h G w vs a i c).mono fun _ _ ⟨v,b,d,g⟩=>⟨v,b,by rw[d];exact .sc _ .nil,g⟩⟩
theorem dW{f:FuncId}{args:List Tree}{r:Tree}{K:World->Value->Prop}(i:zU f)(d:∀(G:Nat->Prop) (W:World) (v:Value),OkG G W->K W v->PT W G [v] [r])(h:∀(G:Nat->Prop) (w:World) (vs:List Value),Env w->OkG G w->PT w G vs args->Calls Tryz.prog f vs.toArray w (Gives K w)):Ct f args r:=
 ⟨i,fun G w vs j a e=>(h G w vs j a e).mono fun _ w' ⟨v,c,g,b⟩=>⟨v,c,d G w' v (OkG.later a b) g,b⟩⟩
theorem E7(v:V):Ct 104 [v.tree] (bT v.ok):=Ct.sc ⟨_,Tryz.func104,Z,Z⟩ fun G w vs _ _ a=>by
 obtain⟨u,rfl,h⟩:=cR a;rw[zW h];exact eG v.t v.n v.s w
theorem jj(l m:List V)(a:l.length<=65536)(f:m.length<=65536):Ct 64 [.sl (l.map V.tree),.sl (m.map V.tree)] (iT (aO l m)):=Ct.sc ⟨_,Tryz.func64,Z,Z⟩ fun G w vs _ _ h=>by
 obtain⟨u,x,rfl,e,g⟩:=eL h;obtain⟨A,c,rfl,i,_⟩:=qX e;obtain⟨B,d,rfl,b,_⟩:=qX g;exact zB A B c d l m w i b a f
theorem BS(a:Bool)(N D:Nat)(d:(ay N).length<=262144)(e:(ay D).length<=262144):Ct 107 [jX a N D] (dp (cF a N D)):=dW ⟨_,Tryz.func107,Z,Z⟩ (fun _ _ _ c h=>so c h) fun G w vs _ _ b=>by
 obtain⟨u,rfl,h⟩:=cR b;exact E5 (pK h) (by omega) (by omega)
theorem Hf(a:Bool)(N D:Nat)(d:(ay N).length<=262144)(c:(ay D).length<=262144):Ct 66 [jX a N D] (iT (oH a N D)):=vX ⟨_,Tryz.func66,Z,Z⟩ fun G w vs _ _ b=>by
 obtain⟨u,rfl,h⟩:=cR b;exact E6 (pK h) (by omega) (by omega)
theorem E8(a b:Bool)(N D M E:Nat)(c:(ay N).length<=262144)(e:(ay D).length<=262144)(i:(ay M).length<=262144)(j:(ay E).length<=262144):Ct 132 [jX a N D,jX b M E] (dp (cF a N D+cF b M E)):=dW ⟨_,Tryz.func132,Z,Z⟩ (fun _ _ _ k h=>so k h) fun G w vs _ _ f=>by
 obtain⟨u,x,rfl,d,g⟩:=eL f;exact LC (pK d) (pK g) c e i j
theorem Jf(a:Bool)(N D:Nat):Ct 195 [jX a N D] (jX (!a) N D):=dW ⟨_,Tryz.func195,Z,Z⟩ (fun _ _ _ b h=>zV b h) fun G w vs _ _ c=>by
 obtain⟨u,rfl,h⟩:=cR c;exact LB (pK h)
theorem Jg:Ct 131 [] (dp 1):=dW ⟨_,Tryz.func131,Z,Z⟩ (fun _ _ _ a h=>so a h) fun G w vs _ _ b=>by
 cases b;exact LA w
theorem mM(d:Bool)(N D:Nat)(k:(ay N).length<=262144)(l:(ay D).length<=262144):Ct 145 [bT d,aM N,aM D] (dp (cF d N D)):=dW ⟨_,Tryz.func145,Z,Z⟩ (fun _ _ _ j h=>so j h) fun G w vs _ _ f=>by
 obtain⟨a,b,c,rfl,e,g,i⟩:=mc f;cases e;exact jY d (dX g) (dX i) (by omega) (by omega)
theorem pL(n:Nat)(b:(ay n).length<=262144):Ct 129 [aM n] (iT (c8 n)):=vX ⟨_,Tryz.func129,Z,Z⟩ fun G w vs _ _ a=>by
 obtain⟨u,rfl,h⟩:=cR a;exact oB (dX h) (by omega)
theorem oI(M N:Nat)(e:(ay M).length<=1048576)(a:(ay N).length<=1048576):Ct 152 [aM M,aM N] (aM (M*N)):=dW ⟨_,Tryz.func152,Z,Z⟩ (fun _ _ _ f h=>ia f h) fun G w vs _ _ c=>by
 obtain⟨u,x,rfl,b,d⟩:=eL c;exact GZ (dX b) (dX d) e a
theorem Hg(M N:Nat)(e:(ay M).length<=1073741823)(a:(ay N).length<=1073741823):Ct 151 [aM M,aM N] (iT (eu M N)):=vX ⟨_,Tryz.func151,Z,Z⟩ fun G w vs _ _ c=>by
 obtain⟨u,x,rfl,b,d⟩:=eL c;exact BJ (dX b) (dX d) e a
theorem kz(n:Nat)(a:n<18446744073709551616):Ct 149 [.sc (.int .u64 (n:Nat))] (aM n):=dW ⟨_,Tryz.func149,Z,Z⟩ (fun _ _ _ b h=>ia b h) fun G w vs _ _ c=>by
 obtain⟨u,rfl,h⟩:=cR c;cases h;exact ji n w a
theorem E9(n:Nat):Ct 109 [aM n] (bT (decide (n=1))):=vX ⟨_,Tryz.func109,Z,Z⟩ fun G w vs _ _ a=>by
 obtain⟨u,rfl,h⟩:=cR a;exact zL (dX h)
end Go.Proofs.YtfoejfohbkmmeaaGreatDoor
