import Derived.Test.YtfoejfohbkmmeaaGreatDoorU17
import Derived.Test.YtfoejfohbkmmeaaGreatDoorU15
import Derived.Test.YtfoejfohbkmmeaaGreatDoorU02
import Derived.Test.YtfoejfohbkmmeaaGreatDoorU00
import Derived.Test.YtfoejfohbkmmeaaGreatDoorU21
import Derived.Test.YtfoejfohbkmmeaaGreatDoorU23
import Derived.Test.YtfoejfohbkmmeaaGreatDoorU08
set_option maxHeartbeats 1000000
namespace Go.Proofs.YtfoejfohbkmmeaaGreatDoor
open Go.RowKit
open Lib renaming hid→J
def cB(t n:Int)(s:ByteArray):List UInt8:=
 if be t n s then(if t=1 then Lib.itoa n else [39]++gG s.data.toList++[39])else []
theorem zQ(t n:Int)(s:ByteArray)(w:World)(h:be t n s=false):
  Calls Tryz.prog 46 #[.agg #[.int .i64 t,.int .i64 n,.string s]] w fun e w'=>e=.returned (.string ⟨(cB t n s).toArray⟩)/\Below w.heap.size w w':=by
 have b:=J (show cB t n s=[] by simp[cB,h]);have a:∀w:World,Calls Tryz.prog 104 #[.agg #[.int .i64 t,.int .i64 n,.string s]] w fun e w'=>e=.returned (.bool false)/\Below w.heap.size w w':=fun w=>by
  have:=eG t n s w;rwa[h]at this
 have c:=J a;clear a h
 go_enter Tryz.func46,Tryz.ntmps46
 go_wp2_with (go_at_call 104;refine(c.out _).mono ?_;rintro e w' ⟨rfl,d⟩)
 go_ret
 exact⟨by rw[b.out];rfl,((Below.refl _ _).alloc (L5 _) _).trans (d.mono (by simp))⟩
theorem zR(n:Int)(s:ByteArray)(w:World)(h:be 1 n s=true)(o: -9223372036854775808<=n)(q:n<=9223372036854775807)(g:Env w):
  Calls Tryz.prog 46 #[.agg #[.int .i64 1,.int .i64 n,.string s]] w fun e w'=>e=.returned (.string ⟨(cB 1 n s).toArray⟩)/\Below w.heap.size w w':=by
 have k:=J (show cB 1 n s=Lib.itoa n by simp[cB,h]);have i:∀w:World,Calls Tryz.prog 104 #[.agg #[.int .i64 1,.int .i64 n,.string s]] w fun e w'=>e=.returned (.bool true)/\Below w.heap.size w w':=fun w=>by
  have:=eG 1 n s w;rwa[h]at this
 have v:=J i;clear i h;have r:=J g;clear g;obtain⟨W,j,x,f,t,u,A⟩:=JY w 77 (.int .i64 1) (.int .i64 n) (.string s);have l:=J j;clear j;have c:=J f;clear f
 go_enter Tryz.func46,Tryz.ntmps46
 go_wp2_with fail
 rw[l.out];refine(v.out _).mono ?_;rintro e m ⟨rfl,b⟩;have y:=(b.cell (p:=⟨w.heap.size,0,none⟩) (by simp[c.out])).trans t;have B:=(b.cell (p:=⟨w.heap.size,1,none⟩) (by simp[c.out])).trans u;have a:Below w.heap.size w m:=x.trans (b.mono (by rw[c.out];omega))
 go_wp2_with fail
 refine(tG n _ o q (r.out.below a (L5 _))).mono ?_;rintro e z ⟨rfl,d⟩
 go_wp2
 go_ret
 exact⟨by rw[k.out];rfl,a.trans (d.mono a.size)⟩
theorem zS(n:Int)(s:ByteArray)(w:World)(h:be 2 n s=true)(g:Env w):
  Calls Tryz.prog 46 #[.agg #[.int .i64 2,.int .i64 n,.string s]] w fun e w'=>e=.returned (.string ⟨(cB 2 n s).toArray⟩)/\Below w.heap.size w w':=by
 have l:=J (show cB 2 n s=[39]++gG s.data.toList++[39] by simp[cB,h]);have C:s.size<=64:=by simp[be]at h;omega
 have j:∀w:World,Calls Tryz.prog 104 #[.agg #[.int .i64 2,.int .i64 n,.string s]] w fun e w'=>e=.returned (.bool true)/\Below w.heap.size w w':=fun w=>by
  have:=eG 2 n s w;rwa[h]at this
 have u:=J j;clear j h;have q:=J g;clear g;obtain⟨W,k,v,f,t,A,r⟩:=JY w 77 (.int .i64 2) (.int .i64 n) (.string s);have m:=J k;clear k;have c:=J f;clear f
 go_enter Tryz.func46,Tryz.ntmps46
 go_wp2_with fail
 rw[m.out];refine(u.out _).mono ?_;rintro e o ⟨rfl,b⟩;have x:=(b.cell (p:=⟨w.heap.size,0,none⟩) (by simp[c.out])).trans t;have B:=(b.cell (p:=⟨w.heap.size,2,none⟩) (by simp[c.out])).trans r;have a:Below w.heap.size w o:=v.trans (b.mono (by rw[c.out];omega))
 go_wp2_with fail
 refine(gI s ⟨#[39]⟩ ⟨#[39,39]⟩ _ (by omega) (by decide) (by decide) (q.out.below a (L5 _))).mono ?_;rintro e y ⟨rfl,d⟩;have i:Lib.replaceAll s.data.toList [39] [39,39]=gG s.data.toList:=by rw[gM _ (by decide),vL]
 simp only[i];clear i;have z:(gG s.data.toList).length<=128:=by have:=iB s.data.toList;simp at this;omega
 go_wp2
 go_ret
 refine⟨?_,a.trans (d.mono a.size)⟩;rw[l.out,<-j9,<-j9];rfl
theorem hH(t n:Int)(s:ByteArray)(w:World)(c: -9223372036854775808<=n)(d:n<=9223372036854775807)(a:Env w):
  Calls Tryz.prog 46 #[.agg #[.int .i64 t,.int .i64 n,.string s]] w fun e w'=>e=.returned (.string ⟨(cB t n s).toArray⟩)/\Below w.heap.size w w':=by
 cases h:be t n s
 ·exact zQ t n s w h
 by_cases b:t=1
 ·subst b;exact zR n s w h c d a
 have:t=2:=by simp[be,b]at h;exact h.1.1.1
 subst this;exact zS n s w h a
theorem vW(l:List UInt8):Lib.hasPrefix (39::l) [39]=true:=by simp[Lib.hasPrefix]
theorem zT(l:List UInt8)(h:∀r,l≠39::r):Lib.hasPrefix l [39]=false:=by
 cases l with
 |nil=>rfl
 |cons c r=>
  simp only[Lib.hasPrefix];rw[List.isPrefixOf];have:c≠39:=fun e=>h r (by rw[e])
  simp[Ne.symm this]
theorem pI(l:List UInt8)(s:ByteArray)(h:s.data.toList≠l):(l==s.toList)=false:=by
 rw[Lib.toList_data,beq_eq_false_iff_ne];exact fun e=>h e.symm
theorem mL(l:List UInt8)(s:ByteArray)(h:s.data.toList=l):(l==s.toList)=true:=by
 rw[Lib.toList_data,beq_iff_eq];exact h.symm
theorem xC(s:ByteArray)(w:World)(R:s.size<=4294967280)(u:Lib.hasPrefix s.data.toList [39]=false)(c:∀v,Lib.parseIntB 64 s.data.toList≠ .ok v)(q:Env w):
  Calls Tryz.prog 76 #[.string s] w fun e w'=>e=.returned (.tuple #[.agg #[.int .i64 0,.int .i64 0,.string ⟨#[]⟩],.int .i64 2])/\Below w.heap.size w w':=by
 have t:∀w:World,Calls Tryz.prog 77 #[.string s,.string ⟨#[39]⟩] w fun e w'=>e=.returned (.bool false)/\w=w':=fun w=>by
  have:=eN s ⟨#[39]⟩ w;rwa[show Lib.hasPrefix s.data.toList [39]=false from u]at this
 have F:=J t;clear t u;have p:=J c;clear c;have G:=J q;clear q;obtain⟨W,x,b,g⟩:=pm w 77 77 #[.int .i64 0,.int .i64 0,.string ⟨#[]⟩] #[.int .i64 0,.int .i64 0,.string ⟨#[]⟩];have B:=J x;have r:=J g;have h:=J g.2.2;have f:=J b;clear x g b
 go_enter Tryz.func76,Tryz.ntmps76
 go_wp2_with fail
 rw[B.out];refine(F.out _).mono ?_;rintro e C ⟨rfl,rfl⟩
 go_wp2_with fail
 refine(u9 s _ (by omega) p.out (G.out.below f.out (L5 _))).mono ?_;rintro e C ⟨v,N,rfl,a⟩;have k:=J (f.out.trans (a.mono (by rw[h.out];omega)));have l:=J (r.out.2.1.below a (by rw[h.out];omega));have d:=J (r.out.1.below a (by rw[h.out];omega));clear a;obtain⟨L,O,H,I,K,D⟩:=l.out.three;obtain⟨i,m,o,z,M,A⟩:=d.out.three
 go_wp2
 clear L O H I K D i m o z M A;obtain⟨Q,y,j,n,E,P⟩:=cg d.out (.int .i64 0) (.int .i64 0) (.string ⟨#[]⟩);rw[y];obtain⟨i,m,o,_,_,_⟩:=j.three;exact bodyPost_ret (v:=.tuple #[.agg #[.int .i64 0,.int .i64 0,.string ⟨#[]⟩],.int .i64 2]) (by simp[results,Tryz.results76,go_sem,i,m,o]) Z ⟨Z,k.out.trans n⟩
theorem sk(s:ByteArray)(w:World)(hs:s.size<=4294967280)(n:Int)(V:Lib.hasPrefix s.data.toList [39]=false)(q:Lib.parseIntB 64 s.data.toList=.ok n)(h0: -9223372036854775808<=n)(h1:n<=9223372036854775807)(h:s.data.toList=cB 1 n ⟨#[]⟩)(E:Env w):
  Calls Tryz.prog 76 #[.string s] w fun e w'=>e=.returned (.tuple #[.agg #[.int .i64 1,.int .i64 n,.string ⟨#[]⟩],.int .i64 0])/\Below w.heap.size w w':=by
 have U:∀w:World,Calls Tryz.prog 77 #[.string s,.string ⟨#[39]⟩] w fun e w'=>e=.returned (.bool false)/\w=w':=fun w=>by
  have:=eN s ⟨#[39]⟩ w;rwa[show Lib.hasPrefix s.data.toList [39]=false from V]at this
 have HP:=J U;clear U V;have R:=J q;clear q;have f:be 1 n ⟨#[]⟩=true:=by simp[be]
 have X:∀w:World,Calls Tryz.prog 104 #[.agg #[.int .i64 1,.int .i64 n,.string ⟨#[]⟩]] w fun e w'=>e=.returned (.bool true)/\Below w.heap.size w w':=fun w=>by
  have:=eG 1 (n) ⟨#[]⟩ w;rwa[f]at this
 have HV:=J X;clear X;have hF:∀w:World,Env w->Calls Tryz.prog 46 #[.agg #[.int .i64 1,.int .i64 n,.string ⟨#[]⟩]] w fun e w'=>e=.returned (.string ⟨(cB 1 (n) ⟨#[]⟩).toArray⟩)/\Below w.heap.size w w':=fun w E=>hH 1 (n) ⟨#[]⟩ w h0 h1 E
 have HF:=J hF;clear hF;have a2:(cB 1 n ⟨#[]⟩==s.toList)=true:=mL _ s h;clear f h;have HE:=J E;clear E;obtain⟨W,hW,p,F⟩:=pm w 77 77 #[.int .i64 0,.int .i64 0,.string ⟨#[]⟩] #[.int .i64 0,.int .i64 0,.string ⟨#[]⟩];have HW:=J hW;have T:=J F;have j:=J F.2.2;have M:=J p;clear hW F p
 go_enter Tryz.func76,Tryz.ntmps76
 go_wp2_with fail
 rw[HW.out];refine(HP.out _).mono ?_;rintro e w1 ⟨rfl,rfl⟩
 go_wp2_with fail
 refine(p6 s n _ (by omega) R.out).mono ?_;rintro e w1 ⟨rfl,a⟩
 go_wp2_with fail
 refine(rT _ _).mono ?_;rintro e w2 ⟨rfl,c⟩;have L:=J ((M.out.trans (a.mono (by rw[j.out];omega))).trans (c.mono (L6 (by rw[j.out];omega) a.size)));have Y:=J (IsBlk.below (IsBlk.below T.out.2.1 a (by rw[j.out];omega)) c (Mp (by rw[j.out];omega) a.size));have HR:=J (IsBlk.below (IsBlk.below T.out.1 a (by rw[j.out];omega)) c (Mp (by rw[j.out];omega) a.size));clear a c;obtain⟨y,A,t,u,x,m⟩:=Y.out.three
 go_wp2_with fail
 clear y A t u x m;obtain⟨w3,S,l,B,P,C⟩:=cg Y.out (.int .i64 1) (.int .i64 n) (.string ⟨#[]⟩);rw[S];have D:=J (show IsBlk w3 w.heap.size 77 #[.int .i64 0,.int .i64 0,.string ⟨#[]⟩]from(C w.heap.size (by omega)).trans HR.out);have z:=J (L.out.trans (B.mono (by omega)));have r:=J l;clear S l B P C;refine(HV.out _).mono ?_;rintro e w4 ⟨rfl,d⟩;have g:=J (z.out.trans (d.mono z.out.size));have i:=J (r.out.below d r.out.lt);have o:=J (D.out.below d D.out.lt);clear d;obtain⟨y,A,t,u,x,m⟩:=i.out.three
 go_wp2_with fail
 clear y A t u x m;refine(HF.out _ (HE.out.below g.out (L5 _))).mono ?_;rintro e w5 ⟨rfl,b⟩;have H:=J (g.out.trans (b.mono g.out.size));have I:=J (i.out.below b i.out.lt);have k:=J (o.out.below b o.out.lt);clear b;obtain⟨y,A,t,u,x,m⟩:=I.out.three;obtain⟨G,N,Q,g0,g1,g2⟩:=k.out.three
 go_wp2
 clear y A t u x m G N Q g0 g1 g2;obtain⟨w6,h6,K,O,a0,a1⟩:=cg k.out (.int .i64 1) (.int .i64 n) (.string ⟨#[]⟩);rw[h6];obtain⟨G,N,Q,_,_,_⟩:=K.three;exact bodyPost_ret (v:=.tuple #[.agg #[.int .i64 1,.int .i64 n,.string ⟨#[]⟩],.int .i64 0]) (by simp[results,Tryz.results76,go_sem,G,N,Q]) Z ⟨Z,H.out.trans O⟩
theorem qJ(s:ByteArray)(w:World)(hs:s.size<=4294967280)(n:Int)(V:Lib.hasPrefix s.data.toList [39]=false)(q:Lib.parseIntB 64 s.data.toList=.ok n)(h0: -9223372036854775808<=n)(h1:n<=9223372036854775807)(h:s.data.toList≠cB 1 n ⟨#[]⟩)(E:Env w):
  Calls Tryz.prog 76 #[.string s] w fun e w'=>e=.returned (.tuple #[.agg #[.int .i64 0,.int .i64 0,.string ⟨#[]⟩],.int .i64 2])/\Below w.heap.size w w':=by
 have U:∀w:World,Calls Tryz.prog 77 #[.string s,.string ⟨#[39]⟩] w fun e w'=>e=.returned (.bool false)/\w=w':=fun w=>by
  have:=eN s ⟨#[39]⟩ w;rwa[show Lib.hasPrefix s.data.toList [39]=false from V]at this
 have HP:=J U;clear U V;have R:=J q;clear q;have f:be 1 n ⟨#[]⟩=true:=by simp[be]
 have X:∀w:World,Calls Tryz.prog 104 #[.agg #[.int .i64 1,.int .i64 n,.string ⟨#[]⟩]] w fun e w'=>e=.returned (.bool true)/\Below w.heap.size w w':=fun w=>by
  have:=eG 1 (n) ⟨#[]⟩ w;rwa[f]at this
 have HV:=J X;clear X;have hF:∀w:World,Env w->Calls Tryz.prog 46 #[.agg #[.int .i64 1,.int .i64 n,.string ⟨#[]⟩]] w fun e w'=>e=.returned (.string ⟨(cB 1 (n) ⟨#[]⟩).toArray⟩)/\Below w.heap.size w w':=fun w E=>hH 1 (n) ⟨#[]⟩ w h0 h1 E
 have HF:=J hF;clear hF;have a2:(cB 1 n ⟨#[]⟩==s.toList)=false:=pI _ s h;clear f h;have HE:=J E;clear E;obtain⟨W,hW,p,F⟩:=pm w 77 77 #[.int .i64 0,.int .i64 0,.string ⟨#[]⟩] #[.int .i64 0,.int .i64 0,.string ⟨#[]⟩];have HW:=J hW;have T:=J F;have j:=J F.2.2;have M:=J p;clear hW F p
 go_enter Tryz.func76,Tryz.ntmps76
 go_wp2_with fail
 rw[HW.out];refine(HP.out _).mono ?_;rintro e w1 ⟨rfl,rfl⟩
 go_wp2_with fail
 refine(p6 s n _ (by omega) R.out).mono ?_;rintro e w1 ⟨rfl,a⟩
 go_wp2_with fail
 refine(rT _ _).mono ?_;rintro e w2 ⟨rfl,c⟩;have L:=J ((M.out.trans (a.mono (by rw[j.out];omega))).trans (c.mono (L6 (by rw[j.out];omega) a.size)));have Y:=J (IsBlk.below (IsBlk.below T.out.2.1 a (by rw[j.out];omega)) c (Mp (by rw[j.out];omega) a.size));have HR:=J (IsBlk.below (IsBlk.below T.out.1 a (by rw[j.out];omega)) c (Mp (by rw[j.out];omega) a.size));clear a c;obtain⟨y,A,t,u,x,m⟩:=Y.out.three
 go_wp2_with fail
 clear y A t u x m;obtain⟨w3,S,l,B,P,C⟩:=cg Y.out (.int .i64 1) (.int .i64 n) (.string ⟨#[]⟩);rw[S];have D:=J (show IsBlk w3 w.heap.size 77 #[.int .i64 0,.int .i64 0,.string ⟨#[]⟩]from(C w.heap.size (by omega)).trans HR.out);have z:=J (L.out.trans (B.mono (by omega)));have r:=J l;clear S l B P C;refine(HV.out _).mono ?_;rintro e w4 ⟨rfl,d⟩;have g:=J (z.out.trans (d.mono z.out.size));have i:=J (r.out.below d r.out.lt);have o:=J (D.out.below d D.out.lt);clear d;obtain⟨y,A,t,u,x,m⟩:=i.out.three
 go_wp2_with fail
 clear y A t u x m;refine(HF.out _ (HE.out.below g.out (L5 _))).mono ?_;rintro e w5 ⟨rfl,b⟩;have H:=J (g.out.trans (b.mono g.out.size));have I:=J (i.out.below b i.out.lt);have k:=J (o.out.below b o.out.lt);clear b;obtain⟨y,A,t,u,x,m⟩:=I.out.three;obtain⟨G,N,Q,g0,g1,g2⟩:=k.out.three
 go_wp2
 clear y A t u x m G N Q g0 g1 g2;obtain⟨w6,h6,K,O,a0,a1⟩:=cg k.out (.int .i64 0) (.int .i64 0) (.string ⟨#[]⟩);rw[h6];obtain⟨G,N,Q,_,_,_⟩:=K.three;exact bodyPost_ret (v:=.tuple #[.agg #[.int .i64 0,.int .i64 0,.string ⟨#[]⟩],.int .i64 2]) (by simp[results,Tryz.results76,go_sem,G,N,Q]) Z ⟨Z,H.out.trans O⟩
theorem xD(s:ByteArray)(w:World)(O:s.size<=4294967280)(p:Lib.hasPrefix s.data.toList [39]=true)(M:s.size<2)(m:Env w):
  Calls Tryz.prog 76 #[.string s] w fun e w'=>e=.returned (.tuple #[.agg #[.int .i64 0,.int .i64 0,.string ⟨#[]⟩],.int .i64 2])/\Below w.heap.size w w':=by
 have o:∀w:World,Calls Tryz.prog 77 #[.string s,.string ⟨#[39]⟩] w fun e w'=>e=.returned (.bool true)/\w=w':=fun w=>by
  have:=eN s ⟨#[39]⟩ w;rwa[show Lib.hasPrefix s.data.toList [39]=true from p]at this
 have A:=J o;clear o p;have L:=J m;clear m;obtain⟨W,q,a,c⟩:=pm w 77 77 #[.int .i64 0,.int .i64 0,.string ⟨#[]⟩] #[.int .i64 0,.int .i64 0,.string ⟨#[]⟩];have x:=J q;have n:=J c;have I:=J c.2.2;have i:=J a;clear q c a
 go_enter Tryz.func76,Tryz.ntmps76
 go_wp2_with fail
 rw[x.out];refine(A.out _).mono ?_;rintro e K ⟨rfl,rfl⟩;have h:=J n.out.2.1;have b:=J n.out.1;have g:=J i.out;obtain⟨E,G,B,C,D,y⟩:=h.out.three;obtain⟨d,j,l,t,F,u⟩:=b.out.three
 go_wp2
 clear E G B C D y d j l t F u;obtain⟨N,r,f,k,z,H⟩:=cg b.out (.int .i64 0) (.int .i64 0) (.string ⟨#[]⟩);rw[r];obtain⟨d,j,l,_,_,_⟩:=f.three;exact bodyPost_ret (v:=.tuple #[.agg #[.int .i64 0,.int .i64 0,.string ⟨#[]⟩],.int .i64 2]) (by simp[results,Tryz.results76,go_sem,d,j,l]) Z ⟨Z,g.out.trans k⟩
theorem sm(s:ByteArray)(w:World)(hs:s.size<=4294967280)(b:ByteArray)(D:b=⟨(rX [39,39] [39] (s.extract 1 (s.size-1)).data.toList).toArray⟩)(X:Lib.hasPrefix s.data.toList [39]=true)(h2:2<=s.size)(g:be 2 0 b=true)(h:s.data.toList=cB 2 0 b)(F:Env w):
  Calls Tryz.prog 76 #[.string s] w fun e w'=>e=.returned (.tuple #[.agg #[.int .i64 2,.int .i64 0,.string b],.int .i64 0])/\Below w.heap.size w w':=by
 have U:∀w:World,Calls Tryz.prog 77 #[.string s,.string ⟨#[39]⟩] w fun e w'=>e=.returned (.bool true)/\w=w':=fun w=>by
  have:=eN s ⟨#[39]⟩ w;rwa[show Lib.hasPrefix s.data.toList [39]=true from X]at this
 have HP:=J U;clear U X;have N:=J D;clear D;have Y:∀w:World,Calls Tryz.prog 104 #[.agg #[.int .i64 2,.int .i64 0,.string b]] w fun e w'=>e=.returned (.bool true)/\Below w.heap.size w w':=fun w=>by
  have:=eG 2 (0) b w;rwa[g]at this
 have HV:=J Y;clear Y;have hF:∀w:World,Env w->Calls Tryz.prog 46 #[.agg #[.int .i64 2,.int .i64 0,.string b]] w fun e w'=>e=.returned (.string ⟨(cB 2 (0) b).toArray⟩)/\Below w.heap.size w w':=fun w F=>hH 2 (0) b w (by omega) (by omega) F
 have HF:=J hF;clear hF;have a2:(cB 2 0 b==s.toList)=true:=mL _ s h;clear g h;have V:=J F;clear F;obtain⟨W,hW,p,G⟩:=pm w 77 77 #[.int .i64 0,.int .i64 0,.string ⟨#[]⟩] #[.int .i64 0,.int .i64 0,.string ⟨#[]⟩];have HW:=J hW;have T:=J G;have k:=J G.2.2;have z:=J p;clear hW G p
 go_enter Tryz.func76,Tryz.ntmps76
 go_wp2_with fail
 rw[HW.out];refine(HP.out _).mono ?_;rintro e w1 ⟨rfl,rfl⟩
 go_wp2_with fail
 refine(gI _ ⟨#[39,39]⟩ ⟨#[39]⟩ _ ?h1 (by decide) (by decide) (V.out.below z.out (L5 _))).mono ?_
 case h1=>simp;omega
 rintro e w1 ⟨rfl,a⟩;rw[show Lib.replaceAll (s.extract 1 (s.size-1)).data.toList [39,39] [39]=rX [39,39] [39] (s.extract 1 (s.size-1)).data.toList from gM _ (by decide),<-N.out]
 go_wp2_with fail
 refine(j7 _ _).mono ?_;rintro e w2 ⟨rfl,d⟩;have M:=J ((z.out.trans (a.mono (by rw[k.out];omega))).trans (d.mono (L6 (by rw[k.out];omega) a.size)));have HG:=J (IsBlk.below (IsBlk.below T.out.2.1 a (by rw[k.out];omega)) d (Mp (by rw[k.out];omega) a.size));have HR:=J (IsBlk.below (IsBlk.below T.out.1 a (by rw[k.out];omega)) d (Mp (by rw[k.out];omega) a.size));clear a d;obtain⟨x,A,r,t,u,n⟩:=HG.out.three
 go_wp2_with fail
 clear x A r t u n;obtain⟨w3,S,m,B,Q,C⟩:=cg HG.out (.int .i64 2) (.int .i64 0) (.string b);rw[S];have E:=J (show IsBlk w3 w.heap.size 77 #[.int .i64 0,.int .i64 0,.string ⟨#[]⟩]from(C w.heap.size (by omega)).trans HR.out);have y:=J (M.out.trans (B.mono (by omega)));have q:=J m;clear S m B Q C;refine(HV.out _).mono ?_;rintro e w4 ⟨rfl,f⟩;have i:=J (y.out.trans (f.mono y.out.size));have j:=J (q.out.below f q.out.lt);have o:=J (E.out.below f E.out.lt);clear f;obtain⟨x,A,r,t,u,n⟩:=j.out.three
 go_wp2_with fail
 clear x A r t u n;refine(HF.out _ (V.out.below i.out (L5 _))).mono ?_;rintro e w5 ⟨rfl,c⟩;have I:=J (i.out.trans (c.mono i.out.size));have K:=J (j.out.below c j.out.lt);have l:=J (o.out.below c o.out.lt);clear c;obtain⟨x,A,r,t,u,n⟩:=K.out.three;obtain⟨H,O,R,g0,g1,g2⟩:=l.out.three
 go_wp2
 clear x A r t u n H O R g0 g1 g2;obtain⟨w6,h6,L,P,a0,a1⟩:=cg l.out (.int .i64 2) (.int .i64 0) (.string b);rw[h6];obtain⟨H,O,R,_,_,_⟩:=L.three;exact bodyPost_ret (v:=.tuple #[.agg #[.int .i64 2,.int .i64 0,.string b],.int .i64 0]) (by simp[results,Tryz.results76,go_sem,H,O,R]) Z ⟨Z,I.out.trans P⟩
theorem qK(s:ByteArray)(w:World)(hs:s.size<=4294967280)(b:ByteArray)(D:b=⟨(rX [39,39] [39] (s.extract 1 (s.size-1)).data.toList).toArray⟩)(X:Lib.hasPrefix s.data.toList [39]=true)(h2:2<=s.size)(g:be 2 0 b=true)(h:s.data.toList≠cB 2 0 b)(F:Env w):
  Calls Tryz.prog 76 #[.string s] w fun e w'=>e=.returned (.tuple #[.agg #[.int .i64 0,.int .i64 0,.string ⟨#[]⟩],.int .i64 2])/\Below w.heap.size w w':=by
 have U:∀w:World,Calls Tryz.prog 77 #[.string s,.string ⟨#[39]⟩] w fun e w'=>e=.returned (.bool true)/\w=w':=fun w=>by
  have:=eN s ⟨#[39]⟩ w;rwa[show Lib.hasPrefix s.data.toList [39]=true from X]at this
 have HP:=J U;clear U X;have N:=J D;clear D;have Y:∀w:World,Calls Tryz.prog 104 #[.agg #[.int .i64 2,.int .i64 0,.string b]] w fun e w'=>e=.returned (.bool true)/\Below w.heap.size w w':=fun w=>by
  have:=eG 2 (0) b w;rwa[g]at this
 have HV:=J Y;clear Y;have hF:∀w:World,Env w->Calls Tryz.prog 46 #[.agg #[.int .i64 2,.int .i64 0,.string b]] w fun e w'=>e=.returned (.string ⟨(cB 2 (0) b).toArray⟩)/\Below w.heap.size w w':=fun w F=>hH 2 (0) b w (by omega) (by omega) F
 have HF:=J hF;clear hF;have a2:(cB 2 0 b==s.toList)=false:=pI _ s h;clear g h;have V:=J F;clear F;obtain⟨W,hW,p,G⟩:=pm w 77 77 #[.int .i64 0,.int .i64 0,.string ⟨#[]⟩] #[.int .i64 0,.int .i64 0,.string ⟨#[]⟩];have HW:=J hW;have T:=J G;have k:=J G.2.2;have z:=J p;clear hW G p
 go_enter Tryz.func76,Tryz.ntmps76
 go_wp2_with fail
 rw[HW.out];refine(HP.out _).mono ?_;rintro e w1 ⟨rfl,rfl⟩
 go_wp2_with fail
 refine(gI _ ⟨#[39,39]⟩ ⟨#[39]⟩ _ ?h1 (by decide) (by decide) (V.out.below z.out (L5 _))).mono ?_
 case h1=>simp;omega
 rintro e w1 ⟨rfl,a⟩;rw[show Lib.replaceAll (s.extract 1 (s.size-1)).data.toList [39,39] [39]=rX [39,39] [39] (s.extract 1 (s.size-1)).data.toList from gM _ (by decide),<-N.out]
 go_wp2_with fail
 refine(j7 _ _).mono ?_;rintro e w2 ⟨rfl,d⟩;have M:=J ((z.out.trans (a.mono (by rw[k.out];omega))).trans (d.mono (L6 (by rw[k.out];omega) a.size)));have HG:=J (IsBlk.below (IsBlk.below T.out.2.1 a (by rw[k.out];omega)) d (Mp (by rw[k.out];omega) a.size));have HR:=J (IsBlk.below (IsBlk.below T.out.1 a (by rw[k.out];omega)) d (Mp (by rw[k.out];omega) a.size));clear a d;obtain⟨x,A,r,t,u,n⟩:=HG.out.three
 go_wp2_with fail
 clear x A r t u n;obtain⟨w3,S,m,B,Q,C⟩:=cg HG.out (.int .i64 2) (.int .i64 0) (.string b);rw[S];have E:=J (show IsBlk w3 w.heap.size 77 #[.int .i64 0,.int .i64 0,.string ⟨#[]⟩]from(C w.heap.size (by omega)).trans HR.out);have y:=J (M.out.trans (B.mono (by omega)));have q:=J m;clear S m B Q C;refine(HV.out _).mono ?_;rintro e w4 ⟨rfl,f⟩;have i:=J (y.out.trans (f.mono y.out.size));have j:=J (q.out.below f q.out.lt);have o:=J (E.out.below f E.out.lt);clear f;obtain⟨x,A,r,t,u,n⟩:=j.out.three
 go_wp2_with fail
 clear x A r t u n;refine(HF.out _ (V.out.below i.out (L5 _))).mono ?_;rintro e w5 ⟨rfl,c⟩;have I:=J (i.out.trans (c.mono i.out.size));have K:=J (j.out.below c j.out.lt);have l:=J (o.out.below c o.out.lt);clear c;obtain⟨x,A,r,t,u,n⟩:=K.out.three;obtain⟨H,O,R,g0,g1,g2⟩:=l.out.three
 go_wp2
 clear x A r t u n H O R g0 g1 g2;obtain⟨w6,h6,L,P,a0,a1⟩:=cg l.out (.int .i64 0) (.int .i64 0) (.string ⟨#[]⟩);rw[h6];obtain⟨H,O,R,_,_,_⟩:=L.three;exact bodyPost_ret (v:=.tuple #[.agg #[.int .i64 0,.int .i64 0,.string ⟨#[]⟩],.int .i64 2]) (by simp[results,Tryz.results76,go_sem,H,O,R]) Z ⟨Z,I.out.trans P⟩
theorem tK(s:ByteArray)(w:World)(hs:s.size<=4294967280)(l:ByteArray)(p:l=⟨(rX [39,39] [39] (s.extract 1 (s.size-1)).data.toList).toArray⟩)(Q:Lib.hasPrefix s.data.toList [39]=true)(h2:2<=s.size)(d:be 2 0 l=false)(N:Env w):
  Calls Tryz.prog 76 #[.string s] w fun e w'=>e=.returned (.tuple #[.agg #[.int .i64 0,.int .i64 0,.string ⟨#[]⟩],.int .i64 2])/\Below w.heap.size w w':=by
 have P:∀w:World,Calls Tryz.prog 77 #[.string s,.string ⟨#[39]⟩] w fun e w'=>e=.returned (.bool true)/\w=w':=fun w=>by
  have:=eN s ⟨#[39]⟩ w;rwa[show Lib.hasPrefix s.data.toList [39]=true from Q]at this
 have HP:=J P;clear P Q;have L:=J p;clear p;have R:∀w:World,Calls Tryz.prog 104 #[.agg #[.int .i64 2,.int .i64 0,.string l]] w fun e w'=>e=.returned (.bool false)/\Below w.heap.size w w':=fun w=>by
  have:=eG 2 (0) l w;rwa[d]at this
 have HV:=J R;clear R;clear d;have HE:=J N;clear N;obtain⟨W,T,i,r⟩:=pm w 77 77 #[.int .i64 0,.int .i64 0,.string ⟨#[]⟩] #[.int .i64 0,.int .i64 0,.string ⟨#[]⟩];have HW:=J T;have O:=J r;have f:=J r.2.2;have m:=J i;clear T r i
 go_enter Tryz.func76,Tryz.ntmps76
 go_wp2_with fail
 rw[HW.out];refine(HP.out _).mono ?_;rintro e w1 ⟨rfl,rfl⟩
 go_wp2_with fail
 refine(gI _ ⟨#[39,39]⟩ ⟨#[39]⟩ _ ?h1 (by decide) (by decide) (HE.out.below m.out (L5 _))).mono ?_
 case h1=>simp;omega
 rintro e w1 ⟨rfl,a⟩;rw[show Lib.replaceAll (s.extract 1 (s.size-1)).data.toList [39,39] [39]=rX [39,39] [39] (s.extract 1 (s.size-1)).data.toList from gM _ (by decide),<-L.out]
 go_wp2_with fail
 refine(j7 _ _).mono ?_;rintro e w2 ⟨rfl,b⟩;have z:=J ((m.out.trans (a.mono (by rw[f.out];omega))).trans (b.mono (L6 (by rw[f.out];omega) a.size)));have S:=J (IsBlk.below (IsBlk.below O.out.2.1 a (by rw[f.out];omega)) b (Mp (by rw[f.out];omega) a.size));have X:=J (IsBlk.below (IsBlk.below O.out.1 a (by rw[f.out];omega)) b (Mp (by rw[f.out];omega) a.size));clear a b;obtain⟨D,H,y,A,C,u⟩:=S.out.three
 go_wp2_with fail
 clear D H y A C u;obtain⟨w3,M,g,n,G,o⟩:=cg S.out (.int .i64 2) (.int .i64 0) (.string l);rw[M];have q:=J (show IsBlk w3 w.heap.size 77 #[.int .i64 0,.int .i64 0,.string ⟨#[]⟩]from(o w.heap.size (by omega)).trans X.out);have k:=J (z.out.trans (n.mono (by omega)));have j:=J g;clear M g n G o;refine(HV.out _).mono ?_;rintro e w4 ⟨rfl,c⟩;have B:=J (k.out.trans (c.mono k.out.size));have I:=J (j.out.below c j.out.lt);have h:=J (q.out.below c q.out.lt);clear c;obtain⟨D,H,y,A,C,u⟩:=I.out.three;obtain⟨t,E,K,V,g1,Y⟩:=h.out.three
 go_wp2
 clear D H y A C u t E K V g1 Y;obtain⟨w6,U,x,F,a0,a1⟩:=cg h.out (.int .i64 0) (.int .i64 0) (.string ⟨#[]⟩);rw[U];obtain⟨t,E,K,_,_,_⟩:=x.three;exact bodyPost_ret (v:=.tuple #[.agg #[.int .i64 0,.int .i64 0,.string ⟨#[]⟩],.int .i64 2]) (by simp[results,Tryz.results76,go_sem,t,E,K]) Z ⟨Z,B.out.trans F⟩
theorem xE(l:List UInt8)(n:Int)(h:Lib.parseIntB 64 l=.ok n): -9223372036854775808<=n/\n<=9223372036854775807:=by
 have a:(2^(64-1):Nat)=9223372036854775808:=by decide
 cases l with
 |nil=>simp[Lib.parseIntB]at h
 |cons c r=>
  simp only[Lib.parseIntB,a]at h;split at h
  ·cases h
  ·cases h
  split at h
  ·cases h
  split at h
  ·cases h
  injection h with h
  subst h;split<;>omega
theorem fL{n:Int}{a:ByteArray}(h:be 1 n a=true):a=⟨#[]⟩:=by
 apply PJ;simp[be]at h;simpa using h
theorem fT{t n:Int}{a:ByteArray}(b:t≠1)(h:be t n a=true):t=2/\n=0/\a.size<=64/\a.data.toList.all pj=true:=by
 simp[be,b]at h;exact⟨h.1.1.1,h.1.1.2,h.1.2,by simpa using h.2⟩
theorem xF(s a:ByteArray)(h:s.data.toList=[39]++gG a.data.toList++[39]):(s.extract 1 (s.size-1)).data.toList=gG a.data.toList:=by
 have b:s.size=(gG a.data.toList).length+2:=by
  have:=congrArg List.length h;simp at this;omega
 rw[Lib.extract_data,h,b];simp
theorem xG(t n:Int)(d s:ByteArray)(w:World)(l:s.size<=4294967280)(a:be t n d=true)(f:s.data.toList=cB t n d)(j: -9223372036854775808<=n)(k:n<=9223372036854775807)(h:Env w):
  Calls Tryz.prog 76 #[.string s] w fun e w'=>e=.returned (.tuple #[.agg #[.int .i64 t,.int .i64 n,.string d],.int .i64 0])/\Below w.heap.size w w':=by
 by_cases i:t=1
 ·subst i;obtain rfl:=fL a;have b:s.data.toList=Lib.itoa n:=by rw[f];simp[cB,a]
  refine sk s w l n ?_ (by rw[b];exact nv n j k) j k f h;obtain⟨c,r,e,m⟩:=g8 n;exact zT _ fun p g=>m (by rw[b,e]at g;injection g)
 obtain⟨rfl,rfl,o,_⟩:=fT i a;have b:s.data.toList=[39]++gG d.data.toList++[39]:=by rw[f];simp[cB,a]
 have q:s.size=(gG d.data.toList).length+2:=by
  have:=congrArg List.length b;simp at this;omega
 refine sm s w l d ?_ (by rw[b];exact vW _) (by omega) a f h;rw[xF s d b,kr,iY]
theorem un(s:ByteArray)(w:World)(i:s.size<=4294967280)(h:∀(t n:Int) (a:ByteArray),be t n a=true-> -9223372036854775808<=n->n<=9223372036854775807->s.data.toList≠cB t n a)(c:Env w):
  Calls Tryz.prog 76 #[.string s] w fun e w'=>e=.returned (.tuple #[.agg #[.int .i64 0,.int .i64 0,.string ⟨#[]⟩],.int .i64 2])/\Below w.heap.size w w':=by
 cases f:Lib.hasPrefix s.data.toList [39]
 ·by_cases b:∃n,Lib.parseIntB 64 s.data.toList=.ok n
  ·obtain⟨n,b⟩:=b;obtain⟨k,l⟩:=xE _ _ b;exact qJ s w i n f b k l (h 1 n ⟨#[]⟩ (by simp[be]) k l) c
  exact xC s w i f (fun v d=>b ⟨v,d⟩) c
 rcases MI s.size 2 with j|j
 ·exact xD s w i f j c
 obtain⟨a,g⟩:∃a:ByteArray,a=⟨(rX [39,39] [39] (s.extract 1 (s.size-1)).data.toList).toArray⟩:=⟨_,rfl⟩;cases d:be 2 0 a
 ·exact tK s w i a g f j d c
 exact qK s w i a g f j d (h 2 0 a d (by omega) (by omega)) c
theorem He{t n j f:Int}{i d:ByteArray}(g:be t n i=true)(a:be j f d=true)(p: -9223372036854775808<=n)(q:n<=9223372036854775807)(l: -9223372036854775808<=f)(m:f<=9223372036854775807)
  (h:cB t n i=cB j f d):t=j/\n=f/\i=d:=by
 by_cases o:t=1
 ·subst o;obtain rfl:=fL g;by_cases b:j=1
  ·subst b;obtain rfl:=fL a;exact⟨Z,EG p q l m (by simpa[cB,g,a]using h),Z⟩
  obtain⟨rfl,rfl,_,_⟩:=fT b a;obtain⟨c,r,e,k⟩:=g8 n;simp[cB,g,a,e]at h;exact absurd h.1 k
 obtain⟨rfl,rfl,_,_⟩:=fT o g;by_cases b:j=1
 ·subst b;obtain rfl:=fL a;obtain⟨c,r,e,k⟩:=g8 f;simp[cB,g,a,e]at h;exact absurd h.1.symm k
 obtain⟨rfl,rfl,_,_⟩:=fT b a;refine⟨Z,Z,?_⟩;have:gG i.data.toList=gG d.data.toList:=by simpa[cB,g,a]using h
 have:=GV this;rw[<-iY i,<-iY d,this]
def zU(f:FuncId):Prop:=∃fn,Tryz.prog.funcs[f]? =some fn/\(fn.name== "runtime.NumGoroutine")=false/\fn.body.isNone=false
theorem PT.uncons{W:World}{G:Nat->Prop}{vs:List Value}{t:Tree}{ts:List Tree}(h:PT W G vs (t::ts)):∃v us,vs=v::us/\PT W G [v] [t]/\PT W G us ts:=by
 cases vs with
 |nil=>cases h
 |cons v us=>exact⟨v,us,Z,h.head,h.tail⟩
theorem cR{W:World}{G:Nat->Prop}{vs:List Value}{t:Tree}(h:PT W G vs [t]):∃v,vs=[v]/\PT W G [v] [t]:=by
 obtain⟨v,us,rfl,b,a⟩:=h.uncons;cases a;exact⟨v,Z,b⟩
theorem eL{W:World}{G:Nat->Prop}{vs:List Value}{t u:Tree}(h:PT W G vs [t,u]):∃v x,vs=[v,x]/\PT W G [v] [t]/\PT W G [x] [u]:=by
 obtain⟨v,us,rfl,c,b⟩:=h.uncons;obtain⟨x,rfl,a⟩:=cR b;exact⟨v,x,Z,c,a⟩
theorem mc{W:World}{G:Nat->Prop}{vs:List Value}{t u r:Tree}(h:PT W G vs [t,u,r]):∃v x y,vs=[v,x,y]/\PT W G [v] [t]/\PT W G [x] [u]/\PT W G [y] [r]:=by
 obtain⟨v,us,rfl,d,c⟩:=h.uncons;obtain⟨x,y,rfl,a,b⟩:=eL c;exact⟨v,x,y,Z,d,a,b⟩
theorem pJ{α:Type}(f:α->Tree)(h:∀a,(f a).cells=[f a]):∀l:List α,flat (l.map f)=l.map f
 |[]=>rfl
 |a::l=>by rw[MX,ei,h a,pJ f h l];rfl
theorem sn{W:World}{G:Nat->Prop}:∀{l:List Nat} {xs:List Value},PT W G xs (l.map fun d=>.sc (.int .u32 (d:Nat)))->xs=ce l
 |[],xs,h=>by cases h;rfl
 |_::l,xs,h=>by
  cases h with
  |sc v h=>rw[sn h];rfl
theorem BR(W:World)(G:Nat->Prop):∀l:List Nat,PT W G (ce l) (l.map fun d=>.sc (.int .u32 (d:Nat)))
 |[]=>.nil
 |_::l=>.sc _ (BR W G l)
theorem dX{W:World}{G:Nat->Prop}{v:Value}{n:Nat}(h:PT W G [v] [aM n]):IsD W v n:=by
 obtain⟨A,c,i,j,l,p,a⟩:=PT.slice h;rw[L8]at i j a;refine⟨A,c,i,fun o=>?_,fun e=>⟨?_,p e⟩,j,l,bY n⟩
 ·obtain⟨b,off,xs,rfl,k,_,m,g⟩:=a (by simpa[ce]using o);rw[pJ _ (fun _=>rfl)]at g;rw[<-sn g];exact⟨b,off,Z,k,m⟩
 rcases M1 (ay n).length with d|d
 ·exact d
 obtain⟨b,off,xs,f,_⟩:=a d;rw[e]at f;cases f
def OkG(G:Nat->Prop)(W:World):Prop:=∀g,G g->g<W.heap.size/\NoDigB W g
theorem OkG.later{G:Nat->Prop}{W W':World}(h:OkG G W)(b:Below W.heap.size W W'):OkG G W':=fun g a=>⟨Mp (h g a).1 b.size,(h g a).2.of (b.block g (h g a).1)⟩
theorem ia{W:World}{G:Nat->Prop}{v:Value}{n:Nat}(l:OkG G W)(h:IsD W v n):PT W G [v] [aM n]:=by
 obtain⟨A,c,rfl,a⟩:=h;unfold aM;by_cases m:(ay n).length=0
 ·have e:ay n=[]:=Mk m;rw[e];exact .sl0 A c (fun e=>(a.nil e).2) a.max .nil
 obtain⟨b,off,rfl,p,f⟩:=a.digit (i:=0) (by omega);refine .sl b off c _ (ce (ay n)) _ p (fun k=>?_) (fun j u g=>?_) (by simp) (by simpa using a.cap) a.max ?_ .nil
 ·have:=(l b k).2 _ _ (f 0 (by omega));simp[bL]at this
 ·simp only[ce,MQ,Na]at g;obtain⟨d,o,rfl⟩:=g;obtain⟨q,rfl⟩:=L7.1 o;exact f j q
 rw[pJ _ (fun _=>rfl)];exact BR W G _
theorem pK{W:World}{G:Nat->Prop}{v:Value}{d:Bool}{N D:Nat}(h:PT W G [v] [jX d N D]):IsQ W v d N D:=by
 cases h with
 |agg xs cs hx _=>
  obtain⟨a,b,c,rfl,f,g,e⟩:=mc hx;cases f;exact⟨b,c,Z,dX g,dX e⟩
theorem zV{W:World}{G:Nat->Prop}{v:Value}{a:Bool}{N D:Nat}(b:OkG G W)(h:IsQ W v a N D):PT W G [v] [jX a N D]:=by
 obtain⟨c,e,rfl,d,f⟩:=h;exact .agg [.bool a,c,e] _ (.sc _ ((ia b d).cons ((ia b f).cons .nil))) .nil
theorem so{W:World}{G:Nat->Prop}{v:Value}{q:Rat}(a:OkG G W)(h:IsF W v q):PT W G [v] [dp q]:=zV a h
theorem sq{W:World}{G:Nat->Prop}:∀{l:List V} {xs:List Value},PT W G xs (flat (l.map V.tree))->xs=co l
 |[],xs,h=>by cases h;rfl
 |v::l,xs,h=>by
  cases h with
  |sc a h=>
   cases h with
   |sc b h=>
    cases h with
    |sc c h=>rw[sq (l:=l) h];rfl
theorem qX{W:World}{G:Nat->Prop}{v:Value}{l:List V}(h:PT W G [v] [.sl (l.map V.tree)]):∃A c,v=.slice A l.length c/\At W W.heap.size A (co l)/\(A=none->l.length=0/\c=0):=by
 obtain⟨A,c,g,o,p,n,a⟩:=PT.slice h;rw[L8]at g o a;refine⟨A,c,g,fun m=>?_,fun e=>⟨?_,n e⟩⟩
 ·obtain⟨b,off,xs,rfl,i,_,j,k⟩:=a (by rw[d8]at m;omega);rw[<-sq k];exact⟨b,off,Z,i,j⟩
 rcases M1 l.length with d|d
 ·exact d
 obtain⟨b,off,xs,f,_⟩:=a d;rw[e]at f;cases f
theorem zW{W:World}{G:Nat->Prop}{u:Value}{v:V}(h:PT W G [u] [v.tree]):u=.agg #[.int .i64 v.t,.int .i64 v.n,.string v.s]:=by
 cases h with
 |agg xs cs hx _=>
  obtain⟨a,b,c,rfl,f,e,d⟩:=mc hx;cases f;cases e;cases d;rfl
theorem Ct.sc{f:FuncId}{args:List Tree}{r:Value}(c:zU f)(h:∀(G:Nat->Prop) (w:World) (vs:List Value),Env w->OkG G w->PT w G vs args->Calls Tryz.prog f vs.toArray w fun e w'=>e=.returned r/\Below w.heap.size w w'):Ct f args (.sc r):=
 ⟨c,fun G w vs a d b=>(h G w vs a d b).mono fun _ _ ⟨g,i⟩=>⟨r,g,.sc _ .nil,i⟩⟩
theorem vX{f:FuncId}{args:List Tree}{r:Value}(d:zU f)(h:∀(G:Nat->Prop) (w:World) (vs:List Value),Env w->OkG G w->PT w G vs args->Calls Tryz.prog f vs.toArray w (Gives (fun _ v=>v=r) w)):Ct f args (.sc r):=
 ⟨d,fun G w vs b e c=>(h G w vs b e c).mono fun _ _ ⟨v,g,i,a⟩=>⟨v,g,by rw[i];exact .sc _ .nil,a⟩⟩
theorem dW{f:FuncId}{args:List Tree}{r:Tree}{K:World->Value->Prop}(g:zU f)(c:∀(G:Nat->Prop) (W:World) (v:Value),OkG G W->K W v->PT W G [v] [r])(h:∀(G:Nat->Prop) (w:World) (vs:List Value),Env w->OkG G w->PT w G vs args->Calls Tryz.prog f vs.toArray w (Gives K w)):Ct f args r:=
 ⟨g,fun G w vs d b e=>(h G w vs d b e).mono fun _ w' ⟨v,i,j,a⟩=>⟨v,i,c G w' v (OkG.later b a) j,a⟩⟩
theorem E7(v:V):Ct 104 [v.tree] (bT v.ok):=Ct.sc ⟨_,Tryz.func104,Z,Z⟩ fun G w vs _ _ a=>by
 obtain⟨u,rfl,h⟩:=cR a;rw[zW h];exact eG v.t v.n v.s w
theorem jj(l m:List V)(a:l.length<=65536)(f:m.length<=65536):Ct 64 [.sl (l.map V.tree),.sl (m.map V.tree)] (iT (aO l m)):=Ct.sc ⟨_,Tryz.func64,Z,Z⟩ fun G w vs _ _ e=>by
 obtain⟨u,x,rfl,h,i⟩:=eL e;obtain⟨A,c,rfl,b,_⟩:=qX h;obtain⟨B,d,rfl,g,_⟩:=qX i;exact zB A B c d l m w b g a f
theorem BS(a:Bool)(N D:Nat)(e:(ay N).length<=262144)(d:(ay D).length<=262144):Ct 107 [jX a N D] (dp (cF a N D)):=dW ⟨_,Tryz.func107,Z,Z⟩ (fun _ _ _ c h=>so c h) fun G w vs _ _ b=>by
 obtain⟨u,rfl,h⟩:=cR b;exact E5 (pK h) (by omega) (by omega)
theorem Hf(a:Bool)(N D:Nat)(d:(ay N).length<=262144)(c:(ay D).length<=262144):Ct 66 [jX a N D] (iT (oH a N D)):=vX ⟨_,Tryz.func66,Z,Z⟩ fun G w vs _ _ b=>by
 obtain⟨u,rfl,h⟩:=cR b;exact E6 (pK h) (by omega) (by omega)
theorem E8(b a:Bool)(N D M E:Nat)(g:(ay N).length<=262144)(c:(ay D).length<=262144)(j:(ay M).length<=262144)(d:(ay E).length<=262144):Ct 132 [jX b N D,jX a M E] (dp (cF b N D+cF a M E)):=dW ⟨_,Tryz.func132,Z,Z⟩ (fun _ _ _ f h=>so f h) fun G w vs _ _ e=>by
 obtain⟨u,x,rfl,i,k⟩:=eL e;exact LC (pK i) (pK k) g c j d
theorem Jf(a:Bool)(N D:Nat):Ct 195 [jX a N D] (jX (!a) N D):=dW ⟨_,Tryz.func195,Z,Z⟩ (fun _ _ _ c h=>zV c h) fun G w vs _ _ b=>by
 obtain⟨u,rfl,h⟩:=cR b;exact LB (pK h)
theorem Jg:Ct 131 [] (dp 1):=dW ⟨_,Tryz.func131,Z,Z⟩ (fun _ _ _ b h=>so b h) fun G w vs _ _ a=>by
 cases a;exact LA w
theorem mM(d:Bool)(N D:Nat)(l:(ay N).length<=262144)(k:(ay D).length<=262144):Ct 145 [bT d,aM N,aM D] (dp (cF d N D)):=dW ⟨_,Tryz.func145,Z,Z⟩ (fun _ _ _ g h=>so g h) fun G w vs _ _ f=>by
 obtain⟨a,b,c,rfl,i,j,e⟩:=mc f;cases i;exact jY d (dX j) (dX e) (by omega) (by omega)
theorem pL(n:Nat)(b:(ay n).length<=262144):Ct 129 [aM n] (iT (c8 n)):=vX ⟨_,Tryz.func129,Z,Z⟩ fun G w vs _ _ a=>by
 obtain⟨u,rfl,h⟩:=cR a;exact oB (dX h) (by omega)
theorem oI(M N:Nat)(e:(ay M).length<=1048576)(c:(ay N).length<=1048576):Ct 152 [aM M,aM N] (aM (M*N)):=dW ⟨_,Tryz.func152,Z,Z⟩ (fun _ _ _ b h=>ia b h) fun G w vs _ _ a=>by
 obtain⟨u,x,rfl,d,f⟩:=eL a;exact GZ (dX d) (dX f) e c
theorem Hg(M N:Nat)(d:(ay M).length<=1073741823)(b:(ay N).length<=1073741823):Ct 151 [aM M,aM N] (iT (eu M N)):=vX ⟨_,Tryz.func151,Z,Z⟩ fun G w vs _ _ a=>by
 obtain⟨u,x,rfl,c,e⟩:=eL a;exact BJ (dX c) (dX e) d b
theorem kz(n:Nat)(b:n<18446744073709551616):Ct 149 [.sc (.int .u64 (n:Nat))] (aM n):=dW ⟨_,Tryz.func149,Z,Z⟩ (fun _ _ _ c h=>ia c h) fun G w vs _ _ a=>by
 obtain⟨u,rfl,h⟩:=cR a;cases h;exact ji n w b
theorem E9(n:Nat):Ct 109 [aM n] (bT (decide (n=1))):=vX ⟨_,Tryz.func109,Z,Z⟩ fun G w vs _ _ a=>by
 obtain⟨u,rfl,h⟩:=cR a;exact zL (dX h)
end Go.Proofs.YtfoejfohbkmmeaaGreatDoor
