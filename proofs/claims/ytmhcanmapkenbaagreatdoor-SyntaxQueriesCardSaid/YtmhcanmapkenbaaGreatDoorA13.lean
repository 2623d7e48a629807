import Derived.Test.YtmhcanmapkenbaaGreatDoorA12
set_option maxHeartbeats 1000000
set_option maxRecDepth 100000
set_option linter.defProp false
open Go.Proofs.Tryz
namespace Go.Proofs.YtmhcanmapkenbaaGreatDoor
open Go.RowKit
open Lib renaming hid→J
variable{G:Nat->Prop}
def vH(l:List UInt8):Lib.hasPrefix (39::l) [39]=true:=by simp[Lib.hasPrefix]
def zV(l:List UInt8)(h:∀r,l≠39::r):Lib.hasPrefix l [39]=false:=by
 cases l with
 |nil=>rfl
 |cons c r=>
  simp only[Lib.hasPrefix];rw[List.isPrefixOf];have:c≠39:=λe=>h r (by rw[e])
  simp[Ne.symm this]
def pu(l:List UInt8)(s:ByteArray)(h:s.data.toList≠l):(l==s.toList)=false:=by
 rw[Lib.toList_data,beq_eq_false_iff_ne];exact λe=>h e.symm
def mf(l:List UInt8)(s:ByteArray)(h:s.data.toList=l):(l==s.toList)=true:=by
 rw[Lib.toList_data,beq_iff_eq];exact h.symm
def xD(s:ByteArray)(w:World)(R:s.size<=4294967280)(x:Lib.hasPrefix s.data.toList [39]=false)(f:∀v,Lib.parseIntB 64 s.data.toList≠ .ok v)(r:Env w):
  Calls prog 252 #[.string s] w λe w'=>e=.returned (.tuple #[.agg #[.int .i64 0,.int .i64 0,.string ⟨#[]⟩],.int .i64 2])/\Below w.heap.size w w':=by
 have t:∀w:World,Calls prog 278 #[.string s,.string ⟨#[39]⟩] w λe w'=>e=.returned (.bool false)/\w=w':=λw=>by
  have:=eg s ⟨#[39]⟩ w;rwa[show Lib.hasPrefix s.data.toList [39]=false from x]at this
 have z:=J t;clear t x;have i:=J f;clear f;have y:=J r;clear r;obtain⟨W,u,d,p⟩:=tO w 34 34 #[.int .i64 0,.int .i64 0,.string ⟨#[]⟩] #[.int .i64 0,.int .i64 0,.string ⟨#[]⟩];have A:=J u;have q:=J p;have j:=J p.2.2;have b:=J d;clear u p d
 go_enter func252,ntmps252
 go_wp2_with fail
 rw[A.out];refine(z.out _).mono ?_;rintro e Q ⟨rfl,rfl⟩
 go_wp2_with fail
 refine(va s _ O i.out (y.out.below b.out (Qi _))).mono ?_;rintro e Q ⟨v,N,rfl,a⟩;have g:=J (b.out.trans (a.mono (by rw[j.out];omega)));have h:=J (q.out.2.1.below a (by rw[j.out];omega));have c:=J (q.out.1.below a (by rw[j.out];omega));clear a;obtain⟨B,C,D,E,F,G⟩:=h.out.three;obtain⟨k,l,m,H,I,K⟩:=c.out.three
 go_wp2
 clear B C D E F G k l m H I K;obtain⟨S,L,o,n,P,M⟩:=dM c.out (.int .i64 0) (.int .i64 0) (.string ⟨#[]⟩);rw[L];obtain⟨k,l,m,_,_,_⟩:=o.three;exact bodyPost_ret (v:=.tuple #[.agg #[.int .i64 0,.int .i64 0,.string ⟨#[]⟩],.int .i64 2]) (by simp[results,results252,go_sem,k,l,m]) Z ⟨Z,g.out.trans n⟩
def rO(s:ByteArray)(w:World)(hs:s.size<=4294967280)(n:Int)(hp:Lib.hasPrefix s.data.toList [39]=false)(D:Lib.parseIntB 64 s.data.toList=.ok n)(h0: -9223372036854775808<=n)(h1:n<=9223372036854775807)(h:s.data.toList=cH 1 n ⟨#[]⟩)(E:Env w):
  Calls prog 252 #[.string s] w λe w'=>e=.returned (.tuple #[.agg #[.int .i64 1,.int .i64 n,.string ⟨#[]⟩],.int .i64 0])/\Below w.heap.size w w':=by
 have Y:∀w:World,Calls prog 278 #[.string s,.string ⟨#[39]⟩] w λe w'=>e=.returned (.bool false)/\w=w':=λw=>by
  have:=eg s ⟨#[39]⟩ w;rwa[show Lib.hasPrefix s.data.toList [39]=false from hp]at this
 have HP:=J Y;clear Y hp;have K:=J D;clear D;have f:bz 1 n ⟨#[]⟩=true:=by simp[bz]
 have hV:∀w:World,Calls prog 59 #[.agg #[.int .i64 1,.int .i64 n,.string ⟨#[]⟩]] w λe w'=>e=.returned (.bool true)/\Below w.heap.size w w':=λw=>by
  have:=gf 1 (n) ⟨#[]⟩ w;rwa[f]at this
 have HV:=J hV;clear hV;have X:∀w:World,Env w->Calls prog 23 #[.agg #[.int .i64 1,.int .i64 n,.string ⟨#[]⟩]] w λe w'=>e=.returned (.string ⟨(cH 1 (n) ⟨#[]⟩).toArray⟩)/\Below w.heap.size w w':=λw E=>i6 1 (n) ⟨#[]⟩ w h0 h1 E
 have HF:=J X;clear X;have a1:(cH 1 n ⟨#[]⟩==s.toList)=true:=mf _ s h;clear f h;have HE:=J E;clear E;obtain⟨W,hW,A,R⟩:=tO w 34 34 #[.int .i64 0,.int .i64 0,.string ⟨#[]⟩] #[.int .i64 0,.int .i64 0,.string ⟨#[]⟩];have HW:=J hW;have T:=J R;have j:=J R.2.2;have H:=J A;clear hW R A
 go_enter func252,ntmps252
 go_wp2_with fail
 rw[HW.out];refine(HP.out _).mono ?_;rintro e w1 ⟨rfl,rfl⟩
 go_wp2_with fail
 refine(pL s n _ O K.out).mono ?_;rintro e w1 ⟨rfl,a⟩
 go_wp2_with fail
 refine(rB _ _).mono ?_;rintro e w2 ⟨rfl,b⟩;have F:=J ((H.out.trans (a.mono (by rw[j.out];omega))).trans (b.mono (Qu (by rw[j.out];omega) a.size)));have U:=J (IsBlk.below (IsBlk.below T.out.2.1 a (by rw[j.out];omega)) b (QE (by rw[j.out];omega) a.size));have HR:=J (IsBlk.below (IsBlk.below T.out.1 a (by rw[j.out];omega)) b (QE (by rw[j.out];omega) a.size));clear a b;obtain⟨q,r,t,u,x,y⟩:=U.out.three
 go_wp2_with fail
 clear q r t u x y;obtain⟨w3,V,B,z,S,C⟩:=dM U.out (.int .i64 1) (.int .i64 n) (.string ⟨#[]⟩);rw[V];have m:=J (show IsBlk w3 w.heap.size 34 #[.int .i64 0,.int .i64 0,.string ⟨#[]⟩]from(C w.heap.size O).trans HR.out);have k:=J (F.out.trans (z.mono O));have l:=J B;clear V B z S C;refine(HV.out _).mono ?_;rintro e w4 ⟨rfl,c⟩;have g:=J (k.out.trans (c.mono k.out.size));have i:=J (l.out.below c l.out.lt);have o:=J (m.out.below c m.out.lt);clear c;obtain⟨q,r,t,u,x,y⟩:=i.out.three
 go_wp2_with fail
 clear q r t u x y;refine(HF.out _ (HE.out.below g.out (Qi _))).mono ?_;rintro e w5 ⟨rfl,d⟩;have G:=J (g.out.trans (d.mono g.out.size));have I:=J (i.out.below d i.out.lt);have p:=J (o.out.below d o.out.lt);clear d;obtain⟨q,r,t,u,x,y⟩:=I.out.three;obtain⟨L,M,N,g0,g1,g2⟩:=p.out.three
 go_wp2
 clear q r t u x y L M N g0 g1 g2;obtain⟨w6,h6,Q,P,a2,a0⟩:=dM p.out (.int .i64 1) (.int .i64 n) (.string ⟨#[]⟩);rw[h6];obtain⟨L,M,N,_,_,_⟩:=Q.three;exact bodyPost_ret (v:=.tuple #[.agg #[.int .i64 1,.int .i64 n,.string ⟨#[]⟩],.int .i64 0]) (by simp[results,results252,go_sem,L,M,N]) Z ⟨Z,G.out.trans P⟩
def qk(s:ByteArray)(w:World)(hs:s.size<=4294967280)(n:Int)(hp:Lib.hasPrefix s.data.toList [39]=false)(D:Lib.parseIntB 64 s.data.toList=.ok n)(h0: -9223372036854775808<=n)(h1:n<=9223372036854775807)(h:s.data.toList≠cH 1 n ⟨#[]⟩)(E:Env w):
  Calls prog 252 #[.string s] w λe w'=>e=.returned (.tuple #[.agg #[.int .i64 0,.int .i64 0,.string ⟨#[]⟩],.int .i64 2])/\Below w.heap.size w w':=by
 have Y:∀w:World,Calls prog 278 #[.string s,.string ⟨#[39]⟩] w λe w'=>e=.returned (.bool false)/\w=w':=λw=>by
  have:=eg s ⟨#[39]⟩ w;rwa[show Lib.hasPrefix s.data.toList [39]=false from hp]at this
 have HP:=J Y;clear Y hp;have K:=J D;clear D;have f:bz 1 n ⟨#[]⟩=true:=by simp[bz]
 have hV:∀w:World,Calls prog 59 #[.agg #[.int .i64 1,.int .i64 n,.string ⟨#[]⟩]] w λe w'=>e=.returned (.bool true)/\Below w.heap.size w w':=λw=>by
  have:=gf 1 (n) ⟨#[]⟩ w;rwa[f]at this
 have HV:=J hV;clear hV;have X:∀w:World,Env w->Calls prog 23 #[.agg #[.int .i64 1,.int .i64 n,.string ⟨#[]⟩]] w λe w'=>e=.returned (.string ⟨(cH 1 (n) ⟨#[]⟩).toArray⟩)/\Below w.heap.size w w':=λw E=>i6 1 (n) ⟨#[]⟩ w h0 h1 E
 have HF:=J X;clear X;have a1:(cH 1 n ⟨#[]⟩==s.toList)=false:=pu _ s h;clear f h;have HE:=J E;clear E;obtain⟨W,hW,A,R⟩:=tO w 34 34 #[.int .i64 0,.int .i64 0,.string ⟨#[]⟩] #[.int .i64 0,.int .i64 0,.string ⟨#[]⟩];have HW:=J hW;have T:=J R;have j:=J R.2.2;have H:=J A;clear hW R A
 go_enter func252,ntmps252
 go_wp2_with fail
 rw[HW.out];refine(HP.out _).mono ?_;rintro e w1 ⟨rfl,rfl⟩
 go_wp2_with fail
 refine(pL s n _ O K.out).mono ?_;rintro e w1 ⟨rfl,a⟩
 go_wp2_with fail
 refine(rB _ _).mono ?_;rintro e w2 ⟨rfl,b⟩;have F:=J ((H.out.trans (a.mono (by rw[j.out];omega))).trans (b.mono (Qu (by rw[j.out];omega) a.size)));have U:=J (IsBlk.below (IsBlk.below T.out.2.1 a (by rw[j.out];omega)) b (QE (by rw[j.out];omega) a.size));have HR:=J (IsBlk.below (IsBlk.below T.out.1 a (by rw[j.out];omega)) b (QE (by rw[j.out];omega) a.size));clear a b;obtain⟨q,r,t,u,x,y⟩:=U.out.three
 go_wp2_with fail
 clear q r t u x y;obtain⟨w3,V,B,z,S,C⟩:=dM U.out (.int .i64 1) (.int .i64 n) (.string ⟨#[]⟩);rw[V];have m:=J (show IsBlk w3 w.heap.size 34 #[.int .i64 0,.int .i64 0,.string ⟨#[]⟩]from(C w.heap.size O).trans HR.out);have k:=J (F.out.trans (z.mono O));have l:=J B;clear V B z S C;refine(HV.out _).mono ?_;rintro e w4 ⟨rfl,c⟩;have g:=J (k.out.trans (c.mono k.out.size));have i:=J (l.out.below c l.out.lt);have o:=J (m.out.below c m.out.lt);clear c;obtain⟨q,r,t,u,x,y⟩:=i.out.three
 go_wp2_with fail
 clear q r t u x y;refine(HF.out _ (HE.out.below g.out (Qi _))).mono ?_;rintro e w5 ⟨rfl,d⟩;have G:=J (g.out.trans (d.mono g.out.size));have I:=J (i.out.below d i.out.lt);have p:=J (o.out.below d o.out.lt);clear d;obtain⟨q,r,t,u,x,y⟩:=I.out.three;obtain⟨L,M,N,g0,g1,g2⟩:=p.out.three
 go_wp2
 clear q r t u x y L M N g0 g1 g2;obtain⟨w6,h6,Q,P,a2,a0⟩:=dM p.out (.int .i64 0) (.int .i64 0) (.string ⟨#[]⟩);rw[h6];obtain⟨L,M,N,_,_,_⟩:=Q.three;exact bodyPost_ret (v:=.tuple #[.agg #[.int .i64 0,.int .i64 0,.string ⟨#[]⟩],.int .i64 2]) (by simp[results,results252,go_sem,L,M,N]) Z ⟨Z,G.out.trans P⟩
def xE(s:ByteArray)(w:World)(M:s.size<=4294967280)(q:Lib.hasPrefix s.data.toList [39]=true)(L:s.size<2)(n:Env w):
  Calls prog 252 #[.string s] w λe w'=>e=.returned (.tuple #[.agg #[.int .i64 0,.int .i64 0,.string ⟨#[]⟩],.int .i64 2])/\Below w.heap.size w w':=by
 have o:∀w:World,Calls prog 278 #[.string s,.string ⟨#[39]⟩] w λe w'=>e=.returned (.bool true)/\w=w':=λw=>by
  have:=eg s ⟨#[39]⟩ w;rwa[show Lib.hasPrefix s.data.toList [39]=true from q]at this
 have r:=J o;clear o q;have I:=J n;clear n;obtain⟨W,p,b,l⟩:=tO w 34 34 #[.int .i64 0,.int .i64 0,.string ⟨#[]⟩] #[.int .i64 0,.int .i64 0,.string ⟨#[]⟩];have t:=J p;have m:=J l;have K:=J l.2.2;have d:=J b;clear p l b
 go_enter func252,ntmps252
 go_wp2_with fail
 rw[t.out];refine(r.out _).mono ?_;rintro e N ⟨rfl,rfl⟩;have f:=J m.out.2.1;have a:=J m.out.1;have c:=J d.out;obtain⟨u,x,y,z,A,B⟩:=f.out.three;obtain⟨g,h,i,C,D,E⟩:=a.out.three
 go_wp2
 clear u x y z A B g h i C D E;obtain⟨O,F,k,j,H,G⟩:=dM a.out (.int .i64 0) (.int .i64 0) (.string ⟨#[]⟩);rw[F];obtain⟨g,h,i,_,_,_⟩:=k.three;exact bodyPost_ret (v:=.tuple #[.agg #[.int .i64 0,.int .i64 0,.string ⟨#[]⟩],.int .i64 2]) (by simp[results,results252,go_sem,g,h,i]) Z ⟨Z,c.out.trans j⟩
def rP(s:ByteArray)(w:World)(hs:s.size<=4294967280)(b:ByteArray)(E:b=⟨(qu [39,39] [39] (s.extract 1 (s.size-1)).data.toList).toArray⟩)(hp:Lib.hasPrefix s.data.toList [39]=true)(h2:2<=s.size)(g:bz 2 0 b=true)(h:s.data.toList=cH 2 0 b)(F:Env w):
  Calls prog 252 #[.string s] w λe w'=>e=.returned (.tuple #[.agg #[.int .i64 2,.int .i64 0,.string b],.int .i64 0])/\Below w.heap.size w w':=by
 have hP:∀w:World,Calls prog 278 #[.string s,.string ⟨#[39]⟩] w λe w'=>e=.returned (.bool true)/\w=w':=λw=>by
  have:=eg s ⟨#[39]⟩ w;rwa[show Lib.hasPrefix s.data.toList [39]=true from hp]at this
 have HP:=J hP;clear hP hp;have L:=J E;clear E;have hV:∀w:World,Calls prog 59 #[.agg #[.int .i64 2,.int .i64 0,.string b]] w λe w'=>e=.returned (.bool true)/\Below w.heap.size w w':=λw=>by
  have:=gf 2 (0) b w;rwa[g]at this
 have HV:=J hV;clear hV;have hF:∀w:World,Env w->Calls prog 23 #[.agg #[.int .i64 2,.int .i64 0,.string b]] w λe w'=>e=.returned (.string ⟨(cH 2 (0) b).toArray⟩)/\Below w.heap.size w w':=λw F=>i6 2 (0) b w O O F
 have HF:=J hF;clear hF;have a1:(cH 2 0 b==s.toList)=true:=mf _ s h;clear g h;have V:=J F;clear F;obtain⟨W,hW,B,S⟩:=tO w 34 34 #[.int .i64 0,.int .i64 0,.string ⟨#[]⟩] #[.int .i64 0,.int .i64 0,.string ⟨#[]⟩];have HW:=J hW;have U:=J S;have k:=J S.2.2;have m:=J B;clear hW S B
 go_enter func252,ntmps252
 go_wp2_with fail
 rw[HW.out];refine(HP.out _).mono ?_;rintro e w1 ⟨rfl,rfl⟩
 go_wp2_with fail
 refine(gq _ ⟨#[39,39]⟩ ⟨#[39]⟩ _ ?h1 I I (V.out.below m.out (Qi _))).mono ?_
 case h1=>simp;omega
 rintro e w1 ⟨rfl,a⟩;rw[show Lib.replaceAll (s.extract 1 (s.size-1)).data.toList [39,39] [39]=qu [39,39] [39] (s.extract 1 (s.size-1)).data.toList from eB _ I,<-L.out]
 go_wp2_with fail
 refine(jN _ _).mono ?_;rintro e w2 ⟨rfl,c⟩;have G:=J ((m.out.trans (a.mono (by rw[k.out];omega))).trans (c.mono (Qu (by rw[k.out];omega) a.size)));have X:=J (IsBlk.below (IsBlk.below U.out.2.1 a (by rw[k.out];omega)) c (QE (by rw[k.out];omega) a.size));have HR:=J (IsBlk.below (IsBlk.below U.out.1 a (by rw[k.out];omega)) c (QE (by rw[k.out];omega) a.size));clear a c;obtain⟨r,t,u,x,y,z⟩:=X.out.three
 go_wp2_with fail
 clear r t u x y z;obtain⟨w3,Y,C,A,T,D⟩:=dM X.out (.int .i64 2) (.int .i64 0) (.string b);rw[Y];have o:=J (show IsBlk w3 w.heap.size 34 #[.int .i64 0,.int .i64 0,.string ⟨#[]⟩]from(D w.heap.size O).trans HR.out);have l:=J (G.out.trans (A.mono O));have n:=J C;clear Y C A T D;refine(HV.out _).mono ?_;rintro e w4 ⟨rfl,d⟩;have i:=J (l.out.trans (d.mono l.out.size));have j:=J (n.out.below d n.out.lt);have p:=J (o.out.below d o.out.lt);clear d;obtain⟨r,t,u,x,y,z⟩:=j.out.three
 go_wp2_with fail
 clear r t u x y z;refine(HF.out _ (V.out.below i.out (Qi _))).mono ?_;rintro e w5 ⟨rfl,f⟩;have H:=J (i.out.trans (f.mono i.out.size));have K:=J (j.out.below f j.out.lt);have q:=J (p.out.below f p.out.lt);clear f;obtain⟨r,t,u,x,y,z⟩:=K.out.three;obtain⟨M,N,P,g0,g1,g2⟩:=q.out.three
 go_wp2
 clear r t u x y z M N P g0 g1 g2;obtain⟨w6,h6,R,Q,a2,a0⟩:=dM q.out (.int .i64 2) (.int .i64 0) (.string b);rw[h6];obtain⟨M,N,P,_,_,_⟩:=R.three;exact bodyPost_ret (v:=.tuple #[.agg #[.int .i64 2,.int .i64 0,.string b],.int .i64 0]) (by simp[results,results252,go_sem,M,N,P]) Z ⟨Z,H.out.trans Q⟩
def ql(s:ByteArray)(w:World)(hs:s.size<=4294967280)(b:ByteArray)(E:b=⟨(qu [39,39] [39] (s.extract 1 (s.size-1)).data.toList).toArray⟩)(hp:Lib.hasPrefix s.data.toList [39]=true)(h2:2<=s.size)(g:bz 2 0 b=true)(h:s.data.toList≠cH 2 0 b)(F:Env w):
  Calls prog 252 #[.string s] w λe w'=>e=.returned (.tuple #[.agg #[.int .i64 0,.int .i64 0,.string ⟨#[]⟩],.int .i64 2])/\Below w.heap.size w w':=by
 have hP:∀w:World,Calls prog 278 #[.string s,.string ⟨#[39]⟩] w λe w'=>e=.returned (.bool true)/\w=w':=λw=>by
  have:=eg s ⟨#[39]⟩ w;rwa[show Lib.hasPrefix s.data.toList [39]=true from hp]at this
 have HP:=J hP;clear hP hp;have L:=J E;clear E;have hV:∀w:World,Calls prog 59 #[.agg #[.int .i64 2,.int .i64 0,.string b]] w λe w'=>e=.returned (.bool true)/\Below w.heap.size w w':=λw=>by
  have:=gf 2 (0) b w;rwa[g]at this
 have HV:=J hV;clear hV;have hF:∀w:World,Env w->Calls prog 23 #[.agg #[.int .i64 2,.int .i64 0,.string b]] w λe w'=>e=.returned (.string ⟨(cH 2 (0) b).toArray⟩)/\Below w.heap.size w w':=λw F=>i6 2 (0) b w O O F
 have HF:=J hF;clear hF;have a1:(cH 2 0 b==s.toList)=false:=pu _ s h;clear g h;have V:=J F;clear F;obtain⟨W,hW,B,S⟩:=tO w 34 34 #[.int .i64 0,.int .i64 0,.string ⟨#[]⟩] #[.int .i64 0,.int .i64 0,.string ⟨#[]⟩];have HW:=J hW;have U:=J S;have k:=J S.2.2;have m:=J B;clear hW S B
 go_enter func252,ntmps252
 go_wp2_with fail
 rw[HW.out];refine(HP.out _).mono ?_;rintro e w1 ⟨rfl,rfl⟩
 go_wp2_with fail
 refine(gq _ ⟨#[39,39]⟩ ⟨#[39]⟩ _ ?h1 I I (V.out.below m.out (Qi _))).mono ?_
 case h1=>simp;omega
 rintro e w1 ⟨rfl,a⟩;rw[show Lib.replaceAll (s.extract 1 (s.size-1)).data.toList [39,39] [39]=qu [39,39] [39] (s.extract 1 (s.size-1)).data.toList from eB _ I,<-L.out]
 go_wp2_with fail
 refine(jN _ _).mono ?_;rintro e w2 ⟨rfl,c⟩;have G:=J ((m.out.trans (a.mono (by rw[k.out];omega))).trans (c.mono (Qu (by rw[k.out];omega) a.size)));have X:=J (IsBlk.below (IsBlk.below U.out.2.1 a (by rw[k.out];omega)) c (QE (by rw[k.out];omega) a.size));have HR:=J (IsBlk.below (IsBlk.below U.out.1 a (by rw[k.out];omega)) c (QE (by rw[k.out];omega) a.size));clear a c;obtain⟨r,t,u,x,y,z⟩:=X.out.three
 go_wp2_with fail
 clear r t u x y z;obtain⟨w3,Y,C,A,T,D⟩:=dM X.out (.int .i64 2) (.int .i64 0) (.string b);rw[Y];have o:=J (show IsBlk w3 w.heap.size 34 #[.int .i64 0,.int .i64 0,.string ⟨#[]⟩]from(D w.heap.size O).trans HR.out);have l:=J (G.out.trans (A.mono O));have n:=J C;clear Y C A T D;refine(HV.out _).mono ?_;rintro e w4 ⟨rfl,d⟩;have i:=J (l.out.trans (d.mono l.out.size));have j:=J (n.out.below d n.out.lt);have p:=J (o.out.below d o.out.lt);clear d;obtain⟨r,t,u,x,y,z⟩:=j.out.three
 go_wp2_with fail
 clear r t u x y z;refine(HF.out _ (V.out.below i.out (Qi _))).mono ?_;rintro e w5 ⟨rfl,f⟩;have H:=J (i.out.trans (f.mono i.out.size));have K:=J (j.out.below f j.out.lt);have q:=J (p.out.below f p.out.lt);clear f;obtain⟨r,t,u,x,y,z⟩:=K.out.three;obtain⟨M,N,P,g0,g1,g2⟩:=q.out.three
 go_wp2
 clear r t u x y z M N P g0 g1 g2;obtain⟨w6,h6,R,Q,a2,a0⟩:=dM q.out (.int .i64 0) (.int .i64 0) (.string ⟨#[]⟩);rw[h6];obtain⟨M,N,P,_,_,_⟩:=R.three;exact bodyPost_ret (v:=.tuple #[.agg #[.int .i64 0,.int .i64 0,.string ⟨#[]⟩],.int .i64 2]) (by simp[results,results252,go_sem,M,N,P]) Z ⟨Z,H.out.trans Q⟩
def tS(s:ByteArray)(w:World)(hs:s.size<=4294967280)(q:ByteArray)(p:q=⟨(qu [39,39] [39] (s.extract 1 (s.size-1)).data.toList).toArray⟩)(V:Lib.hasPrefix s.data.toList [39]=true)(h2:2<=s.size)(d:bz 2 0 q=false)(R:Env w):
  Calls prog 252 #[.string s] w λe w'=>e=.returned (.tuple #[.agg #[.int .i64 0,.int .i64 0,.string ⟨#[]⟩],.int .i64 2])/\Below w.heap.size w w':=by
 have S:∀w:World,Calls prog 278 #[.string s,.string ⟨#[39]⟩] w λe w'=>e=.returned (.bool true)/\w=w':=λw=>by
  have:=eg s ⟨#[39]⟩ w;rwa[show Lib.hasPrefix s.data.toList [39]=true from V]at this
 have Y:=J S;clear S V;have x:=J p;clear p;have T:∀w:World,Calls prog 59 #[.agg #[.int .i64 2,.int .i64 0,.string q]] w λe w'=>e=.returned (.bool false)/\Below w.heap.size w w':=λw=>by
  have:=gf 2 (0) q w;rwa[d]at this
 have HV:=J T;clear T;clear d;have X:=J R;clear R;obtain⟨W,U,m,L⟩:=tO w 34 34 #[.int .i64 0,.int .i64 0,.string ⟨#[]⟩] #[.int .i64 0,.int .i64 0,.string ⟨#[]⟩];have HW:=J U;have N:=J L;have f:=J L.2.2;have h:=J m;clear U L m
 go_enter func252,ntmps252
 go_wp2_with fail
 rw[HW.out];refine(Y.out _).mono ?_;rintro e w1 ⟨rfl,rfl⟩
 go_wp2_with fail
 refine(gq _ ⟨#[39,39]⟩ ⟨#[39]⟩ _ ?h1 I I (X.out.below h.out (Qi _))).mono ?_
 case h1=>simp;omega
 rintro e w1 ⟨rfl,a⟩;rw[show Lib.replaceAll (s.extract 1 (s.size-1)).data.toList [39,39] [39]=qu [39,39] [39] (s.extract 1 (s.size-1)).data.toList from eB _ I,<-x.out]
 go_wp2_with fail
 refine(jN _ _).mono ?_;rintro e w2 ⟨rfl,b⟩;have r:=J ((h.out.trans (a.mono (by rw[f.out];omega))).trans (b.mono (Qu (by rw[f.out];omega) a.size)));have P:=J (IsBlk.below (IsBlk.below N.out.2.1 a (by rw[f.out];omega)) b (QE (by rw[f.out];omega) a.size));have HR:=J (IsBlk.below (IsBlk.below N.out.1 a (by rw[f.out];omega)) b (QE (by rw[f.out];omega) a.size));clear a b;obtain⟨y,z,A,E,F,G⟩:=P.out.three
 go_wp2_with fail
 clear y z A E F G;obtain⟨w3,Q,n,l,M,o⟩:=dM P.out (.int .i64 2) (.int .i64 0) (.string q);rw[Q];have j:=J (show IsBlk w3 w.heap.size 34 #[.int .i64 0,.int .i64 0,.string ⟨#[]⟩]from(o w.heap.size O).trans HR.out);have g:=J (r.out.trans (l.mono O));have i:=J n;clear Q n l M o;refine(HV.out _).mono ?_;rintro e w4 ⟨rfl,c⟩;have t:=J (g.out.trans (c.mono g.out.size));have u:=J (i.out.below c i.out.lt);have k:=J (j.out.below c j.out.lt);clear c;obtain⟨y,z,A,E,F,G⟩:=u.out.three;obtain⟨B,C,D,g0,g1,g2⟩:=k.out.three
 go_wp2
 clear y z A E F G B C D g0 g1 g2;obtain⟨w6,h6,K,H,a1,a0⟩:=dM k.out (.int .i64 0) (.int .i64 0) (.string ⟨#[]⟩);rw[h6];obtain⟨B,C,D,_,_,_⟩:=K.three;exact bodyPost_ret (v:=.tuple #[.agg #[.int .i64 0,.int .i64 0,.string ⟨#[]⟩],.int .i64 2]) (by simp[results,results252,go_sem,B,C,D]) Z ⟨Z,t.out.trans H⟩
def xF(l:List UInt8)(n:Int)(h:Lib.parseIntB 64 l=.ok n): -9223372036854775808<=n/\n<=9223372036854775807:=by
 have a:(2^(64-1):Nat)=9223372036854775808:=I
 cases l with
 |nil=>simp[Lib.parseIntB]at h
 |cons c r=>
  simp only[Lib.parseIntB,a]at h;split at h
  ·cases h
  ·cases h
  split at h
  ·cases h
  split at h
  ·cases h
  injection h with h
  subst h;split<;>omega
def ly{n:Int}{a:ByteArray}(h:bz 1 n a=true):a=⟨#[]⟩:=by
 apply SD;simp[bz]at h;simpa using h
def kE{t n:Int}{a:ByteArray}(b:t≠1)(h:bz t n a=true):t=2/\n=0/\a.size<=64/\a.data.toList.all nO=true:=by
 simp[bz,b]at h;exact⟨h.1.1.1,h.1.1.2,h.1.2,by simpa using h.2⟩
def xG(s a:ByteArray)(h:s.data.toList=[39]++gG a.data.toList++[39]):(s.extract 1 (s.size-1)).data.toList=gG a.data.toList:=by
 have b:s.size=(gG a.data.toList).length+2:=by
  have:=congrArg List.length h;simp at this;omega
 rw[Lib.extract_data,h,b];simp
def Fz(t n:Int)(d s:ByteArray)(w:World)(k:s.size<=4294967280)(a:bz t n d=true)(f:s.data.toList=cH t n d)(h: -9223372036854775808<=n)(i:n<=9223372036854775807)(j:Env w):
  Calls prog 252 #[.string s] w λe w'=>e=.returned (.tuple #[.agg #[.int .i64 t,.int .i64 n,.string d],.int .i64 0])/\Below w.heap.size w w':=by
 by_cases l:t=1
 ·subst l;obtain rfl:=ly a;have b:s.data.toList=Lib.itoa n:=by rw[f];simp[cH,a]
  refine rO s w k n ?_ (by rw[b];exact zK n h i) h i f j;obtain⟨c,r,e,m⟩:=pp n;exact zV _ λq g=>m (by rw[b,e]at g;injection g)
 obtain⟨rfl,rfl,o,_⟩:=kE l a;have b:s.data.toList=[39]++gG d.data.toList++[39]:=by rw[f];simp[cH,a]
 have p:s.size=(gG d.data.toList).length+2:=by
  have:=congrArg List.length b;simp at this;omega
 refine rP s w k d ?_ (by rw[b];exact vH _) O a f j;rw[xG s d b,po,kz]
def DY(s:ByteArray)(w:World)(f:s.size<=4294967280)(h:∀(t n:Int) (a:ByteArray),bz t n a=true-> -9223372036854775808<=n->n<=9223372036854775807->s.data.toList≠cH t n a)(b:Env w):
  Calls prog 252 #[.string s] w λe w'=>e=.returned (.tuple #[.agg #[.int .i64 0,.int .i64 0,.string ⟨#[]⟩],.int .i64 2])/\Below w.heap.size w w':=by
 cases d:Lib.hasPrefix s.data.toList [39]
 ·by_cases c:∃n,Lib.parseIntB 64 s.data.toList=.ok n
  ·obtain⟨n,c⟩:=c;obtain⟨k,l⟩:=xF _ _ c;exact qk s w f n d c k l (h 1 n ⟨#[]⟩ (by simp[bz]) k l) b
  exact xD s w f d (λv i=>c ⟨v,i⟩) b
 rcases Rm s.size 2 with j|j
 ·exact xE s w f d j b
 obtain⟨a,g⟩:∃a:ByteArray,a=⟨(qu [39,39] [39] (s.extract 1 (s.size-1)).data.toList).toArray⟩:=⟨_,Z⟩;cases i:bz 2 0 a
 ·exact tS s w f a g d j i b
 exact ql s w f a g d j i (h 2 0 a i O O) b
def Mx(f:FuncId):Prop:=∃fn,prog.funcs[f]? =some fn/\(fn.name== "runtime.NumGoroutine")=false/\fn.body.isNone=false
def PT.uncons{W:World}{vs:List Value}{t:Tree}{ts:List Tree}(h:PT W G vs (t::ts)):∃v us,vs=v::us/\PT W G [v] [t]/\PT W G us ts:=by
 cases vs with
 |nil=>cases h
 |cons v us=>exact⟨v,us,Z,h.head,h.tail⟩
def ik{W:World}{vs:List Value}{t:Tree}(h:PT W G vs [t]):∃v,vs=[v]/\PT W G [v] [t]:=by
 obtain⟨v,us,rfl,a,b⟩:=h.uncons;cases b;exact⟨v,Z,a⟩
def oi{W:World}{vs:List Value}{t u:Tree}(h:PT W G vs [t,u]):∃v x,vs=[v,x]/\PT W G [v] [t]/\PT W G [x] [u]:=by
 obtain⟨v,us,rfl,a,b⟩:=h.uncons;obtain⟨x,rfl,c⟩:=ik b;exact⟨v,x,Z,a,c⟩
def FA{W:World}{vs:List Value}{t u r:Tree}(h:PT W G vs [t,u,r]):∃v x y,vs=[v,x,y]/\PT W G [v] [t]/\PT W G [x] [u]/\PT W G [y] [r]:=by
 obtain⟨v,us,rfl,a,b⟩:=h.uncons;obtain⟨x,y,rfl,c,d⟩:=oi b;exact⟨v,x,y,Z,a,c,d⟩
def Qb(G:Nat->Prop)(W:World):Prop:=∀g,G g->g<W.heap.size/\NoDigB W g
def vI{W:World}{u:Value}{v:V}(h:PT W G [u] [v.tree]):u=.agg #[.int .i64 v.t,.int .i64 v.n,.string v.s]:=by
 cases h with
 |agg xs cs hx _=>
  obtain⟨a,b,c,rfl,d,e,f⟩:=FA hx;cases d;cases e;cases f;rfl
def Ct.sc{f:FuncId}{args:List Tree}{r:Value}(g:Mx f)(h:∀(G:Nat->Prop) (w:World) (vs:List Value),Env w->Qb G w->PT w G vs args->Calls prog f vs.toArray w λe w'=>e=.returned r/\Below w.heap.size w w'):Ct f args (.sc r):=
 ⟨g,λG w vs c d i=>(h G w vs c d i).mono λ_ _ ⟨a,b⟩=>⟨r,a,.sc _ .nil,b⟩⟩
def eC:eN prog 4=true:=U
def DZ(n:Int)(w:World)(U: -9223372036854775808<=n)(V:n<=9223372036854775807):
  Calls prog 105 #[.int .i64 n] w (lx (decide (n<0)) n.natAbs 1 w):=by
 obtain⟨W,K,c,p,H⟩:=qT w 27 #[.bool false,.slice none 0 0,.slice none 0 0];have M:=J K;have z:=J c;have l:=J p;have b:=c.size;have i:w.heap.size<W.heap.size:=O
 clear K c p H;obtain⟨j,f⟩:∃j,decide (n<0)=j:=⟨_,Z⟩;have I:=J (xC n W U V);rw[f]at I;have A:=J f;clear f
 go_enter func105,ntmps105
 go_wp2_with fail
 rw[M.out];refine I.out.mono ?_;rintro e L ⟨vn,vd,rfl,h,g,a⟩;obtain⟨t,x,en,_⟩:=h.is (dA _);obtain⟨s,u,Q,_⟩:=g.is (dA _);subst en Q;have o:=J h;have m:=J g;have y:=J (aZ z.out a b);have k:=J (l.out.below a l.out.lt);have Y:w.heap.size<=L.heap.size:=Qu b a.size;have a0:w.heap.size<L.heap.size:=QE i a.size;obtain⟨B,C,P,R,S,T⟩:=k.out.three;clear h g a
 go_wp2
 clear B C P R S T;obtain⟨r,X,E,D,a1,q⟩:=dM k.out (.bool j) (.slice t (aP n.natAbs).length x) (.slice s (aP 1).length u);rw[X];have F:OwnN r W.heap.size _ (aP n.natAbs):=ez o.out (gY o.out i) q;have G:OwnN r W.heap.size _ (aP 1):=ez m.out (gY m.out i) q;obtain⟨N,B,C,_,_,_⟩:=(E.alloc (.cells #[.bool j,.slice t (aP n.natAbs).length x,.slice s (aP 1).length u] 27)).three;have d:Below r.heap.size r (r.alloc (.cells #[.bool j,.slice t (aP n.natAbs).length x,.slice s (aP 1).length u] 27)):=(Below.refl _ _).alloc (Qi _) _;exact bodyPost_ret (v:=.agg #[.bool j,.slice t (aP n.natAbs).length x,.slice s (aP 1).length u]) (by simp[results,results105,go_sem,N,B,C]) Z ⟨_,_,by rw[A.out],(F.below d).base_le b,(G.below d).base_le b,(y.out.trans D).trans (d.mono O)⟩
def D0(ng:Bool)(X:Nat):List UInt8:=if ng=true then 45::Lib.decDigits X else Lib.decDigits X
def PI(g:Nat)(Bd:Option Addr)(cd:Nat):List (Value->World->Prop):=[
 λr _=>r=.pointer (some ⟨g,2,none⟩),
 λr _=>r=.slice Bd (aP 1).length cd,
 λr W=>IsD W r 1,
 λr _=>r=.int .i64 0,
 λr _=>r=.bool false]
def xH(g:Nat)(a:Option Addr)(c:Nat)(b:World):Stab b (PI g a c):=
 .eq<|.eq<|.cons (λ_ _ _ _ h d=>h.below d)<|.eq<|.eq<|.nil
def xI(L:Bool)(A B:Option Addr)(ca cb X:Nat)(w:World)(hA:IsN w A ca (aP X))(hB:IsN w B cb (aP 1))(a4:(aP X).length<=1048576)(hn:L=true->X≠0)(hD:(Lib.decDigits X).length<=1073741824):
  Calls prog 27 #[.agg #[.bool L,.slice A (aP X).length ca,.slice B (aP 1).length cb]] w (md (D0 L X) w):=by
 obtain⟨W,hW,i,d4,e1⟩:=qT w 27 #[.bool L,.slice A (aP X).length ca,.slice B (aP 1).length cb];have HW:=J hW;have c1:=J i;have b3:=i.size;have HC:=J (zR (hA.below i) (hB.below i) a4 hn);clear hW i d4 e1 hA hB hn
 go_enter func27,ntmps27
 go_wp2_with fail
 rw[HW.out];refine HC.out.mono ?_;rintro e w1 ⟨vn,vd,rfl,a9,a5,G⟩;obtain⟨An,cn,en,a3⟩:=a9.is (dA _);obtain⟨q,s,ed,a2⟩:=a5.is (dA _);subst en ed;have b5:=J (aZ c1.out G b3);have b0:w.heap.size<=w1.heap.size:=Qu b3 G.size;obtain⟨W2,a0,c,u,b4⟩:=qT w1 27 #[.bool L,.slice An (aP X).length cn,.slice q (aP 1).length s];have c9:=J a0;have c4:=J (a3.below c);have c3:=J (a2.below c);have R:=J u;have c0:=J (aZ b5.out c b0);have b1:w.heap.size<=W2.heap.size:=Qu b0 c.size;clear a9 a5 G a3 a2 a0 c u b4;have K:=zP An cn (aP X) W2 c4.out a4 (by rw[bS];exact hD);rw[bS]at K;have c5:=J K;clear K
 go_wp2_with fail
 rw[c9.out];refine c5.out.mono ?_;rintro e w3 ⟨rfl,f⟩;have N:=J (aZ c0.out f b1);have P:=J (c3.out.below f);have S:=J (R.out.below f R.out.lt);have b2:w.heap.size<=w3.heap.size:=Qu b1 f.size;obtain⟨d0,d1,d2,_,_,_⟩:=S.out.three;have a1:=S.out.lt;generalize e0:w1.heap.size=g at*;obtain⟨D,F⟩:∃D,Lib.decDigits X=D:=⟨_,Z⟩;have Q:=J F;rw[F]at hD⊢;clear f F e0;cases L
 ·go_wp2
  have Y:=d2;refine k8 [some 14,some 15,some 16,some 17,some 18] (PI g q s) U U (by rfl) (by rfl) (xH g q s _) ?_ ?_
  ·refine Steps.cons trivial (λT W a=>?_) ?_
   ·have e3:T 3=.pointer (some ⟨g,0,none⟩):=a.keep 3 (by rfl);have b:=a.wi;clear a;refine OpRuns.of_ok (v:=.pointer (some ⟨g,2,none⟩)) (W':=W) ?_ ⟨Z,Below.refl _ _⟩;simp only[execOp,eX,e3];go_simp
   refine Steps.cons trivial (λT W a=>?_) ?_
   ·have y:T 14=.pointer (some ⟨g,2,none⟩):=a.fact 1 0 14 U;have b:=a.wi;clear a;refine OpRuns.of_ok (v:=.slice q (aP 1).length s) (W':=W) ?_ ⟨Z,Below.refl _ _⟩;have d3:=(b.cell (p:=⟨g,2,none⟩) a1).trans Y;simp only[execOp,eX,y];go_simp
   refine Steps.cons trivial (λT W a=>?_) ?_
   ·have b:=a.wi;clear a;refine OpRuns.of_call ?_ ((me 1 _ O).mono λe W' h=>?_)
    ·simp only[execOp,resolve,invoke,R2,QM,Rq,eX];go_simp
    obtain⟨M,V,he,H,t⟩:=h.open_;exact⟨_,he,⟨M,V,Z,H⟩,t⟩
   refine Steps.cons trivial (λT W a=>?_) ?_
   ·have z:T 15=.slice q (aP 1).length s:=a.fact 1 1 15 U;have o:(λr W=>IsD W r 1) (T 16) W:=a.fact 1 2 16 U;simp only at o;have b:=a.wi;clear a;obtain⟨M,V,C,H⟩:=o;refine OpRuns.of_call ?_ ((Mu (P.out.below b) H (by have:=kD;omega) (by have:=kD;omega)).mono λe W' h=>⟨_,h.1,?_,h.2⟩)
    ·simp only[execOp,resolve,invoke,R2,QM,Rq,eX,z,C];go_simp
    show Value.int .i64 (iE ((1:Nat):Int) ((1:Nat):Int))=_
    rw[mb Z]
   refine Steps.cons trivial (λT W a=>?_) ?_
   ·have E:T 17=.int .i64 0:=a.fact 1 3 17 U;have b:=a.wi;clear a;refine OpRuns.of_ok (v:=.bool false) (W':=W) ?_ ⟨Z,Below.refl _ _⟩;simp only[execOp,eX,E];go_simp
   exact Steps.nil
  intro us W1 d hF t;obtain⟨y0,e2,rfl,j⟩:=fJ d;clear d;obtain⟨y1,e4,rfl,k⟩:=fJ j;clear j;obtain⟨y2,e5,rfl,l⟩:=fJ k;clear k;obtain⟨y3,e6,rfl,m⟩:=fJ l;clear l;obtain⟨y4,e7,rfl,n⟩:=fJ m;clear m;obtain rfl:=Bz n;clear n;have f4:y4=.bool false:=hF 4 I;clear hF;subst f4;simp only[cJ,Q8,TQ,Ti,Sq,Ss];have x:=J (aZ N.out t b2);clear t Y d0 d1 d2
  go_wp2
  go_ret
  exact⟨by rw[show D0 false X=D from Q.out];rfl,x.out⟩
 go_wp2
 have Y:=d2;refine k8 [some 14,some 15,some 16,some 17,some 18] (PI g q s) U U (by rfl) (by rfl) (xH g q s _) ?_ ?_
 ·refine Steps.cons trivial (λT W a=>?_) ?_
  ·have e3:T 3=.pointer (some ⟨g,0,none⟩):=a.keep 3 (by rfl);have b:=a.wi;clear a;refine OpRuns.of_ok (v:=.pointer (some ⟨g,2,none⟩)) (W':=W) ?_ ⟨Z,Below.refl _ _⟩;simp only[execOp,eX,e3];go_simp
  refine Steps.cons trivial (λT W a=>?_) ?_
  ·have y:T 14=.pointer (some ⟨g,2,none⟩):=a.fact 1 0 14 U;have b:=a.wi;clear a;refine OpRuns.of_ok (v:=.slice q (aP 1).length s) (W':=W) ?_ ⟨Z,Below.refl _ _⟩;have d3:=(b.cell (p:=⟨g,2,none⟩) a1).trans Y;simp only[execOp,eX,y];go_simp
  refine Steps.cons trivial (λT W a=>?_) ?_
  ·have b:=a.wi;clear a;refine OpRuns.of_call ?_ ((me 1 _ O).mono λe W' h=>?_)
   ·simp only[execOp,resolve,invoke,R2,QM,Rq,eX];go_simp
   obtain⟨M,V,he,H,t⟩:=h.open_;exact⟨_,he,⟨M,V,Z,H⟩,t⟩
  refine Steps.cons trivial (λT W a=>?_) ?_
  ·have z:T 15=.slice q (aP 1).length s:=a.fact 1 1 15 U;have o:(λr W=>IsD W r 1) (T 16) W:=a.fact 1 2 16 U;simp only at o;have b:=a.wi;clear a;obtain⟨M,V,C,H⟩:=o;refine OpRuns.of_call ?_ ((Mu (P.out.below b) H (by have:=kD;omega) (by have:=kD;omega)).mono λe W' h=>⟨_,h.1,?_,h.2⟩)
   ·simp only[execOp,resolve,invoke,R2,QM,Rq,eX,z,C];go_simp
   show Value.int .i64 (iE ((1:Nat):Int) ((1:Nat):Int))=_
   rw[mb Z]
  refine Steps.cons trivial (λT W a=>?_) ?_
  ·have E:T 17=.int .i64 0:=a.fact 1 3 17 U;have b:=a.wi;clear a;refine OpRuns.of_ok (v:=.bool false) (W':=W) ?_ ⟨Z,Below.refl _ _⟩;simp only[execOp,eX,E];go_simp
  exact Steps.nil
 intro us W1 d hF t;obtain⟨y0,e2,rfl,j⟩:=fJ d;clear d;obtain⟨y1,e4,rfl,k⟩:=fJ j;clear j;obtain⟨y2,e5,rfl,l⟩:=fJ k;clear k;obtain⟨y3,e6,rfl,m⟩:=fJ l;clear l;obtain⟨y4,e7,rfl,n⟩:=fJ m;clear m;obtain rfl:=Bz n;clear n;have f4:y4=.bool false:=hF 4 I;clear hF;subst f4;simp only[cJ,Q8,TQ,Ti,Sq,Ss];have x:=J (aZ N.out t b2);clear t Y d0 d1 d2
 go_wp2
 go_ret
 refine⟨?_,x.out⟩;rw[show D0 true X=45::D by rw[D0,if_pos Z,Q.out]];have:=iY [45] D;simp at this⊢;first|rfl|exact this
