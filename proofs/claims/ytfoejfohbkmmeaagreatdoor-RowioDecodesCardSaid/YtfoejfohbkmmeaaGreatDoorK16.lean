import Derived.Test.YtfoejfohbkmmeaaGreatDoorK15
set_option maxHeartbeats 1000000
set_option linter.defProp false
open Go.Proofs.Tryz
namespace Go.Proofs.YtfoejfohbkmmeaaGreatDoor
open Go.RowKit
open Lib renaming hid→J
def Bt(c:UInt8):Bool:=(decide (65<=c.toNat)&&decide (c.toNat<=90))||(decide (97<=c.toNat)&&decide (c.toNat<=122))
def Bu(c:UInt8):Bool:=(decide (48<=c.toNat)&&decide (c.toNat<=57))||decide (c.toNat=95)
def Bv(j:Nat)(c:UInt8):Bool:=Bt c||(decide (j≠0)&&Bu c)
def j5(s:ByteArray):Bool:=decide (1<=s.size)&&decide (s.size<=24)&&(List.range s.size).all λj=>Bv j (s.data.toList.getD j 0)
def ya{s:ByteArray}{i:Nat}{c:UInt8}(h:s.data.toList[i]? =some c)(b:i<s.size)(a:Bv i c=false):j5 s=false:=by
 unfold j5;rw[SZ];right;rw[UU];exact⟨i,Tr.2 b,by rw[Rr,h,RH,a];exact R0⟩
structure Col where
 name:ByteArray
 ty:Int
 key:Bool
structure Sch where
 name:ByteArray
 cert:Bool
 cols:List Col
structure Tp where
 vals:List V
 prob:Rat
structure Rel where
 sch:Sch
 tups:List Tp
def V.tree(v:V):Tree:=.agg [.sc (.int .i64 v.t),.sc (.int .i64 v.n),.sc (.string v.s)]
def Col.tree(c:Col):Tree:=.agg [.sc (.string c.name),.sc (.int .i64 c.ty),.sc (.bool c.key)]
def Sch.tree(s:Sch):Tree:=.agg [.sc (.string s.name),.sc (.bool s.cert),.sl (s.cols.map Col.tree)]
def aY(n:Nat):Tree:=.sl ((aD n).map λd=>.sc (.int .u32 (d:Nat)))
def iC(ng:Bool)(N D:Nat):Tree:=.agg [.sc (.bool ng),aY N,aY D]
def dw(q:Rat):Tree:=iC (decide (q.num<0)) q.num.natAbs q.den
def Tp.tree(t:Tp):Tree:=.agg [.sl (t.vals.map V.tree),.sc (.bool (decide (t.prob.num<0))),aY t.prob.num.natAbs,aY t.prob.den]
def Rel.tree(r:Rel):Tree:=.agg [.sc (.string r.sch.name),.sc (.bool r.sch.cert),.sl (r.sch.cols.map Col.tree),.sl (r.tups.map Tp.tree)]
def gN(l:List V):Sized 3 (l.map V.tree):=Sized.map _ l λ_=>rfl
def eP(l:List Col):Sized 3 (l.map Col.tree):=Sized.map _ l λ_=>rfl
def c6(l:List Tp):Sized 4 (l.map Tp.tree):=Sized.map _ l λ_=>rfl
def bd{α:Type}{f:α->Tree}{l:List α}{i:Nat}{a:α}(h:l[i]? =some a):(l.map f)[i]? =some (f a):=by rw[RK,h];rfl
def gO(i:Nat):Tree:=.sc (.int .i64 (i:Nat))
def tg(l:List Nat):Sized 1 (l.map gO):=Sized.map _ l λ_=>rfl
def m9(cert:Bool)(c:Col):Bool:=((!j5 c.name)||((c.ty !=1)&&(c.ty !=2)))||(cert&&c.key)
def ik(cert:Bool)(pre:List Col):List Col->Bool
 |[]=>false
 |c::l=>m9 cert c||pre.any (λd=>d.name.toList==c.name.toList)||ik cert (pre++[c]) l
def nd(s:Sch):Bool:=((!j5 s.name)||decide (s.cols.length<1))||decide (6<s.cols.length)
def im(s:Sch):Bool:= !(nd s||ik s.cert [] s.cols)
def eT:List Col->List V->List V
 |c::cs,v::vs=>if c.key then v::eT cs vs else eT cs vs
 |_,_=>[]
def aR(s:Sch)(vs:List V):List V:=if vs.length=s.cols.length then eT s.cols vs else []
def nS(vs:List V):List Tp->Nat->Option Nat
 |[],_=>none
 |t::ts,i=>if bw t.vals vs=0 then some i else nS vs ts (i+1)
def cE(s:Sch)(key:List V):List Tp->Nat->List Nat
 |[],_=>[]
 |t::ts,i=>if bw (aR s t.vals) key=0 then i::cE s key ts (i+1)else cE s key ts (i+1)
def je(ts:List Tp)(i:Nat):Rat:=((ts[i]?).map (·.prob)).getD 0
def gR(ts:List Tp)(l:List Nat):Rat:=l.foldl (λq i=>q+je ts i) 0
def yb{ts:List Tp}{l:List Nat}{j i:Nat}{t:Tp}(a:l[j]? =some i)(c:ts[i]? =some t):gR ts (l.take (j+1))=gR ts (l.take j)+t.prob:=by
 obtain⟨b,rfl⟩:=Q6.1 a;unfold gR;rw[Rz b,VI];simp only[Th,List.foldl_nil,je,c,Sr,RH]
def kT(r:Rel)(vs:List V):List Nat:=if aR r.sch vs=[]then []else cE r.sch (aR r.sch vs) r.tups 0
def bQ(r:Rel):List Tree:=[.sc (.string r.sch.name),.sc (.bool r.sch.cert),.sl (r.sch.cols.map Col.tree),.sl (r.tups.map Tp.tree)]
def eA(t:Tp):List Tree:=[.sl (t.vals.map V.tree),.sc (.bool (decide (t.prob.num<0))),aY t.prob.num.natAbs,aY t.prob.den]
def bj(q:Rat):List Tree:=[.sc (.bool (decide (q.num<0))),aY q.num.natAbs,aY q.den]
def gC(s:Sch):List Tree:=[.sc (.string s.name),.sc (.bool s.cert),.sl (s.cols.map Col.tree)]
def j6(r:Rel)(y:Tree):List Tree:=[.sc (.string r.sch.name),.sc (.bool r.sch.cert),.sl (r.sch.cols.map Col.tree),y]
def ml:List Tree:=[.sc (.bool false),.sl [],.sl []]
def c7:List Tree:=[.sc (.string (⟨#[]⟩)),.sc (.bool false),.sl [],.sl []]
def gh(t n:Int)(s:ByteArray):List UInt8:=
 if bY t n s then(if t=1 then Lib.itoa n else [39]++m0 s.data.toList++[39])else []
def DW(t n:Int)(s:ByteArray)(w:World)(h:bY t n s=false):
  Calls prog 46 #[.agg #[.int .i64 t,.int .i64 n,.string s]] w λe w'=>e=.returned (.string ⟨(gh t n s).toArray⟩)/\Below w.heap.size w w':=by
 have b:=J (show gh t n s=[] by simp[gh,h]);have a:∀w:World,Calls prog 104 #[.agg #[.int .i64 t,.int .i64 n,.string s]] w λe w'=>e=.returned (.bool false)/\Below w.heap.size w w':=λw=>by
  have:=gd t n s w;rwa[h]at this
 have c:=J a;clear a h
 go_enter func46,ntmps46
 go_wp2_with (go_at_call 104;refine(c.out _).mono ?_;rintro e w' ⟨rfl,d⟩)
 go_ret
 exact⟨by rw[b.out];rfl,((Below.refl _ _).alloc (Q3 _) _).trans (d.mono F)⟩
def DX(n:Int)(s:ByteArray)(w:World)(h:bY 1 n s=true)(t: -9223372036854775808<=n)(u:n<=9223372036854775807)(f:Env w):
  Calls prog 46 #[.agg #[.int .i64 1,.int .i64 n,.string s]] w λe w'=>e=.returned (.string ⟨(gh 1 n s).toArray⟩)/\Below w.heap.size w w':=by
 have l:=J (show gh 1 n s=Lib.itoa n by simp[gh,h]);have i:∀w:World,Calls prog 104 #[.agg #[.int .i64 1,.int .i64 n,.string s]] w λe w'=>e=.returned (.bool true)/\Below w.heap.size w w':=λw=>by
  have:=gd 1 n s w;rwa[h]at this
 have m:=J i;clear i h;have k:=J f;clear f;obtain⟨W,g,v,j,q,r,y⟩:=Pp w 77 (.int .i64 1) (.int .i64 n) (.string s);have o:=J g;clear g;have c:=J j;clear j
 go_enter func46,ntmps46
 go_wp2_with fail
 rw[o.out];refine(m.out _).mono ?_;rintro e x ⟨rfl,a⟩;have z:=(a.cell (p:=⟨w.heap.size,0,none⟩) (by simp[c.out])).trans q;have A:=(a.cell (p:=⟨w.heap.size,1,none⟩) (by simp[c.out])).trans r;have b:Below w.heap.size w x:=v.trans (a.mono (by rw[c.out];omega))
 go_wp2_with fail
 refine(xu n _ t u (k.out.below b (Q3 _))).mono ?_;rintro e B ⟨rfl,d⟩
 go_wp2
 go_ret
 exact⟨by rw[l.out];rfl,b.trans (d.mono b.size)⟩
def DY(n:Int)(s:ByteArray)(w:World)(h:bY 2 n s=true)(g:Env w):
  Calls prog 46 #[.agg #[.int .i64 2,.int .i64 n,.string s]] w λe w'=>e=.returned (.string ⟨(gh 2 n s).toArray⟩)/\Below w.heap.size w w':=by
 have m:=J (show gh 2 n s=[39]++m0 s.data.toList++[39] by simp[gh,h]);have B:s.size<=64:=by simp[bY]at h;omega
 have j:∀w:World,Calls prog 104 #[.agg #[.int .i64 2,.int .i64 n,.string s]] w λe w'=>e=.returned (.bool true)/\Below w.heap.size w w':=λw=>by
  have:=gd 2 n s w;rwa[h]at this
 have o:=J j;clear j h;have l:=J g;clear g;obtain⟨W,i,u,k,r,x,t⟩:=Pp w 77 (.int .i64 2) (.int .i64 n) (.string s);have q:=J i;clear i;have c:=J k;clear k
 go_enter func46,ntmps46
 go_wp2_with fail
 rw[q.out];refine(o.out _).mono ?_;rintro e v ⟨rfl,a⟩;have y:=(a.cell (p:=⟨w.heap.size,0,none⟩) (by simp[c.out])).trans r;have z:=(a.cell (p:=⟨w.heap.size,2,none⟩) (by simp[c.out])).trans t;have b:Below w.heap.size w v:=u.trans (a.mono (by rw[c.out];omega))
 go_wp2_with fail
 refine(i7 s ⟨#[39]⟩ ⟨#[39,39]⟩ _ O I I (l.out.below b (Q3 _))).mono ?_;rintro e C ⟨rfl,d⟩;have f:Lib.replaceAll s.data.toList [39] [39,39]=m0 s.data.toList:=by rw[jd _ I,zR]
 simp only[f];clear f;have A:(m0 s.data.toList).length<=128:=by have:=lO s.data.toList;simp at this;omega
 go_wp2
 go_ret
 refine⟨?_,b.trans (d.mono b.size)⟩;rw[m.out,<-Jy,<-Jy];rfl
def kU(t n:Int)(s:ByteArray)(w:World)(c: -9223372036854775808<=n)(d:n<=9223372036854775807)(a:Env w):
  Calls prog 46 #[.agg #[.int .i64 t,.int .i64 n,.string s]] w λe w'=>e=.returned (.string ⟨(gh t n s).toArray⟩)/\Below w.heap.size w w':=by
 cases h:bY t n s
 ·exact DW t n s w h
 by_cases b:t=1
 ·subst b;exact DX n s w h c d a
 have:t=2:=by simp[bY,b]at h;exact h.1.1.1
 subst this;exact DY n s w h a
def Ac(l:List UInt8):Lib.hasPrefix (39::l) [39]=true:=by simp[Lib.hasPrefix]
def DZ(l:List UInt8)(h:∀r,l≠39::r):Lib.hasPrefix l [39]=false:=by
 cases l with
 |nil=>rfl
 |cons c r=>
  simp only[Lib.hasPrefix];rw[List.isPrefixOf];have:c≠39:=λe=>h r (by rw[e])
  simp[Ne.symm this]
def JZ(l:List UInt8)(s:ByteArray)(h:s.data.toList≠l):(l==s.toList)=false:=by
 rw[Lib.toList_data,beq_eq_false_iff_ne];exact λe=>h e.symm
def FN(l:List UInt8)(s:ByteArray)(h:s.data.toList=l):(l==s.toList)=true:=by
 rw[Lib.toList_data,beq_iff_eq];exact h.symm
def Bw(s:ByteArray)(w:World)(R:s.size<=4294967280)(x:Lib.hasPrefix s.data.toList [39]=false)(f:∀v,Lib.parseIntB 64 s.data.toList≠ .ok v)(r:Env w):
  Calls prog 76 #[.string s] w λe w'=>e=.returned (.tuple #[.agg #[.int .i64 0,.int .i64 0,.string ⟨#[]⟩],.int .i64 2])/\Below w.heap.size w w':=by
 have t:∀w:World,Calls prog 77 #[.string s,.string ⟨#[39]⟩] w λe w'=>e=.returned (.bool false)/\w=w':=λw=>by
  have:=fO s ⟨#[39]⟩ w;rwa[show Lib.hasPrefix s.data.toList [39]=false from x]at this
 have z:=J t;clear t x;have i:=J f;clear f;have y:=J r;clear r;obtain⟨W,u,d,p⟩:=AU w 77 77 #[.int .i64 0,.int .i64 0,.string ⟨#[]⟩] #[.int .i64 0,.int .i64 0,.string ⟨#[]⟩];have A:=J u;have q:=J p;have j:=J p.2.2;have b:=J d;clear u p d
 go_enter func76,ntmps76
 go_wp2_with fail
 rw[A.out];refine(z.out _).mono ?_;rintro e Q ⟨rfl,rfl⟩
 go_wp2_with fail
 refine(zy s _ O i.out (y.out.below b.out (Q3 _))).mono ?_;rintro e Q ⟨v,N,rfl,a⟩;have g:=J (b.out.trans (a.mono (by rw[j.out];omega)));have h:=J (q.out.2.1.below a (by rw[j.out];omega));have c:=J (q.out.1.below a (by rw[j.out];omega));clear a;obtain⟨B,C,D,E,F,G⟩:=h.out.three;obtain⟨k,l,m,H,I,K⟩:=c.out.three
 go_wp2
 clear B C D E F G k l m H I K;obtain⟨S,L,o,n,P,M⟩:=iG c.out (.int .i64 0) (.int .i64 0) (.string ⟨#[]⟩);rw[L];obtain⟨k,l,m,_,_,_⟩:=o.three;exact bodyPost_ret (v:=.tuple #[.agg #[.int .i64 0,.int .i64 0,.string ⟨#[]⟩],.int .i64 2]) (by simp[results,results76,go_sem,k,l,m]) Z ⟨Z,g.out.trans n⟩
def u5(s:ByteArray)(w:World)(hs:s.size<=4294967280)(n:Int)(hp:Lib.hasPrefix s.data.toList [39]=false)(D:Lib.parseIntB 64 s.data.toList=.ok n)(h0: -9223372036854775808<=n)(h1:n<=9223372036854775807)(h:s.data.toList=gh 1 n ⟨#[]⟩)(E:Env w):
  Calls prog 76 #[.string s] w λe w'=>e=.returned (.tuple #[.agg #[.int .i64 1,.int .i64 n,.string ⟨#[]⟩],.int .i64 0])/\Below w.heap.size w w':=by
 have Y:∀w:World,Calls prog 77 #[.string s,.string ⟨#[39]⟩] w λe w'=>e=.returned (.bool false)/\w=w':=λw=>by
  have:=fO s ⟨#[39]⟩ w;rwa[show Lib.hasPrefix s.data.toList [39]=false from hp]at this
 have HP:=J Y;clear Y hp;have K:=J D;clear D;have f:bY 1 n ⟨#[]⟩=true:=by simp[bY]
 have hV:∀w:World,Calls prog 104 #[.agg #[.int .i64 1,.int .i64 n,.string ⟨#[]⟩]] w λe w'=>e=.returned (.bool true)/\Below w.heap.size w w':=λw=>by
  have:=gd 1 (n) ⟨#[]⟩ w;rwa[f]at this
 have HV:=J hV;clear hV;have X:∀w:World,Env w->Calls prog 46 #[.agg #[.int .i64 1,.int .i64 n,.string ⟨#[]⟩]] w λe w'=>e=.returned (.string ⟨(gh 1 (n) ⟨#[]⟩).toArray⟩)/\Below w.heap.size w w':=λw E=>kU 1 (n) ⟨#[]⟩ w h0 h1 E
 have HF:=J X;clear X;have a1:(gh 1 n ⟨#[]⟩==s.toList)=true:=FN _ s h;clear f h;have HE:=J E;clear E;obtain⟨W,hW,A,R⟩:=AU w 77 77 #[.int .i64 0,.int .i64 0,.string ⟨#[]⟩] #[.int .i64 0,.int .i64 0,.string ⟨#[]⟩];have HW:=J hW;have T:=J R;have j:=J R.2.2;have H:=J A;clear hW R A
 go_enter func76,ntmps76
 go_wp2_with fail
 rw[HW.out];refine(HP.out _).mono ?_;rintro e w1 ⟨rfl,rfl⟩
 go_wp2_with fail
 refine(s6 s n _ O K.out).mono ?_;rintro e w1 ⟨rfl,a⟩
 go_wp2_with fail
 refine(uI _ _).mono ?_;rintro e w2 ⟨rfl,b⟩;have F:=J ((H.out.trans (a.mono (by rw[j.out];omega))).trans (b.mono (Q7 (by rw[j.out];omega) a.size)));have U:=J (IsBlk.below (IsBlk.below T.out.2.1 a (by rw[j.out];omega)) b (Rh (by rw[j.out];omega) a.size));have HR:=J (IsBlk.below (IsBlk.below T.out.1 a (by rw[j.out];omega)) b (Rh (by rw[j.out];omega) a.size));clear a b;obtain⟨q,r,t,u,x,y⟩:=U.out.three
 go_wp2_with fail
 clear q r t u x y;obtain⟨w3,V,B,z,S,C⟩:=iG U.out (.int .i64 1) (.int .i64 n) (.string ⟨#[]⟩);rw[V];have m:=J (show IsBlk w3 w.heap.size 77 #[.int .i64 0,.int .i64 0,.string ⟨#[]⟩]from(C w.heap.size O).trans HR.out);have k:=J (F.out.trans (z.mono O));have l:=J B;clear V B z S C;refine(HV.out _).mono ?_;rintro e w4 ⟨rfl,c⟩;have g:=J (k.out.trans (c.mono k.out.size));have i:=J (l.out.below c l.out.lt);have o:=J (m.out.below c m.out.lt);clear c;obtain⟨q,r,t,u,x,y⟩:=i.out.three
 go_wp2_with fail
 clear q r t u x y;refine(HF.out _ (HE.out.below g.out (Q3 _))).mono ?_;rintro e w5 ⟨rfl,d⟩;have G:=J (g.out.trans (d.mono g.out.size));have I:=J (i.out.below d i.out.lt);have p:=J (o.out.below d o.out.lt);clear d;obtain⟨q,r,t,u,x,y⟩:=I.out.three;obtain⟨L,M,N,g0,g1,g2⟩:=p.out.three
 go_wp2
 clear q r t u x y L M N g0 g1 g2;obtain⟨w6,h6,Q,P,a2,a0⟩:=iG p.out (.int .i64 1) (.int .i64 n) (.string ⟨#[]⟩);rw[h6];obtain⟨L,M,N,_,_,_⟩:=Q.three;exact bodyPost_ret (v:=.tuple #[.agg #[.int .i64 1,.int .i64 n,.string ⟨#[]⟩],.int .i64 0]) (by simp[results,results76,go_sem,L,M,N]) Z ⟨Z,G.out.trans P⟩
def tQ(s:ByteArray)(w:World)(hs:s.size<=4294967280)(n:Int)(hp:Lib.hasPrefix s.data.toList [39]=false)(D:Lib.parseIntB 64 s.data.toList=.ok n)(h0: -9223372036854775808<=n)(h1:n<=9223372036854775807)(h:s.data.toList≠gh 1 n ⟨#[]⟩)(E:Env w):
  Calls prog 76 #[.string s] w λe w'=>e=.returned (.tuple #[.agg #[.int .i64 0,.int .i64 0,.string ⟨#[]⟩],.int .i64 2])/\Below w.heap.size w w':=by
 have Y:∀w:World,Calls prog 77 #[.string s,.string ⟨#[39]⟩] w λe w'=>e=.returned (.bool false)/\w=w':=λw=>by
  have:=fO s ⟨#[39]⟩ w;rwa[show Lib.hasPrefix s.data.toList [39]=false from hp]at this
 have HP:=J Y;clear Y hp;have K:=J D;clear D;have f:bY 1 n ⟨#[]⟩=true:=by simp[bY]
 have hV:∀w:World,Calls prog 104 #[.agg #[.int .i64 1,.int .i64 n,.string ⟨#[]⟩]] w λe w'=>e=.returned (.bool true)/\Below w.heap.size w w':=λw=>by
  have:=gd 1 (n) ⟨#[]⟩ w;rwa[f]at this
 have HV:=J hV;clear hV;have X:∀w:World,Env w->Calls prog 46 #[.agg #[.int .i64 1,.int .i64 n,.string ⟨#[]⟩]] w λe w'=>e=.returned (.string ⟨(gh 1 (n) ⟨#[]⟩).toArray⟩)/\Below w.heap.size w w':=λw E=>kU 1 (n) ⟨#[]⟩ w h0 h1 E
 have HF:=J X;clear X;have a1:(gh 1 n ⟨#[]⟩==s.toList)=false:=JZ _ s h;clear f h;have HE:=J E;clear E;obtain⟨W,hW,A,R⟩:=AU w 77 77 #[.int .i64 0,.int .i64 0,.string ⟨#[]⟩] #[.int .i64 0,.int .i64 0,.string ⟨#[]⟩];have HW:=J hW;have T:=J R;have j:=J R.2.2;have H:=J A;clear hW R A
 go_enter func76,ntmps76
 go_wp2_with fail
 rw[HW.out];refine(HP.out _).mono ?_;rintro e w1 ⟨rfl,rfl⟩
 go_wp2_with fail
 refine(s6 s n _ O K.out).mono ?_;rintro e w1 ⟨rfl,a⟩
 go_wp2_with fail
 refine(uI _ _).mono ?_;rintro e w2 ⟨rfl,b⟩;have F:=J ((H.out.trans (a.mono (by rw[j.out];omega))).trans (b.mono (Q7 (by rw[j.out];omega) a.size)));have U:=J (IsBlk.below (IsBlk.below T.out.2.1 a (by rw[j.out];omega)) b (Rh (by rw[j.out];omega) a.size));have HR:=J (IsBlk.below (IsBlk.below T.out.1 a (by rw[j.out];omega)) b (Rh (by rw[j.out];omega) a.size));clear a b;obtain⟨q,r,t,u,x,y⟩:=U.out.three
 go_wp2_with fail
 clear q r t u x y;obtain⟨w3,V,B,z,S,C⟩:=iG U.out (.int .i64 1) (.int .i64 n) (.string ⟨#[]⟩);rw[V];have m:=J (show IsBlk w3 w.heap.size 77 #[.int .i64 0,.int .i64 0,.string ⟨#[]⟩]from(C w.heap.size O).trans HR.out);have k:=J (F.out.trans (z.mono O));have l:=J B;clear V B z S C;refine(HV.out _).mono ?_;rintro e w4 ⟨rfl,c⟩;have g:=J (k.out.trans (c.mono k.out.size));have i:=J (l.out.below c l.out.lt);have o:=J (m.out.below c m.out.lt);clear c;obtain⟨q,r,t,u,x,y⟩:=i.out.three
 go_wp2_with fail
 clear q r t u x y;refine(HF.out _ (HE.out.below g.out (Q3 _))).mono ?_;rintro e w5 ⟨rfl,d⟩;have G:=J (g.out.trans (d.mono g.out.size));have I:=J (i.out.below d i.out.lt);have p:=J (o.out.below d o.out.lt);clear d;obtain⟨q,r,t,u,x,y⟩:=I.out.three;obtain⟨L,M,N,g0,g1,g2⟩:=p.out.three
 go_wp2
 clear q r t u x y L M N g0 g1 g2;obtain⟨w6,h6,Q,P,a2,a0⟩:=iG p.out (.int .i64 0) (.int .i64 0) (.string ⟨#[]⟩);rw[h6];obtain⟨L,M,N,_,_,_⟩:=Q.three;exact bodyPost_ret (v:=.tuple #[.agg #[.int .i64 0,.int .i64 0,.string ⟨#[]⟩],.int .i64 2]) (by simp[results,results76,go_sem,L,M,N]) Z ⟨Z,G.out.trans P⟩
def Bx(s:ByteArray)(w:World)(M:s.size<=4294967280)(q:Lib.hasPrefix s.data.toList [39]=true)(L:s.size<2)(n:Env w):
  Calls prog 76 #[.string s] w λe w'=>e=.returned (.tuple #[.agg #[.int .i64 0,.int .i64 0,.string ⟨#[]⟩],.int .i64 2])/\Below w.heap.size w w':=by
 have o:∀w:World,Calls prog 77 #[.string s,.string ⟨#[39]⟩] w λe w'=>e=.returned (.bool true)/\w=w':=λw=>by
  have:=fO s ⟨#[39]⟩ w;rwa[show Lib.hasPrefix s.data.toList [39]=true from q]at this
 have r:=J o;clear o q;have I:=J n;clear n;obtain⟨W,p,b,l⟩:=AU w 77 77 #[.int .i64 0,.int .i64 0,.string ⟨#[]⟩] #[.int .i64 0,.int .i64 0,.string ⟨#[]⟩];have t:=J p;have m:=J l;have K:=J l.2.2;have d:=J b;clear p l b
 go_enter func76,ntmps76
 go_wp2_with fail
 rw[t.out];refine(r.out _).mono ?_;rintro e N ⟨rfl,rfl⟩;have f:=J m.out.2.1;have a:=J m.out.1;have c:=J d.out;obtain⟨u,x,y,z,A,B⟩:=f.out.three;obtain⟨g,h,i,C,D,E⟩:=a.out.three
 go_wp2
 clear u x y z A B g h i C D E;obtain⟨O,F,k,j,H,G⟩:=iG a.out (.int .i64 0) (.int .i64 0) (.string ⟨#[]⟩);rw[F];obtain⟨g,h,i,_,_,_⟩:=k.three;exact bodyPost_ret (v:=.tuple #[.agg #[.int .i64 0,.int .i64 0,.string ⟨#[]⟩],.int .i64 2]) (by simp[results,results76,go_sem,g,h,i]) Z ⟨Z,c.out.trans j⟩
def u6(s:ByteArray)(w:World)(hs:s.size<=4294967280)(b:ByteArray)(E:b=⟨(uJ [39,39] [39] (s.extract 1 (s.size-1)).data.toList).toArray⟩)(hp:Lib.hasPrefix s.data.toList [39]=true)(h2:2<=s.size)(g:bY 2 0 b=true)(h:s.data.toList=gh 2 0 b)(F:Env w):
  Calls prog 76 #[.string s] w λe w'=>e=.returned (.tuple #[.agg #[.int .i64 2,.int .i64 0,.string b],.int .i64 0])/\Below w.heap.size w w':=by
 have hP:∀w:World,Calls prog 77 #[.string s,.string ⟨#[39]⟩] w λe w'=>e=.returned (.bool true)/\w=w':=λw=>by
  have:=fO s ⟨#[39]⟩ w;rwa[show Lib.hasPrefix s.data.toList [39]=true from hp]at this
 have HP:=J hP;clear hP hp;have L:=J E;clear E;have hV:∀w:World,Calls prog 104 #[.agg #[.int .i64 2,.int .i64 0,.string b]] w λe w'=>e=.returned (.bool true)/\Below w.heap.size w w':=λw=>by
  have:=gd 2 (0) b w;rwa[g]at this
 have HV:=J hV;clear hV;have hF:∀w:World,Env w->Calls prog 46 #[.agg #[.int .i64 2,.int .i64 0,.string b]] w λe w'=>e=.returned (.string ⟨(gh 2 (0) b).toArray⟩)/\Below w.heap.size w w':=λw F=>kU 2 (0) b w O O F
 have HF:=J hF;clear hF;have a1:(gh 2 0 b==s.toList)=true:=FN _ s h;clear g h;have V:=J F;clear F;obtain⟨W,hW,B,S⟩:=AU w 77 77 #[.int .i64 0,.int .i64 0,.string ⟨#[]⟩] #[.int .i64 0,.int .i64 0,.string ⟨#[]⟩];have HW:=J hW;have U:=J S;have k:=J S.2.2;have m:=J B;clear hW S B
 go_enter func76,ntmps76
 go_wp2_with fail
 rw[HW.out];refine(HP.out _).mono ?_;rintro e w1 ⟨rfl,rfl⟩
 go_wp2_with fail
 refine(i7 _ ⟨#[39,39]⟩ ⟨#[39]⟩ _ ?h1 I I (V.out.below m.out (Q3 _))).mono ?_
 case h1=>simp;omega
 rintro e w1 ⟨rfl,a⟩;rw[show Lib.replaceAll (s.extract 1 (s.size-1)).data.toList [39,39] [39]=uJ [39,39] [39] (s.extract 1 (s.size-1)).data.toList from jd _ I,<-L.out]
 go_wp2_with fail
 refine(lN _ _).mono ?_;rintro e w2 ⟨rfl,c⟩;have G:=J ((m.out.trans (a.mono (by rw[k.out];omega))).trans (c.mono (Q7 (by rw[k.out];omega) a.size)));have X:=J (IsBlk.below (IsBlk.below U.out.2.1 a (by rw[k.out];omega)) c (Rh (by rw[k.out];omega) a.size));have HR:=J (IsBlk.below (IsBlk.below U.out.1 a (by rw[k.out];omega)) c (Rh (by rw[k.out];omega) a.size));clear a c;obtain⟨r,t,u,x,y,z⟩:=X.out.three
 go_wp2_with fail
 clear r t u x y z;obtain⟨w3,Y,C,A,T,D⟩:=iG X.out (.int .i64 2) (.int .i64 0) (.string b);rw[Y];have o:=J (show IsBlk w3 w.heap.size 77 #[.int .i64 0,.int .i64 0,.string ⟨#[]⟩]from(D w.heap.size O).trans HR.out);have l:=J (G.out.trans (A.mono O));have n:=J C;clear Y C A T D;refine(HV.out _).mono ?_;rintro e w4 ⟨rfl,d⟩;have i:=J (l.out.trans (d.mono l.out.size));have j:=J (n.out.below d n.out.lt);have p:=J (o.out.below d o.out.lt);clear d;obtain⟨r,t,u,x,y,z⟩:=j.out.three
 go_wp2_with fail
 clear r t u x y z;refine(HF.out _ (V.out.below i.out (Q3 _))).mono ?_;rintro e w5 ⟨rfl,f⟩;have H:=J (i.out.trans (f.mono i.out.size));have K:=J (j.out.below f j.out.lt);have q:=J (p.out.below f p.out.lt);clear f;obtain⟨r,t,u,x,y,z⟩:=K.out.three;obtain⟨M,N,P,g0,g1,g2⟩:=q.out.three
 go_wp2
 clear r t u x y z M N P g0 g1 g2;obtain⟨w6,h6,R,Q,a2,a0⟩:=iG q.out (.int .i64 2) (.int .i64 0) (.string b);rw[h6];obtain⟨M,N,P,_,_,_⟩:=R.three;exact bodyPost_ret (v:=.tuple #[.agg #[.int .i64 2,.int .i64 0,.string b],.int .i64 0]) (by simp[results,results76,go_sem,M,N,P]) Z ⟨Z,H.out.trans Q⟩
def tR(s:ByteArray)(w:World)(hs:s.size<=4294967280)(b:ByteArray)(E:b=⟨(uJ [39,39] [39] (s.extract 1 (s.size-1)).data.toList).toArray⟩)(hp:Lib.hasPrefix s.data.toList [39]=true)(h2:2<=s.size)(g:bY 2 0 b=true)(h:s.data.toList≠gh 2 0 b)(F:Env w):
  Calls prog 76 #[.string s] w λe w'=>e=.returned (.tuple #[.agg #[.int .i64 0,.int .i64 0,.string ⟨#[]⟩],.int .i64 2])/\Below w.heap.size w w':=by
 have hP:∀w:World,Calls prog 77 #[.string s,.string ⟨#[39]⟩] w λe w'=>e=.returned (.bool true)/\w=w':=λw=>by
  have:=fO s ⟨#[39]⟩ w;rwa[show Lib.hasPrefix s.data.toList [39]=true from hp]at this
 have HP:=J hP;clear hP hp;have L:=J E;clear E;have hV:∀w:World,Calls prog 104 #[.agg #[.int .i64 2,.int .i64 0,.string b]] w λe w'=>e=.returned (.bool true)/\Below w.heap.size w w':=λw=>by
  have:=gd 2 (0) b w;rwa[g]at this
 have HV:=J hV;clear hV;have hF:∀w:World,Env w->Calls prog 46 #[.agg #[.int .i64 2,.int .i64 0,.string b]] w λe w'=>e=.returned (.string ⟨(gh 2 (0) b).toArray⟩)/\Below w.heap.size w w':=λw F=>kU 2 (0) b w O O F
 have HF:=J hF;clear hF;have a1:(gh 2 0 b==s.toList)=false:=JZ _ s h;clear g h;have V:=J F;clear F;obtain⟨W,hW,B,S⟩:=AU w 77 77 #[.int .i64 0,.int .i64 0,.string ⟨#[]⟩] #[.int .i64 0,.int .i64 0,.string ⟨#[]⟩];have HW:=J hW;have U:=J S;have k:=J S.2.2;have m:=J B;clear hW S B
 go_enter func76,ntmps76
 go_wp2_with fail
 rw[HW.out];refine(HP.out _).mono ?_;rintro e w1 ⟨rfl,rfl⟩
 go_wp2_with fail
 refine(i7 _ ⟨#[39,39]⟩ ⟨#[39]⟩ _ ?h1 I I (V.out.below m.out (Q3 _))).mono ?_
 case h1=>simp;omega
 rintro e w1 ⟨rfl,a⟩;rw[show Lib.replaceAll (s.extract 1 (s.size-1)).data.toList [39,39] [39]=uJ [39,39] [39] (s.extract 1 (s.size-1)).data.toList from jd _ I,<-L.out]
 go_wp2_with fail
 refine(lN _ _).mono ?_;rintro e w2 ⟨rfl,c⟩;have G:=J ((m.out.trans (a.mono (by rw[k.out];omega))).trans (c.mono (Q7 (by rw[k.out];omega) a.size)));have X:=J (IsBlk.below (IsBlk.below U.out.2.1 a (by rw[k.out];omega)) c (Rh (by rw[k.out];omega) a.size));have HR:=J (IsBlk.below (IsBlk.below U.out.1 a (by rw[k.out];omega)) c (Rh (by rw[k.out];omega) a.size));clear a c;obtain⟨r,t,u,x,y,z⟩:=X.out.three
 go_wp2_with fail
 clear r t u x y z;obtain⟨w3,Y,C,A,T,D⟩:=iG X.out (.int .i64 2) (.int .i64 0) (.string b);rw[Y];have o:=J (show IsBlk w3 w.heap.size 77 #[.int .i64 0,.int .i64 0,.string ⟨#[]⟩]from(D w.heap.size O).trans HR.out);have l:=J (G.out.trans (A.mono O));have n:=J C;clear Y C A T D;refine(HV.out _).mono ?_;rintro e w4 ⟨rfl,d⟩;have i:=J (l.out.trans (d.mono l.out.size));have j:=J (n.out.below d n.out.lt);have p:=J (o.out.below d o.out.lt);clear d;obtain⟨r,t,u,x,y,z⟩:=j.out.three
 go_wp2_with fail
 clear r t u x y z;refine(HF.out _ (V.out.below i.out (Q3 _))).mono ?_;rintro e w5 ⟨rfl,f⟩;have H:=J (i.out.trans (f.mono i.out.size));have K:=J (j.out.below f j.out.lt);have q:=J (p.out.below f p.out.lt);clear f;obtain⟨r,t,u,x,y,z⟩:=K.out.three;obtain⟨M,N,P,g0,g1,g2⟩:=q.out.three
 go_wp2
 clear r t u x y z M N P g0 g1 g2;obtain⟨w6,h6,R,Q,a2,a0⟩:=iG q.out (.int .i64 0) (.int .i64 0) (.string ⟨#[]⟩);rw[h6];obtain⟨M,N,P,_,_,_⟩:=R.three;exact bodyPost_ret (v:=.tuple #[.agg #[.int .i64 0,.int .i64 0,.string ⟨#[]⟩],.int .i64 2]) (by simp[results,results76,go_sem,M,N,P]) Z ⟨Z,H.out.trans Q⟩
def xA(s:ByteArray)(w:World)(hs:s.size<=4294967280)(q:ByteArray)(p:q=⟨(uJ [39,39] [39] (s.extract 1 (s.size-1)).data.toList).toArray⟩)(V:Lib.hasPrefix s.data.toList [39]=true)(h2:2<=s.size)(d:bY 2 0 q=false)(R:Env w):
  Calls prog 76 #[.string s] w λe w'=>e=.returned (.tuple #[.agg #[.int .i64 0,.int .i64 0,.string ⟨#[]⟩],.int .i64 2])/\Below w.heap.size w w':=by
 have S:∀w:World,Calls prog 77 #[.string s,.string ⟨#[39]⟩] w λe w'=>e=.returned (.bool true)/\w=w':=λw=>by
  have:=fO s ⟨#[39]⟩ w;rwa[show Lib.hasPrefix s.data.toList [39]=true from V]at this
 have Y:=J S;clear S V;have x:=J p;clear p;have T:∀w:World,Calls prog 104 #[.agg #[.int .i64 2,.int .i64 0,.string q]] w λe w'=>e=.returned (.bool false)/\Below w.heap.size w w':=λw=>by
  have:=gd 2 (0) q w;rwa[d]at this
 have HV:=J T;clear T;clear d;have X:=J R;clear R;obtain⟨W,U,m,L⟩:=AU w 77 77 #[.int .i64 0,.int .i64 0,.string ⟨#[]⟩] #[.int .i64 0,.int .i64 0,.string ⟨#[]⟩];have HW:=J U;have N:=J L;have f:=J L.2.2;have h:=J m;clear U L m
 go_enter func76,ntmps76
 go_wp2_with fail
 rw[HW.out];refine(Y.out _).mono ?_;rintro e w1 ⟨rfl,rfl⟩
 go_wp2_with fail
 refine(i7 _ ⟨#[39,39]⟩ ⟨#[39]⟩ _ ?h1 I I (X.out.below h.out (Q3 _))).mono ?_
 case h1=>simp;omega
 rintro e w1 ⟨rfl,a⟩;rw[show Lib.replaceAll (s.extract 1 (s.size-1)).data.toList [39,39] [39]=uJ [39,39] [39] (s.extract 1 (s.size-1)).data.toList from jd _ I,<-x.out]
 go_wp2_with fail
 refine(lN _ _).mono ?_;rintro e w2 ⟨rfl,b⟩;have r:=J ((h.out.trans (a.mono (by rw[f.out];omega))).trans (b.mono (Q7 (by rw[f.out];omega) a.size)));have P:=J (IsBlk.below (IsBlk.below N.out.2.1 a (by rw[f.out];omega)) b (Rh (by rw[f.out];omega) a.size));have HR:=J (IsBlk.below (IsBlk.below N.out.1 a (by rw[f.out];omega)) b (Rh (by rw[f.out];omega) a.size));clear a b;obtain⟨y,z,A,E,F,G⟩:=P.out.three
 go_wp2_with fail
 clear y z A E F G;obtain⟨w3,Q,n,l,M,o⟩:=iG P.out (.int .i64 2) (.int .i64 0) (.string q);rw[Q];have j:=J (show IsBlk w3 w.heap.size 77 #[.int .i64 0,.int .i64 0,.string ⟨#[]⟩]from(o w.heap.size O).trans HR.out);have g:=J (r.out.trans (l.mono O));have i:=J n;clear Q n l M o;refine(HV.out _).mono ?_;rintro e w4 ⟨rfl,c⟩;have t:=J (g.out.trans (c.mono g.out.size));have u:=J (i.out.below c i.out.lt);have k:=J (j.out.below c j.out.lt);clear c;obtain⟨y,z,A,E,F,G⟩:=u.out.three;obtain⟨B,C,D,g0,g1,g2⟩:=k.out.three
 go_wp2
 clear y z A E F G B C D g0 g1 g2;obtain⟨w6,h6,K,H,a1,a0⟩:=iG k.out (.int .i64 0) (.int .i64 0) (.string ⟨#[]⟩);rw[h6];obtain⟨B,C,D,_,_,_⟩:=K.three;exact bodyPost_ret (v:=.tuple #[.agg #[.int .i64 0,.int .i64 0,.string ⟨#[]⟩],.int .i64 2]) (by simp[results,results76,go_sem,B,C,D]) Z ⟨Z,t.out.trans H⟩
def Bz(l:List UInt8)(n:Int)(h:Lib.parseIntB 64 l=.ok n): -9223372036854775808<=n/\n<=9223372036854775807:=by
 have a:(2^(64-1):Nat)=9223372036854775808:=I
 cases l with
 |nil=>simp[Lib.parseIntB]at h
 |cons c r=>
  simp only[Lib.parseIntB,a]at h;split at h
  ·cases h
  ·cases h
  split at h
  ·cases h
  split at h
  ·cases h
  injection h with h
  subst h;split<;>omega
def jf{n:Int}{a:ByteArray}(h:bY 1 n a=true):a=⟨#[]⟩:=by
 apply UQ;simp[bY]at h;simpa using h
def io{t n:Int}{a:ByteArray}(b:t≠1)(h:bY t n a=true):t=2/\n=0/\a.size<=64/\a.data.toList.all qE=true:=by
 simp[bY,b]at h;exact⟨h.1.1.1,h.1.1.2,h.1.2,by simpa using h.2⟩
def BA(s a:ByteArray)(h:s.data.toList=[39]++m0 a.data.toList++[39]):(s.extract 1 (s.size-1)).data.toList=m0 a.data.toList:=by
 have b:s.size=(m0 a.data.toList).length+2:=by
  have:=congrArg List.length h;simp at this;omega
 rw[Lib.extract_data,h,b];simp
def J0(t n:Int)(d s:ByteArray)(w:World)(k:s.size<=4294967280)(a:bY t n d=true)(f:s.data.toList=gh t n d)(h: -9223372036854775808<=n)(i:n<=9223372036854775807)(j:Env w):
  Calls prog 76 #[.string s] w λe w'=>e=.returned (.tuple #[.agg #[.int .i64 t,.int .i64 n,.string d],.int .i64 0])/\Below w.heap.size w w':=by
 by_cases l:t=1
 ·subst l;obtain rfl:=jf a;have b:s.data.toList=Lib.itoa n:=by rw[f];simp[gh,a]
  refine u5 s w k n ?_ (by rw[b];exact pV n h i) h i f j;obtain⟨c,r,e,m⟩:=mf n;exact DZ _ λq g=>m (by rw[b,e]at g;injection g)
 obtain⟨rfl,rfl,o,_⟩:=io l a;have b:s.data.toList=[39]++m0 d.data.toList++[39]:=by rw[f];simp[gh,a]
 have p:s.size=(m0 d.data.toList).length+2:=by
  have:=congrArg List.length b;simp at this;omega
 refine u6 s w k d ?_ (by rw[b];exact Ac _) O a f j;rw[BA s d b,me,mZ]
def G5(s:ByteArray)(w:World)(f:s.size<=4294967280)(h:∀(t n:Int) (a:ByteArray),bY t n a=true-> -9223372036854775808<=n->n<=9223372036854775807->s.data.toList≠gh t n a)(b:Env w):
  Calls prog 76 #[.string s] w λe w'=>e=.returned (.tuple #[.agg #[.int .i64 0,.int .i64 0,.string ⟨#[]⟩],.int .i64 2])/\Below w.heap.size w w':=by
 cases d:Lib.hasPrefix s.data.toList [39]
 ·by_cases c:∃n,Lib.parseIntB 64 s.data.toList=.ok n
  ·obtain⟨n,c⟩:=c;obtain⟨k,l⟩:=Bz _ _ c;exact tQ s w f n d c k l (h 1 n ⟨#[]⟩ (by simp[bY]) k l) b
  exact Bw s w f d (λv i=>c ⟨v,i⟩) b
 rcases RE s.size 2 with j|j
 ·exact Bx s w f d j b
 obtain⟨a,g⟩:∃a:ByteArray,a=⟨(uJ [39,39] [39] (s.extract 1 (s.size-1)).data.toList).toArray⟩:=⟨_,Z⟩;cases i:bY 2 0 a
 ·exact xA s w f a g d j i b
 exact tR s w f a g d j i (h 2 0 a i O O) b
def MF{t n j g:Int}{i d:ByteArray}(f:bY t n i=true)(a:bY j g d=true)(p: -9223372036854775808<=n)(q:n<=9223372036854775807)(k: -9223372036854775808<=g)(l:g<=9223372036854775807)
  (h:gh t n i=gh j g d):t=j/\n=g/\i=d:=by
 by_cases o:t=1
 ·subst o;obtain rfl:=jf f;by_cases b:j=1
  ·subst b;obtain rfl:=jf a;exact⟨Z,Jz p q k l (by simpa[gh,f,a]using h),Z⟩
  obtain⟨rfl,rfl,_,_⟩:=io b a;obtain⟨c,r,e,m⟩:=mf n;simp[gh,f,a,e]at h;exact absurd h.1 m
 obtain⟨rfl,rfl,_,_⟩:=io o f;by_cases b:j=1
 ·subst b;obtain rfl:=jf a;obtain⟨c,r,e,m⟩:=mf g;simp[gh,f,a,e]at h;exact absurd h.1.symm m
 obtain⟨rfl,rfl,_,_⟩:=io b a;refine⟨Z,Z,?_⟩;have:m0 i.data.toList=m0 d.data.toList:=by simpa[gh,f,a]using h
 have:=Mo this;rw[<-mZ i,<-mZ d,this]
def D0(f:FuncId):Prop:=∃fn,prog.funcs[f]? =some fn/\(fn.name== "runtime.NumGoroutine")=false/\fn.body.isNone=false
def PT.uncons{W:World}{G:Nat->Prop}{vs:List Value}{t:Tree}{ts:List Tree}(h:PT W G vs (t::ts)):∃v us,vs=v::us/\PT W G [v] [t]/\PT W G us ts:=by
 cases vs with
 |nil=>cases h
 |cons v us=>exact⟨v,us,Z,h.head,h.tail⟩
def eC{W:World}{G:Nat->Prop}{vs:List Value}{t:Tree}(h:PT W G vs [t]):∃v,vs=[v]/\PT W G [v] [t]:=by
 obtain⟨v,us,rfl,a,b⟩:=h.uncons;cases b;exact⟨v,Z,a⟩
def dE{W:World}{G:Nat->Prop}{vs:List Value}{t u:Tree}(h:PT W G vs [t,u]):∃v x,vs=[v,x]/\PT W G [v] [t]/\PT W G [x] [u]:=by
 obtain⟨v,us,rfl,a,b⟩:=h.uncons;obtain⟨x,rfl,c⟩:=eC b;exact⟨v,x,Z,a,c⟩
def qN{W:World}{G:Nat->Prop}{vs:List Value}{t u r:Tree}(h:PT W G vs [t,u,r]):∃v x y,vs=[v,x,y]/\PT W G [v] [t]/\PT W G [x] [u]/\PT W G [y] [r]:=by
 obtain⟨v,us,rfl,a,b⟩:=h.uncons;obtain⟨x,y,rfl,c,d⟩:=dE b;exact⟨v,x,y,Z,a,c,d⟩
def oY{α:Type}(f:α->Tree)(h:∀a,(f a).cells=[f a]):∀l:List α,flat (l.map f)=l.map f
 |[]=>rfl
 |a::l=>by rw[Sb,fm,h a,oY f h l];rfl
def pX{W:World}{G:Nat->Prop}:∀{l:List Nat} {xs:List Value},PT W G xs (l.map λd=>.sc (.int .u32 (d:Nat)))->xs=cT l
 |[],xs,h=>by cases h;rfl
 |_::l,xs,h=>by
  cases h with
  |sc v h=>rw[pX h];rfl
def FO(W:World)(G:Nat->Prop):∀l:List Nat,PT W G (cT l) (l.map λd=>.sc (.int .u32 (d:Nat)))
 |[]=>.nil
 |_::l=>.sc _ (FO W G l)
def ek{W:World}{G:Nat->Prop}{v:Value}{n:Nat}(h:PT W G [v] [aY n]):IsD W v n:=by
 obtain⟨A,c,g,i,k,l,d⟩:=PT.slice h;rw[Rn]at g i d;refine⟨A,c,g,λp=>?_,λe=>⟨?_,l e⟩,i,k,ck n⟩
 ·obtain⟨b,off,xs,rfl,m,_,o,j⟩:=d (by simpa[cT]using p);rw[oY _ (λ_=>rfl)]at j;rw[<-pX j];exact⟨b,off,Z,m,o⟩
 rcases RV (aD n).length with a|a
 ·exact a
 obtain⟨b,off,xs,f,_⟩:=d a;rw[e]at f;cases f
def OkG(G:Nat->Prop)(W:World):Prop:=∀g,G g->g<W.heap.size/\NoDigB W g
def OkG.later{G:Nat->Prop}{W W':World}(h:OkG G W)(b:Below W.heap.size W W'):OkG G W':=λg a=>⟨Rh (h g a).1 b.size,(h g a).2.of (b.block g (h g a).1)⟩
def fe{W:World}{G:Nat->Prop}{v:Value}{n:Nat}(l:OkG G W)(h:IsD W v n):PT W G [v] [aY n]:=by
 obtain⟨A,c,rfl,a⟩:=h;unfold aY;by_cases k:(aD n).length=0
 ·have e:aD n=[]:=Rj k;rw[e];exact .sl0 A c (λe=>(a.nil e).2) a.max .nil
 obtain⟨b,off,rfl,m,f⟩:=a.digit (i:=0) O;refine .sl b off c _ (cT (aD n)) _ m (λp=>?_) (λj u g=>?_) F (by simpa using a.cap) a.max ?_ .nil
 ·have:=(l b p).2 _ _ (f 0 O);simp[bR]at this
 ·simp only[cT,RK,R9]at g;obtain⟨d,o,rfl⟩:=g;obtain⟨q,rfl⟩:=Q6.1 o;exact f j q
 rw[oY _ (λ_=>rfl)];exact FO W G _
def OB{W:World}{G:Nat->Prop}{v:Value}{ng:Bool}{N D:Nat}(h:PT W G [v] [iC ng N D]):Q0 W v ng N D:=by
 cases h with
 |agg xs cs hx _=>
  obtain⟨a,b,c,rfl,d,e,f⟩:=qN hx;cases d;exact⟨b,c,Z,ek e,ek f⟩
def OC{W:World}{G:Nat->Prop}{v:Value}{ng:Bool}{N D:Nat}(a:OkG G W)(h:Q0 W v ng N D):PT W G [v] [iC ng N D]:=by
 obtain⟨e,d,rfl,b,c⟩:=h;exact .agg [.bool ng,e,d] _ (.sc _ ((fe a b).cons ((fe a c).cons .nil))) .nil
def u7{W:World}{G:Nat->Prop}:∀{l:List V} {xs:List Value},PT W G xs (flat (l.map V.tree))->xs=ep l
 |[],xs,h=>by cases h;rfl
 |v::l,xs,h=>by
  cases h with
  |sc a h=>
   cases h with
   |sc b h=>
    cases h with
    |sc c h=>rw[u7 (l:=l) h];rfl
def qO{W:World}{G:Nat->Prop}{v:Value}{l:List V}(h:PT W G [v] [.sl (l.map V.tree)]):∃A c,v=.slice A l.length c/\At W W.heap.size A (ep l)/\(A=none->l.length=0/\c=0):=by
 obtain⟨A,c,g,i,p,j,d⟩:=PT.slice h;rw[Rn]at g i d;refine⟨A,c,g,λn=>?_,λe=>⟨?_,j e⟩⟩
 ·obtain⟨b,off,xs,rfl,k,_,m,o⟩:=d (by rw[jL]at n;omega);rw[<-u7 o];exact⟨b,off,Z,k,m⟩
 rcases RV l.length with a|a
 ·exact a
 obtain⟨b,off,xs,f,_⟩:=d a;rw[e]at f;cases f
def D3{W:World}{G:Nat->Prop}{u:Value}{v:V}(h:PT W G [u] [v.tree]):u=.agg #[.int .i64 v.t,.int .i64 v.n,.string v.s]:=by
 cases h with
 |agg xs cs hx _=>
  obtain⟨a,b,c,rfl,d,e,f⟩:=qN hx;cases d;cases e;cases f;rfl
def Ct.sc{f:FuncId}{args:List Tree}{r:Value}(g:D0 f)(h:∀(G:Nat->Prop) (w:World) (vs:List Value),Env w->OkG G w->PT w G vs args->Calls prog f vs.toArray w λe w'=>e=.returned r/\Below w.heap.size w w'):Ct f args (.sc r):=
 ⟨g,λG w vs c d i=>(h G w vs c d i).mono λ_ _ ⟨a,b⟩=>⟨r,a,.sc _ .nil,b⟩⟩
def J1{f:FuncId}{args:List Tree}{r:Value}(g:D0 f)(h:∀(G:Nat->Prop) (w:World) (vs:List Value),Env w->OkG G w->PT w G vs args->Calls prog f vs.toArray w (iB (λ_ v=>v=r) w)):Ct f args (.sc r):=
 ⟨g,λG w vs d e i=>(h G w vs d e i).mono λ_ _ ⟨v,a,b,c⟩=>⟨v,a,by rw[b];exact .sc _ .nil,c⟩⟩
def fy{f:FuncId}{args:List Tree}{r:Tree}{K:World->Value->Prop}(i:D0 f)(g:∀(G:Nat->Prop) (W:World) (v:Value),OkG G W->K W v->PT W G [v] [r])(h:∀(G:Nat->Prop) (w:World) (vs:List Value),Env w->OkG G w->PT w G vs args->Calls prog f vs.toArray w (iB K w)):Ct f args r:=
 ⟨i,λG w vs e b j=>(h G w vs e b j).mono λ_ w' ⟨v,c,d,a⟩=>⟨v,c,g G w' v (OkG.later b a) d,a⟩⟩
def BB(v:V):Ct 104 [v.tree] (bT v.ok):=Ct.sc ⟨_,func104,Z,Z⟩ λG w vs _ _ a=>by
 obtain⟨u,rfl,h⟩:=eC a;rw[D3 h];exact gd v.t v.n v.s w
def ku(l m:List V)(g:l.length<=65536)(h:m.length<=65536):Ct 64 [.sl (l.map V.tree),.sl (m.map V.tree)] (iT (bw l m)):=Ct.sc ⟨_,func64,Z,Z⟩ λG w vs _ _ i=>by
 obtain⟨u,x,rfl,e,f⟩:=dE i;obtain⟨A,c,rfl,a,_⟩:=qO e;obtain⟨B,d,rfl,b,_⟩:=qO f;exact DI A B c d l m w a b g h
def pY(n:Nat)(b:(aD n).length<=1048576):Ct 129 [aY n] (iT (cR n)):=J1 ⟨_,func129,Z,Z⟩ λG w vs _ _ a=>by
 obtain⟨u,rfl,h⟩:=eC a;exact Mw (ek h) O
def kw(n:Nat)(a:(aD n).length<=262144):Ct 129 [aY n] (iT (cR n)):=pY n O
def lF(M N:Nat)(d:(aD M).length<=1048576)(e:(aD N).length<=1048576):Ct 152 [aY M,aY N] (aY (M*N)):=fy ⟨_,func152,Z,Z⟩ (λ_ _ _ c h=>fe c h) λG w vs _ _ f=>by
 obtain⟨u,x,rfl,a,b⟩:=dE f;exact QH (ek a) (ek b) d e
def FP(M N:Nat)(c:(aD M).length<=1073741823)(d:(aD N).length<=1073741823):Ct 151 [aY M,aY N] (iT (fE M N)):=J1 ⟨_,func151,Z,Z⟩ λG w vs _ _ e=>by
 obtain⟨u,x,rfl,a,b⟩:=dE e;exact JK (ek a) (ek b) c d
def jg(n:Nat)(b:n<18446744073709551616):Ct 149 [.sc (.int .u64 (n:Nat))] (aY n):=fy ⟨_,func149,Z,Z⟩ (λ_ _ _ a h=>fe a h) λG w vs _ _ c=>by
 obtain⟨u,rfl,h⟩:=eC c;cases h;exact sx n w b
