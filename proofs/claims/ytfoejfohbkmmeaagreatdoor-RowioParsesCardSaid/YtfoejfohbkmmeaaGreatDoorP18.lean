import Derived.Test.YtfoejfohbkmmeaaGreatDoorP17
import Derived.Test.YtfoejfohbkmmeaaGreatDoorP02
import Derived.Test.YtfoejfohbkmmeaaGreatDoorP00
import Derived.Test.YtfoejfohbkmmeaaGreatDoorP08
import Derived.Test.YtfoejfohbkmmeaaGreatDoorP15
import Derived.Test.YtfoejfohbkmmeaaGreatDoorP06
import Derived.Test.YtfoejfohbkmmeaaGreatDoorP13
import Derived.Test.YtfoejfohbkmmeaaGreatDoorP01
set_option maxRecDepth 100000
set_option maxHeartbeats 4000000
namespace Go.Proofs.YtfoejfohbkmmeaaGreatDoor
open Go.RowKit
open Lib renaming hid→J
def LY(W:World)(v:Value)(ng:Bool)(N D:Nat):Prop:=∃vn vd,v=.agg #[.bool ng,vn,vd]/\IsD W vn N/\IsD W vd D
def dH(ng:Bool)(N D:Nat):Rat:=mkRat (if ng then-(N:Int)else(N:Int)) D
theorem mx(ng:Bool)(D:Nat):dH ng 0 D=0:=by cases ng<;>simp[dH]
theorem xZ(ng:Bool)(N:Nat):dH ng N 0=0:=by simp[dH]
theorem ei(q:Rat):dH (decide (q.num<0)) q.num.natAbs q.den=q:=by
 unfold dH;have:(if decide (q.num<0)=true then-(q.num.natAbs:Int)else(q.num.natAbs:Int))=q.num:=by
  by_cases h:q.num<0
  ·simp only[h,decide_true,if_true];omega
  simp only[h,decide_false];simp;omega
 rw[this];exact Rat.mkRat_self q
theorem qg(ng:Bool){N D:Nat}(n:0<N)(o:0<D):decide ((dH ng N D).num<0)=ng/\(dH ng N D).num.natAbs=N/Nat.gcd N D/\(dH ng N D).den=D/Nat.gcd N D:=by
 have f:D≠0:=by omega
 have d:=Rat.num_mkRat (if ng then-(N:Int)else(N:Int)) D;have e:=Rat.den_mkRat (if ng then-(N:Int)else(N:Int)) D;rw[if_neg f]at d e;have j:(if ng then-(N:Int)else(N:Int)).natAbs=N:=by cases ng<;>simp
 rw[j,Ot]at d e;have c:0<Nat.gcd N D:=Pf _ n;obtain⟨m,b⟩:=Nat.gcd_dvd_left N D;obtain⟨g,l⟩:∃g,Nat.gcd N D=g:=⟨_,rfl⟩;rw[l]at d e c b⊢;have k:0<m:=by
  rcases M1 m with h|h
  ·rw[h]at b;simp at b;omega
  exact h
 have a:N/g=m:=by rw[b,Pe _ c]
 have i:(dH ng N D).num=if ng then-(m:Int)else(m:Int):=by
  unfold dH;rw[d];cases ng
  ·simp only[N2,if_false];rw[<-Int.natCast_ediv,a]
  simp only[if_true];rw[b,O4,Int.neg_mul_eq_mul_neg,Int.mul_ediv_cancel_left _ (by omega)]
 refine⟨?_,?_,e⟩
 ·rw[i];cases ng<;>simp<;>omega
 rw[i,a];cases ng<;>simp
theorem Dx:∀{n:Nat},n≠0->(ax n).getD ((ax n).length-1) 0≠0:=by
 intro n;induction n using Nat.strongRecOn with
 |ind n ih=>
  intro h;rw[fg h];by_cases b:n/4294967296=0
  ·rw[b,gX];simp;omega
  have:=ih (n/4294967296) (by omega) b;have c:0<(ax (n/4294967296)).length:=by
   rcases M1 (ax (n/4294967296)).length with a|a
   ·exact absurd (bR.1 a) b
   exact a
  rw[L9,show(ax (n/4294967296)).length+1-1=(ax (n/4294967296)).length-1+1 by omega];simpa[List.getD]using this
theorem jW{n:Nat}:cM n=0↔n=0:=by
 constructor
 ·intro h;rcases M1 n with a|a
  ·exact a
  exfalso;unfold cM at h;rw[if_neg (by omega)]at h;have f:=Dx (n:=n) (by omega);have c:(ax n).getD ((ax n).length-1) 0<2^64:=by
   rw[List.getD];cases b:(ax n)[(ax n).length-1]? with
   |none=>simp
   |some d=>
    have:=bZ n d (L7 b);simp;have e:(2:Nat)^64=18446744073709551616:=by decide
    omega
  have:=Ag (d:=(ax n).getD ((ax n).length-1) 0) (by omega) c;omega
 rintro rfl;rfl
structure Fit (L:Nat) (q:Rat):Prop where
 num:(ax q.num.natAbs).length<=L
 den:(ax q.den).length<=L
def x5(c:UInt8):Bool:=(decide (65<=c.toNat)&&decide (c.toNat<=90))||(decide (97<=c.toNat)&&decide (c.toNat<=122))
def x6(c:UInt8):Bool:=(decide (48<=c.toNat)&&decide (c.toNat<=57))||decide (c.toNat=95)
def x7(j:Nat)(c:UInt8):Bool:=x5 c||(decide (j≠0)&&x6 c)
def gw(s:ByteArray):Bool:=decide (1<=s.size)&&decide (s.size<=24)&&(List.range s.size).all fun j=>x7 j (s.data.toList.getD j 0)
theorem uD{s:ByteArray}{i:Nat}{c:UInt8}(h:s.data.toList[i]? =some c)(b:i<s.size)(a:x7 i c=false):gw s=false:=by
 unfold gw;rw[Nu];right;rw[PM];exact⟨i,N6.2 b,by rw[Mk,h,MG,a];exact MF⟩
structure Col where
 name:ByteArray
 ty:Int
 key:Bool
structure Sch where
 name:ByteArray
 cert:Bool
 cols:List Col
structure Tp where
 vals:List V
 prob:Rat
structure Rel where
 sch:Sch
 tups:List Tp
def V.tree(v:V):Tree:=.agg [.sc (.int .i64 v.t),.sc (.int .i64 v.n),.sc (.string v.s)]
def Col.tree(c:Col):Tree:=.agg [.sc (.string c.name),.sc (.int .i64 c.ty),.sc (.bool c.key)]
def Sch.tree(s:Sch):Tree:=.agg [.sc (.string s.name),.sc (.bool s.cert),.sl (s.cols.map Col.tree)]
def aH(n:Nat):Tree:=.sl ((ax n).map fun d=>.sc (.int .u32 (d:Nat)))
def jX(ng:Bool)(N D:Nat):Tree:=.agg [.sc (.bool ng),aH N,aH D]
def dt(q:Rat):Tree:=jX (decide (q.num<0)) q.num.natAbs q.den
def Tp.tree(t:Tp):Tree:=.agg [.sl (t.vals.map V.tree),.sc (.bool (decide (t.prob.num<0))),aH t.prob.num.natAbs,aH t.prob.den]
def Rel.tree(r:Rel):Tree:=.agg [.sc (.string r.sch.name),.sc (.bool r.sch.cert),.sl (r.sch.cols.map Col.tree),.sl (r.tups.map Tp.tree)]
theorem ie(l:List V):Sized 3 (l.map V.tree):=Sized.map _ l fun _=>rfl
theorem eC(l:List Col):Sized 3 (l.map Col.tree):=Sized.map _ l fun _=>rfl
theorem bS(l:List Tp):Sized 4 (l.map Tp.tree):=Sized.map _ l fun _=>rfl
theorem aS{α:Type}{f:α->Tree}{l:List α}{i:Nat}{a:α}(h:l[i]? =some a):(l.map f)[i]? =some (f a):=by rw[MN,h];rfl
def fF(i:Nat):Tree:=.sc (.int .i64 (i:Nat))
theorem qN(l:List Nat):Sized 1 (l.map fF):=Sized.map _ l fun _=>rfl
def nZ(cert:Bool)(c:Col):Bool:=((!gw c.name)||((c.ty !=1)&&(c.ty !=2)))||(cert&&c.key)
def ig(cert:Bool)(pre:List Col):List Col->Bool
 |[]=>false
 |c::l=>nZ cert c||pre.any (fun d=>d.name.toList==c.name.toList)||ig cert (pre++[c]) l
def m8(s:Sch):Bool:=((!gw s.name)||decide (s.cols.length<1))||decide (6<s.cols.length)
def fv(s:Sch):Bool:= !(m8 s||ig s.cert [] s.cols)
def dZ:List Col->List V->List V
 |c::cs,v::vs=>if c.key then v::dZ cs vs else dZ cs vs
 |_,_=>[]
def aG(s:Sch)(vs:List V):List V:=if vs.length=s.cols.length then dZ s.cols vs else []
def iv(vs:List V):List Tp->Nat->Option Nat
 |[],_=>none
 |t::ts,i=>if aX t.vals vs=0 then some i else iv vs ts (i+1)
def bX(s:Sch)(key:List V):List Tp->Nat->List Nat
 |[],_=>[]
 |t::ts,i=>if aX (aG s t.vals) key=0 then i::bX s key ts (i+1)else bX s key ts (i+1)
def ii(ts:List Tp)(i:Nat):Rat:=((ts[i]?).map (·.prob)).getD 0
def ef(ts:List Tp)(l:List Nat):Rat:=l.foldl (fun q i=>q+ii ts i) 0
theorem uE{ts:List Tp}{l:List Nat}{j i:Nat}{t:Tp}(c:l[j]? =some i)(b:ts[i]? =some t):ef ts (l.take (j+1))=ef ts (l.take j)+t.prob:=by
 obtain⟨a,rfl⟩:=L6.1 c;unfold ef;rw[Mx a,OS];simp only[NG,Pc,ii,b,Nq,MG]
def eZ(r:Rel)(vs:List V):List Nat:=if aG r.sch vs=[]then []else bX r.sch (aG r.sch vs) r.tups 0
def aV(r:Rel):List Tree:=[.sc (.string r.sch.name),.sc (.bool r.sch.cert),.sl (r.sch.cols.map Col.tree),.sl (r.tups.map Tp.tree)]
def bV(t:Tp):List Tree:=[.sl (t.vals.map V.tree),.sc (.bool (decide (t.prob.num<0))),aH t.prob.num.natAbs,aH t.prob.den]
def bf(q:Rat):List Tree:=[.sc (.bool (decide (q.num<0))),aH q.num.natAbs,aH q.den]
def dj(s:Sch):List Tree:=[.sc (.string s.name),.sc (.bool s.cert),.sl (s.cols.map Col.tree)]
def eD:List Tree:=[.sc (.string (⟨#[]⟩)),.sc (.bool false),.sl [],.sl []]
theorem aJ:Tryz.prog.underlying 9=some .string:=by kernel_rfl
theorem o6(s:ByteArray):Ct 73 [sT s] (bT (gw s)):=by
 refine Ct.of (n:=58) Tryz.func73 Z Z Z Z Z fun w0 G0=>?_
 refine ab<|aj 1 Z<|ab<|ab<|ae<|aa 1 Z<|af (t:=nI s.size) Z Z Z (cW Z aJ Z)<|af (t:=bT (decide (s.size<1))) Z Z Z (ah (ai Z Z Z Zy) (ar (gA s.size 1)))<|aa 1 Z<|aq (t:=sT s) Z Z Z Z (fun b=>au Z Z)<|aq (t:=nI s.size) Z Z Z Z (fun b=>cW Z aJ (if_pos b))<|aq (t:=bT (decide (24<s.size))) Z Z Z Z (fun b=>ah (ai Z (if_pos b) Z (fun _=>rfl)) (ar (oF s.size 24)))<|af (t:=bT ((decide (s.size<1))||(decide (24<s.size)))) Z Z Z (aK Z Z (fun a=>(ar (by rw[a];rfl))) (fun a=>(if_pos a).trans (ar (by rw[a];rfl))))<|ag<|aF Z (fun d=>?_) (fun d=>?_)
 ·refine ab<|aj 1 rfl<|aw<|⟨.inr rfl,_,.cons rfl .nil,ar (by unfold gw;simp only[MP,decide_eq_true_eq]at d;rw[eq_comm,Nu,Nu];left;rcases d with h|h;exact .inl (decide_eq_false (by omega));exact .inr (decide_eq_false (by omega))),rfl⟩
 refine am<|ab<|ab<|aj 1 Z<|aB<|aR (fun m o=>∃(i:Nat),(i<=s.size/\∀j,j<i->x7 j (s.data.toList.getD j 0)=true)/\m=s.size-i/\o=⟨58,[(0,sT s),(3,nI i)],[],[]⟩) 0 0 ⟨0,⟨by omega,fun j l=>by omega⟩,Z,Z⟩ .rf ?_;rintro m o ⟨i,⟨u,e⟩,rfl,rfl⟩;have r:s.size<=24:=by simp only[Mo,decide_eq_false_iff_not]at d;omega
 refine ab<|ab<|ae<|aa 2 Z<|af (t:=nI s.size) Z Z Z (cW Z aJ Z)<|af (t:=bT (decide (i<s.size))) Z Z Z (ah (ai Z Z Z Zy) (ar (gA i s.size)))<|ag<|aD Z (fun k=>?_) (fun k=>?_)
 ·obtain⟨c,g⟩:∃c,s.data.toList[i]? =some c:=⟨_,L3 (by simpa using k)⟩;refine am<|ab<|aB<|ab<|ae<|aa 2 Z<|af (t:=.sc (.int .u8 ((c.toNat:Nat):Int))) Z Z Z (ce Z aJ Z Z Z g)<|aa 1 Z<|ag<|ab<|ae<|aa 1 Z<|af (t:=bT (decide (65<=c.toNat))) Z Z Z (ah (ai Z Z Z Zy) (ar (Ez 65 c.toNat)))<|aa 1 Z<|aq (t:=.sc (.int .u8 ((c.toNat:Nat):Int))) Z Z Z Z (fun b=>au Z Z)<|aq (t:=bT (decide (c.toNat<=90))) Z Z Z Z (fun b=>ah (ai Z (if_pos b) Z (fun _=>rfl)) (ar (Ez c.toNat 90)))<|af (t:=bT ((decide (65<=c.toNat))&&(decide (c.toNat<=90)))) Z Z Z (aK Z Z (fun a=>(if_pos a).trans (ar (by rw[a];rfl))) (fun a=>(ar (by rw[a];rfl))))<|aa 1 Z<|aq (t:=.sc (.int .u8 ((c.toNat:Nat):Int))) Z Z Z Z (fun b=>au Z Z)<|aq (t:=bT (decide (97<=c.toNat))) Z Z Z Z (fun b=>ah (ai Z Z (if_pos b) (fun _=>rfl)) (ar (Ez 97 c.toNat)))<|aq (t:=bT (decide (97<=c.toNat))) Z Z Z Z (fun b=>au Z (if_pos b))<|bY (t:=.sc (.int .u8 ((c.toNat:Nat):Int))) Z Z Z Z (fun b=>au Z Z)<|bY (t:=bT (decide (c.toNat<=122))) Z Z Z Z (fun b=>ah (ai Z (if_pos b) Z (fun _=>rfl)) (ar (Ez c.toNat 122)))<|aq (t:=bT ((decide (97<=c.toNat))&&(decide (c.toNat<=122)))) Z Z Z Z (fun b=>aK Z (if_pos b) (fun a=>(if_pos ⟨b,a⟩).trans (ar (by rw[a];rfl))) (fun a=>(ar (by rw[a];rfl))))<|af (t:=bT (((decide (65<=c.toNat))&&(decide (c.toNat<=90)))||((decide (97<=c.toNat))&&(decide (c.toNat<=122))))) Z Z Z (aK Z Z (fun a=>(ar (by rw[a];rfl))) (fun a=>(if_pos a).trans (ar (by rw[a];rfl))))<|aa 1 Z<|ag<|ab<|ae<|aa 1 Z<|af (t:=bT (decide (48<=c.toNat))) Z Z Z (ah (ai Z Z Z Zy) (ar (Ez 48 c.toNat)))<|aa 1 Z<|aq (t:=.sc (.int .u8 ((c.toNat:Nat):Int))) Z Z Z Z (fun b=>au Z Z)<|aq (t:=bT (decide (c.toNat<=57))) Z Z Z Z (fun b=>ah (ai Z (if_pos b) Z (fun _=>rfl)) (ar (Ez c.toNat 57)))<|af (t:=bT ((decide (48<=c.toNat))&&(decide (c.toNat<=57)))) Z Z Z (aK Z Z (fun a=>(if_pos a).trans (ar (by rw[a];rfl))) (fun a=>(ar (by rw[a];rfl))))<|aa 1 Z<|aq (t:=.sc (.int .u8 ((c.toNat:Nat):Int))) Z Z Z Z (fun b=>au Z Z)<|aq (t:=bT (decide (c.toNat=95))) Z Z Z Z (fun b=>ah (ai Z (if_pos b) Z (fun _=>rfl)) (ar (jF c.toNat 95)))<|af (t:=bT (((decide (48<=c.toNat))&&(decide (c.toNat<=57)))||(decide (c.toNat=95)))) Z Z Z (aK Z Z (fun a=>(ar (by rw[a];rfl))) (fun a=>(if_pos a).trans (ar (by rw[a];rfl))))<|aa 1 Z<|ag<|ab<|ae<|aa 1 Z<|af (t:=bT (!(((decide (65<=c.toNat))&&(decide (c.toNat<=90)))||((decide (97<=c.toNat))&&(decide (c.toNat<=122)))))) Z Z Z (dm Z Z Zy)<|aa 1 Z<|aq (t:=nI i) Z Z Z Z (fun b=>au Z Z)<|aq (t:=bT (decide (i=0))) Z Z Z Z (fun b=>ah (ai Z (if_pos b) Z (fun _=>rfl)) (ar (jF i 0)))<|aq (t:=bT (decide (i=0))) Z Z Z Z (fun b=>au Z (if_pos b))<|bY (t:=bT (((decide (48<=c.toNat))&&(decide (c.toNat<=57)))||(decide (c.toNat=95)))) Z Z Z Z (fun b=>au Z Z)<|bY (t:=bT (!(((decide (48<=c.toNat))&&(decide (c.toNat<=57)))||(decide (c.toNat=95))))) Z Z Z Z (fun b=>dm Z (if_pos b) (fun _=>rfl))<|aq (t:=bT ((decide (i=0))||(!(((decide (48<=c.toNat))&&(decide (c.toNat<=57)))||(decide (c.toNat=95)))))) Z Z Z Z (fun b=>aK Z (if_pos b) (fun a=>(ar (by rw[a];rfl))) (fun a=>(if_pos ⟨b,a⟩).trans (ar (by rw[a];rfl))))<|af (t:=bT ((!(((decide (65<=c.toNat))&&(decide (c.toNat<=90)))||((decide (97<=c.toNat))&&(decide (c.toNat<=122)))))&&((decide (i=0))||(!(((decide (48<=c.toNat))&&(decide (c.toNat<=57)))||(decide (c.toNat=95))))))) Z Z Z (aK Z Z (fun a=>(if_pos a).trans (ar (by rw[a];rfl))) (fun a=>(ar (by rw[a];rfl))))<|ag<|aF Z (fun f=>?_) (fun f=>?_)
  ·refine ab<|aj 1 Z<|aw<|⟨.inr Z,_,.cons Z .nil,ar (uD g k (by unfold x7 x5 x6;revert f;generalize (decide (65<=c.toNat)&&decide (c.toNat<=90)||decide (97<=c.toNat)&&decide (c.toNat<=122))=p;generalize (decide (48<=c.toNat)&&decide (c.toNat<=57)||decide (c.toNat=95))=q;rw[decide_not];generalize decide (i=0)=z;cases p<;>cases q<;>cases z<;>simp)).symm,Z⟩
  refine am<|ae<|aa 1 Z<|af (t:=nI (i+1)) Z Z Z (ah (ai Z Z Z Zy) (bi (by omega)))<|aa 1 Z<|ag<|⟨_,_,?_,⟨i+1,?_,Z,Z⟩,.rf⟩
  ·omega
  refine⟨by omega,fun j l=>?_⟩;rcases MA j i with h|h
  ·exact e j h
  obtain rfl:j=i:=by omega
  rw[Mk,g,MG];unfold x7 x5 x6;revert f;generalize (decide (65<=c.toNat)&&decide (c.toNat<=90)||decide (97<=c.toNat)&&decide (c.toNat<=122))=p;generalize (decide (48<=c.toNat)&&decide (c.toNat<=57)||decide (c.toNat=95))=q;rw[decide_not];generalize decide (j=0)=z;cases p<;>cases q<;>cases z<;>simp
 refine aT<|ab<|aj 1 Z<|aw<|⟨.inr Z,_,.cons Z .nil,ar (by unfold gw;rw[eq_comm,L8,L8];simp only[Mo,decide_eq_false_iff_not]at d;exact⟨⟨decide_eq_true (by omega),decide_eq_true (by omega)⟩,Mh.2 fun j l=>e j (by have:=N6.1 l;omega)⟩),Z⟩
def cY(t n:Int)(s:ByteArray):List UInt8:=
 if bF t n s then(if t=1 then Lib.itoa n else [39]++gB s.data.toList++[39])else []
theorem Av(t n:Int)(s:ByteArray)(w:World)(h:bF t n s=false):
  Calls Tryz.prog 46 #[.agg #[.int .i64 t,.int .i64 n,.string s]] w fun e w'=>e=.returned (.string ⟨(cY t n s).toArray⟩)/\Below w.heap.size w w':=by
 have b:=J (show cY t n s=[] by simp[cY,h]);have a:∀w:World,Calls Tryz.prog 104 #[.agg #[.int .i64 t,.int .i64 n,.string s]] w fun e w'=>e=.returned (.bool false)/\Below w.heap.size w w':=fun w=>by
  have:=gn t n s w;rwa[h]at this
 have d:=J a;clear a h
 go_enter Tryz.func46,Tryz.ntmps46
 go_wp2_with (go_at_call 104;refine(d.out _).mono ?_;rintro e w' ⟨rfl,c⟩)
 go_ret
 exact⟨by rw[b.out];rfl,((Below.refl _ _).alloc (L4 _) _).trans (c.mono (by simp))⟩
theorem Aw(n:Int)(s:ByteArray)(w:World)(h:bF 1 n s=true)(m: -9223372036854775808<=n)(k:n<=9223372036854775807)(j:Env w):
  Calls Tryz.prog 46 #[.agg #[.int .i64 1,.int .i64 n,.string s]] w fun e w'=>e=.returned (.string ⟨(cY 1 n s).toArray⟩)/\Below w.heap.size w w':=by
 have l:=J (show cY 1 n s=Lib.itoa n by simp[cY,h]);have i:∀w:World,Calls Tryz.prog 104 #[.agg #[.int .i64 1,.int .i64 n,.string s]] w fun e w'=>e=.returned (.bool true)/\Below w.heap.size w w':=fun w=>by
  have:=gn 1 n s w;rwa[h]at this
 have q:=J i;clear i h;have t:=J j;clear j;obtain⟨W,g,u,f,x,r,B⟩:=KB w 77 (.int .i64 1) (.int .i64 n) (.string s);have o:=J g;clear g;have d:=J f;clear f
 go_enter Tryz.func46,Tryz.ntmps46
 go_wp2_with fail
 rw[o.out];refine(q.out _).mono ?_;rintro e v ⟨rfl,b⟩;have z:=(b.cell (p:=⟨w.heap.size,0,none⟩) (by simp[d.out])).trans x;have A:=(b.cell (p:=⟨w.heap.size,1,none⟩) (by simp[d.out])).trans r;have a:Below w.heap.size w v:=u.trans (b.mono (by rw[d.out];omega))
 go_wp2_with fail
 refine(tX n _ m k (t.out.below a (L4 _))).mono ?_;rintro e y ⟨rfl,c⟩
 go_wp2
 go_ret
 exact⟨by rw[l.out];rfl,a.trans (c.mono a.size)⟩
theorem Az(n:Int)(s:ByteArray)(w:World)(h:bF 2 n s=true)(j:Env w):
  Calls Tryz.prog 46 #[.agg #[.int .i64 2,.int .i64 n,.string s]] w fun e w'=>e=.returned (.string ⟨(cY 2 n s).toArray⟩)/\Below w.heap.size w w':=by
 have l:=J (show cY 2 n s=[39]++gB s.data.toList++[39] by simp[cY,h]);have C:s.size<=64:=by simp[bF]at h;omega
 have i:∀w:World,Calls Tryz.prog 104 #[.agg #[.int .i64 2,.int .i64 n,.string s]] w fun e w'=>e=.returned (.bool true)/\Below w.heap.size w w':=fun w=>by
  have:=gn 2 n s w;rwa[h]at this
 have o:=J i;clear i h;have q:=J j;clear j;obtain⟨W,g,t,f,v,B,r⟩:=KB w 77 (.int .i64 2) (.int .i64 n) (.string s);have m:=J g;clear g;have d:=J f;clear f
 go_enter Tryz.func46,Tryz.ntmps46
 go_wp2_with fail
 rw[m.out];refine(o.out _).mono ?_;rintro e u ⟨rfl,b⟩;have A:=(b.cell (p:=⟨w.heap.size,0,none⟩) (by simp[d.out])).trans v;have y:=(b.cell (p:=⟨w.heap.size,2,none⟩) (by simp[d.out])).trans r;have a:Below w.heap.size w u:=t.trans (b.mono (by rw[d.out];omega))
 go_wp2_with fail
 refine(g7 s ⟨#[39]⟩ ⟨#[39,39]⟩ _ (by omega) (by decide) (by decide) (q.out.below a (L4 _))).mono ?_;rintro e z ⟨rfl,c⟩;have k:Lib.replaceAll s.data.toList [39] [39,39]=gB s.data.toList:=by rw[ib _ (by decide),wz]
 simp only[k];clear k;have x:(gB s.data.toList).length<=128:=by have:=iS s.data.toList;simp at this;omega
 go_wp2
 go_ret
 refine⟨?_,a.trans (c.mono a.size)⟩;rw[l.out,<-kE,<-kE];rfl
theorem jY(t n:Int)(s:ByteArray)(w:World)(c: -9223372036854775808<=n)(d:n<=9223372036854775807)(b:Env w):
  Calls Tryz.prog 46 #[.agg #[.int .i64 t,.int .i64 n,.string s]] w fun e w'=>e=.returned (.string ⟨(cY t n s).toArray⟩)/\Below w.heap.size w w':=by
 cases h:bF t n s
 ·exact Av t n s w h
 by_cases a:t=1
 ·subst a;exact Aw n s w h c d b
 have:t=2:=by simp[bF,a]at h;exact h.1.1.1
 subst this;exact Az n s w h b
end Go.Proofs.YtfoejfohbkmmeaaGreatDoor
