import Derived.Test.YtfoejfohbkmmeaaGreatDoorQ19
import Derived.Test.YtfoejfohbkmmeaaGreatDoorQ03
import Derived.Test.YtfoejfohbkmmeaaGreatDoorQ00
import Derived.Test.YtfoejfohbkmmeaaGreatDoorQ10
import Derived.Test.YtfoejfohbkmmeaaGreatDoorQ17
import Derived.Test.YtfoejfohbkmmeaaGreatDoorQ07
set_option maxRecDepth 100000
set_option maxHeartbeats 4000000
namespace Go.Proofs.YtfoejfohbkmmeaaGreatDoor
open Go.RowKit
open Lib renaming hid→J
def IsQ(W:World)(v:Value)(ng:Bool)(N D:Nat):Prop:=∃vn vd,v=.agg #[.bool ng,vn,vd]/\IsD W vn N/\IsD W vd D
def IsF(W:World)(v:Value)(q:Rat):Prop:=IsQ W v (decide (q.num<0)) q.num.natAbs q.den
theorem IsQ.below{W W':World}{v:Value}{a:Bool}{N D:Nat}(h:IsQ W v a N D)(b:Below W.heap.size W W'):IsQ W' v a N D:=by
 obtain⟨c,d,e,f,g⟩:=h;exact⟨c,d,e,f.below b,g.below b⟩
theorem IsF.below{W W':World}{v:Value}{q:Rat}(h:IsF W v q)(a:Below W.heap.size W W'):IsF W' v q:=IsQ.below h a
theorem IsQ.open_{W:World}{v:Value}{b:Bool}{N D:Nat}(h:IsQ W v b N D):∃A c a B d es,v=.agg #[.bool b,.slice A a.length c,.slice B es.length d]/\IsD W (.slice A a.length c) N/\IsD W (.slice B es.length d) D/\Hid (a=ay N)/\Hid (es=ay D):=by
 obtain⟨k,l,e,g,j⟩:=h;obtain⟨A,c,rfl,f⟩:=g;obtain⟨B,d,rfl,i⟩:=j;exact⟨A,c,ay N,B,d,ay D,e,⟨A,c,Z,f⟩,⟨B,d,Z,i⟩,Z,Z⟩
theorem zK{w w':World}{b off:Nat}(h:w'.heap[b]? =w.heap[b]?):w'.cell? ⟨b,off,none⟩=w.cell? ⟨b,off,none⟩:=by simp[World.cell?,h]
def E3(cs:Array Value):Prop:=∀(i:Nat) (d:Int),cs[i]? ≠some (.int .u32 d)
theorem IsD.store{W W':World}{v:Value}{n g:Nat}{t:TypeId}{cs:Array Value}(h:IsD W v n)(q:IsBlk W g t cs)(l:E3 cs)(s:∀k,k≠g->W'.heap[k]? =W.heap[k]?)(x:W'.heap.size=W.heap.size):IsD W' v n:=by
 obtain⟨A,c,e,a⟩:=h;refine⟨A,c,e,fun p=>?_,a.nil,a.cap,a.max,a.ok⟩;obtain⟨b,off,r,w,m⟩:=a.at_ p;have i:b≠g:=by
  rintro rfl;obtain⟨u,f⟩:∃u,(ce (ay n))[0]? =some u:=⟨_,L4 p⟩;have o:=m 0 u f;rw[q.cell]at o;obtain⟨d,rfl⟩:∃d:Int,u=.int .u32 d:=by
   simp only[ce,MQ,Na]at f;obtain⟨d,_,e⟩:=f;exact⟨d,e.symm⟩
  exact l _ _ o
 refine⟨b,off,r,by omega,fun j u f=>?_⟩;rw[<-m j u f];exact zK (s b i)
theorem IsQ.store{W W':World}{v:Value}{b:Bool}{N D g:Nat}{t:TypeId}{cs:Array Value}(h:IsQ W v b N D)(d:IsBlk W g t cs)(a:E3 cs)(f:∀k,k≠g->W'.heap[k]? =W.heap[k]?)(c:W'.heap.size=W.heap.size):IsQ W' v b N D:=by
 obtain⟨i,j,e,l,m⟩:=h;exact⟨i,j,e,l.store d a f c,m.store d a f c⟩
theorem fc{b:Bool}{A B:Option Addr}{m n c d:Nat}:E3 #[.bool b,.slice A m c,.slice B n d]:=fun i x h=>by
 match i with
 |0=>simp at h
 |1=>simp at h
 |2=>simp at h
 |i+3=>simp at h
def cF(ng:Bool)(N D:Nat):Rat:=mkRat (if ng then-(N:Int)else(N:Int)) D
theorem ky(a:Bool)(D:Nat):cF a 0 D=0:=by cases a<;>simp[cF]
theorem si(a:Bool)(N:Nat):cF a N 0=0:=by simp[cF]
theorem fd(q:Rat):cF (decide (q.num<0)) q.num.natAbs q.den=q:=by
 unfold cF;have:(if decide (q.num<0)=true then-(q.num.natAbs:Int)else(q.num.natAbs:Int))=q.num:=by
  by_cases h:q.num<0
  ·simp only[h,decide_true,if_true];omega
  simp only[h,decide_false];simp;omega
 rw[this];exact Rat.mkRat_self q
theorem pH(a:Bool){N D:Nat}(k:0<N)(p:0<D):decide ((cF a N D).num<0)=a/\(cF a N D).num.natAbs=N/Nat.gcd N D/\(cF a N D).den=D/Nat.gcd N D:=by
 have i:D≠0:=by omega
 have f:=Rat.num_mkRat (if a then-(N:Int)else(N:Int)) D;have e:=Rat.den_mkRat (if a then-(N:Int)else(N:Int)) D;rw[if_neg i]at f e;have o:(if a then-(N:Int)else(N:Int)).natAbs=N:=by cases a<;>simp
 rw[o,Oo]at f e;have d:0<Nat.gcd N D:=PZ _ k;obtain⟨m,c⟩:=Nat.gcd_dvd_left N D;obtain⟨g,n⟩:∃g,Nat.gcd N D=g:=⟨_,rfl⟩;rw[n]at f e d c⊢;have l:0<m:=by
  rcases M1 m with h|h
  ·rw[h]at c;simp at c;omega
  exact h
 have b:N/g=m:=by rw[c,Pe _ d]
 have j:(cF a N D).num=if a then-(m:Int)else(m:Int):=by
  unfold cF;rw[f];cases a
  ·simp only[N9,if_false];rw[<-PX,b]
  simp only[if_true];rw[c,Pw,Int.neg_mul_eq_mul_neg,Int.mul_ediv_cancel_left _ (by omega)]
 refine⟨?_,?_,e⟩
 ·rw[j];cases a<;>simp<;>omega
 rw[j,b];cases a<;>simp
theorem C0{W:World}{v:Value}{a:Bool}{N D:Nat}(b:0<N)(d:0<D)(h:IsQ W v a (N/Nat.gcd N D) (D/Nat.gcd N D)):IsF W v (cF a N D):=by
 obtain⟨c,e,f⟩:=pH a b d;unfold IsF;rw[c,e,f];exact h
theorem C1:∀{n:Nat},n≠0->(ay n).getD ((ay n).length-1) 0≠0:=by
 intro n;induction n using Nat.strongRecOn with
 |ind n ih=>
  intro h;rw[fb h];by_cases b:n/4294967296=0
  ·rw[b,gB];simp;omega
  have:=ih (n/4294967296) (by omega) b;have c:0<(ay (n/4294967296)).length:=by
   rcases M1 (ay (n/4294967296)).length with a|a
   ·exact absurd (bR.1 a) b
   exact a
  rw[Mb,show(ay (n/4294967296)).length+1-1=(ay (n/4294967296)).length-1+1 by omega];simpa[List.getD]using this
theorem sj{n:Nat}:c8 n=0↔n=0:=by
 constructor
 ·intro h;rcases M1 n with a|a
  ·exact a
  exfalso;unfold c8 at h;rw[if_neg (by omega)]at h;have f:=C1 (n:=n) (by omega);have c:(ay n).getD ((ay n).length-1) 0<2^64:=by
   rw[List.getD];cases b:(ay n)[(ay n).length-1]? with
   |none=>simp
   |some d=>
    have:=bY n d (L9 b);simp;have e:(2:Nat)^64=18446744073709551616:=by decide
    omega
  have:=zw (d:=(ay n).getD ((ay n).length-1) 0) (by omega) c;omega
 rintro rfl;rfl
theorem li{n m:Nat}(h:c8 n=m):((m:Int)==0)=decide (n=0):=by
 subst h;by_cases a:n=0
 ·rw[a];rfl
 have:c8 n≠0:=fun e=>a (sj.1 e)
 simp[a,this]
structure Fit (L:Nat) (q:Rat):Prop where
 num:(ay q.num.natAbs).length<=L
 den:(ay q.den).length<=L
def xz(c:UInt8):Bool:=(decide (65<=c.toNat)&&decide (c.toNat<=90))||(decide (97<=c.toNat)&&decide (c.toNat<=122))
def xA(c:UInt8):Bool:=(decide (48<=c.toNat)&&decide (c.toNat<=57))||decide (c.toNat=95)
def xB(j:Nat)(c:UInt8):Bool:=xz c||(decide (j≠0)&&xA c)
def bU(s:ByteArray):Bool:=decide (1<=s.size)&&decide (s.size<=24)&&(List.range s.size).all fun j=>xB j (s.data.toList.getD j 0)
theorem ul{s:ByteArray}{i:Nat}{c:UInt8}(h:s.data.toList[i]? =some c)(b:i<s.size)(a:xB i c=false):bU s=false:=by
 unfold bU;rw[N8];right;rw[PO];exact⟨i,N1.2 b,by rw[Mm,h,MK,a];exact MR⟩
structure Col where
 name:ByteArray
 ty:Int
 key:Bool
structure Sch where
 name:ByteArray
 cert:Bool
 cols:List Col
structure Tp where
 vals:List V
 prob:Rat
structure Rel where
 sch:Sch
 tups:List Tp
def V.tree(v:V):Tree:=.agg [.sc (.int .i64 v.t),.sc (.int .i64 v.n),.sc (.string v.s)]
def Col.tree(c:Col):Tree:=.agg [.sc (.string c.name),.sc (.int .i64 c.ty),.sc (.bool c.key)]
def Sch.tree(s:Sch):Tree:=.agg [.sc (.string s.name),.sc (.bool s.cert),.sl (s.cols.map Col.tree)]
def aM(n:Nat):Tree:=.sl ((ay n).map fun d=>.sc (.int .u32 (d:Nat)))
def jX(ng:Bool)(N D:Nat):Tree:=.agg [.sc (.bool ng),aM N,aM D]
def dp(q:Rat):Tree:=jX (decide (q.num<0)) q.num.natAbs q.den
def Tp.tree(t:Tp):Tree:=.agg [.sl (t.vals.map V.tree),.sc (.bool (decide (t.prob.num<0))),aM t.prob.num.natAbs,aM t.prob.den]
def Rel.tree(r:Rel):Tree:=.agg [.sc (.string r.sch.name),.sc (.bool r.sch.cert),.sl (r.sch.cols.map Col.tree),.sl (r.tups.map Tp.tree)]
theorem iZ(l:List V):Sized 3 (l.map V.tree):=Sized.map _ l fun _=>rfl
theorem ej(l:List Col):Sized 3 (l.map Col.tree):=Sized.map _ l fun _=>rfl
theorem bQ(l:List Tp):Sized 4 (l.map Tp.tree):=Sized.map _ l fun _=>rfl
theorem bf{α:Type}{f:α->Tree}{l:List α}{i:Nat}{a:α}(h:l[i]? =some a):(l.map f)[i]? =some (f a):=by rw[MQ,h];rfl
def fw(i:Nat):Tree:=.sc (.int .i64 (i:Nat))
theorem qg(l:List Nat):Sized 1 (l.map fw):=Sized.map _ l fun _=>rfl
def nw(cert:Bool)(c:Col):Bool:=((!bU c.name)||((c.ty !=1)&&(c.ty !=2)))||(cert&&c.key)
def gN(cert:Bool)(pre:List Col):List Col->Bool
 |[]=>false
 |c::l=>nw cert c||pre.any (fun d=>d.name.toList==c.name.toList)||gN cert (pre++[c]) l
def mK(s:Sch):Bool:=((!bU s.name)||decide (s.cols.length<1))||decide (6<s.cols.length)
def fF(s:Sch):Bool:= !(mK s||gN s.cert [] s.cols)
def dJ:List Col->List V->List V
 |c::cs,v::vs=>if c.key then v::dJ cs vs else dJ cs vs
 |_,_=>[]
def aG(s:Sch)(vs:List V):List V:=if vs.length=s.cols.length then dJ s.cols vs else []
def gU(vs:List V):List Tp->Nat->Option Nat
 |[],_=>none
 |t::ts,i=>if aO t.vals vs=0 then some i else gU vs ts (i+1)
def bX(s:Sch)(key:List V):List Tp->Nat->List Nat
 |[],_=>[]
 |t::ts,i=>if aO (aG s t.vals) key=0 then i::bX s key ts (i+1)else bX s key ts (i+1)
def gO(ts:List Tp)(i:Nat):Rat:=((ts[i]?).map (·.prob)).getD 0
def dR(ts:List Tp)(l:List Nat):Rat:=l.foldl (fun q i=>q+gO ts i) 0
theorem um{ts:List Tp}{l:List Nat}{j i:Nat}{t:Tp}(c:l[j]? =some i)(a:ts[i]? =some t):dR ts (l.take (j+1))=dR ts (l.take j)+t.prob:=by
 obtain⟨b,rfl⟩:=L7.1 c;unfold dR;rw[Mq b,Pg];simp only[NH,Pc,gO,a,Nu,MK]
def eV(r:Rel)(vs:List V):List Nat:=if aG r.sch vs=[]then []else bX r.sch (aG r.sch vs) r.tups 0
def aT(r:Rel):List Tree:=[.sc (.string r.sch.name),.sc (.bool r.sch.cert),.sl (r.sch.cols.map Col.tree),.sl (r.tups.map Tp.tree)]
def bS(t:Tp):List Tree:=[.sl (t.vals.map V.tree),.sc (.bool (decide (t.prob.num<0))),aM t.prob.num.natAbs,aM t.prob.den]
def aU(q:Rat):List Tree:=[.sc (.bool (decide (q.num<0))),aM q.num.natAbs,aM q.den]
def dq(s:Sch):List Tree:=[.sc (.string s.name),.sc (.bool s.cert),.sl (s.cols.map Col.tree)]
def dS:List Tree:=[.sc (.string (⟨#[]⟩)),.sc (.bool false),.sl [],.sl []]
theorem a8:Tryz.prog.underlying 9=some .string:=by kernel_rfl
theorem oG(s:ByteArray):Ct 73 [sT s] (bT (bU s)):=by
 refine Ct.of (n:=58) Tryz.func73 Z Z Z Z Z fun w0 G0=>?_
 refine ab<|aj 1 Z<|ab<|ab<|ae<|aa 1 Z<|af (t:=nI s.size) Z Z Z (eK Z a8 Z)<|af (t:=bT (decide (s.size<1))) Z Z Z (ah (ai Z Z Z Zy) (av (iu s.size 1)))<|aa 1 Z<|aA (t:=sT s) ((decide (s.size<1))=false) Z Z Z au Z Z (fun b=>aw Z Z)<|aA (t:=nI s.size) ((decide (s.size<1))=false) Z Z Z au Z Z (fun b=>eK Z a8 (if_pos b))<|aA (t:=bT (decide (24<s.size))) ((decide (s.size<1))=false) Z Z Z au Z Z (fun b=>ah (ai Z (if_pos b) Z (fun _=>rfl)) (av (tE s.size 24)))<|af (t:=bT ((decide (s.size<1))||(decide (24<s.size)))) Z Z Z (aL Z Z (fun a=>(av (by rw[a];rfl))) (fun a=>(if_pos a).trans (av (by rw[a];rfl))))<|ag<|aH Z (fun d=>?_) (fun d=>?_)
 ·refine ab<|aj 1 rfl<|aC<|⟨.inr rfl,_,.cons rfl .nil,av (by unfold bU;simp only[M5,decide_eq_true_eq]at d;rw[eq_comm,N8,N8];left;rcases d with h|h;exact .inl (decide_eq_false (by omega));exact .inr (decide_eq_false (by omega))),rfl⟩
 refine ax<|ab<|ab<|aj 1 Z<|aE<|aW (fun o m=>∃(i:Nat),(i<=s.size/\∀j,j<i->xB j (s.data.toList.getD j 0)=true)/\o=s.size-i/\m=⟨58,[(0,sT s),(3,nI i)],[],[]⟩) 0 0 ⟨0,⟨by omega,fun j l=>by omega⟩,Z,Z⟩ ⟨Z,Z,Z,.cons Z Z (.cons Z Z .nil),Z⟩ ?_;rintro o m ⟨i,⟨u,e⟩,rfl,rfl⟩;have r:s.size<=24:=by simp only[Mz,decide_eq_false_iff_not]at d;omega
 refine ab<|ab<|ae<|aa 2 Z<|af (t:=nI s.size) Z Z Z (eK Z a8 Z)<|af (t:=bT (decide (i<s.size))) Z Z Z (ah (ai Z Z Z Zy) (av (iu i s.size)))<|ag<|aF Z (fun g=>?_) (fun g=>?_)
 ·obtain⟨c,k⟩:∃c,s.data.toList[i]? =some c:=⟨_,L4 (by simpa using g)⟩;refine ax<|ab<|aE<|ab<|ae<|aa 2 Z<|af (t:=.sc (.int .u8 ((c.toNat:Nat):Int))) Z Z Z (dE Z a8 Z Z Z k)<|aa 1 Z<|ag<|ab<|ae<|aa 1 Z<|af (t:=bT (decide (65<=c.toNat))) Z Z Z (ah (ai Z Z Z Zy) (av (DT 65 c.toNat)))<|aa 1 Z<|aA (t:=.sc (.int .u8 ((c.toNat:Nat):Int))) ((decide (65<=c.toNat))=true) Z Z Z au Z Z (fun b=>aw Z Z)<|aA (t:=bT (decide (c.toNat<=90))) ((decide (65<=c.toNat))=true) Z Z Z au Z Z (fun b=>ah (ai Z (if_pos b) Z (fun _=>rfl)) (av (DT c.toNat 90)))<|af (t:=bT ((decide (65<=c.toNat))&&(decide (c.toNat<=90)))) Z Z Z (aL Z Z (fun a=>(if_pos a).trans (av (by rw[a];rfl))) (fun a=>(av (by rw[a];rfl))))<|aa 1 Z<|aA (t:=.sc (.int .u8 ((c.toNat:Nat):Int))) (((decide (65<=c.toNat))&&(decide (c.toNat<=90)))=false) Z Z Z au Z Z (fun b=>aw Z Z)<|aA (t:=bT (decide (97<=c.toNat))) (((decide (65<=c.toNat))&&(decide (c.toNat<=90)))=false) Z Z Z au Z Z (fun b=>ah (ai Z Z (if_pos b) (fun _=>rfl)) (av (DT 97 c.toNat)))<|aA (t:=bT (decide (97<=c.toNat))) (((decide (65<=c.toNat))&&(decide (c.toNat<=90)))=false) Z Z Z au Z Z (fun b=>aw Z (if_pos b))<|aA (t:=.sc (.int .u8 ((c.toNat:Nat):Int))) ((((decide (65<=c.toNat))&&(decide (c.toNat<=90)))=false)/\((decide (97<=c.toNat))=true)) Z Z Z ee Z Z (fun b=>aw Z Z)<|aA (t:=bT (decide (c.toNat<=122))) ((((decide (65<=c.toNat))&&(decide (c.toNat<=90)))=false)/\((decide (97<=c.toNat))=true)) Z Z Z ee Z Z (fun b=>ah (ai Z (if_pos b) Z (fun _=>rfl)) (av (DT c.toNat 122)))<|aA (t:=bT ((decide (97<=c.toNat))&&(decide (c.toNat<=122)))) (((decide (65<=c.toNat))&&(decide (c.toNat<=90)))=false) Z Z Z au Z Z (fun b=>aL Z (if_pos b) (fun a=>(if_pos ⟨b,a⟩).trans (av (by rw[a];rfl))) (fun a=>(av (by rw[a];rfl))))<|af (t:=bT (((decide (65<=c.toNat))&&(decide (c.toNat<=90)))||((decide (97<=c.toNat))&&(decide (c.toNat<=122))))) Z Z Z (aL Z Z (fun a=>(av (by rw[a];rfl))) (fun a=>(if_pos a).trans (av (by rw[a];rfl))))<|aa 1 Z<|ag<|ab<|ae<|aa 1 Z<|af (t:=bT (decide (48<=c.toNat))) Z Z Z (ah (ai Z Z Z Zy) (av (DT 48 c.toNat)))<|aa 1 Z<|aA (t:=.sc (.int .u8 ((c.toNat:Nat):Int))) ((decide (48<=c.toNat))=true) Z Z Z au Z Z (fun b=>aw Z Z)<|aA (t:=bT (decide (c.toNat<=57))) ((decide (48<=c.toNat))=true) Z Z Z au Z Z (fun b=>ah (ai Z (if_pos b) Z (fun _=>rfl)) (av (DT c.toNat 57)))<|af (t:=bT ((decide (48<=c.toNat))&&(decide (c.toNat<=57)))) Z Z Z (aL Z Z (fun a=>(if_pos a).trans (av (by rw[a];rfl))) (fun a=>(av (by rw[a];rfl))))<|aa 1 Z<|aA (t:=.sc (.int .u8 ((c.toNat:Nat):Int))) (((decide (48<=c.toNat))&&(decide (c.toNat<=57)))=false) Z Z Z au Z Z (fun b=>aw Z Z)<|aA (t:=bT (decide (c.toNat=95))) (((decide (48<=c.toNat))&&(decide (c.toNat<=57)))=false) Z Z Z au Z Z (fun b=>ah (ai Z (if_pos b) Z (fun _=>rfl)) (av (lY c.toNat 95)))<|af (t:=bT (((decide (48<=c.toNat))&&(decide (c.toNat<=57)))||(decide (c.toNat=95)))) Z Z Z (aL Z Z (fun a=>(av (by rw[a];rfl))) (fun a=>(if_pos a).trans (av (by rw[a];rfl))))<|aa 1 Z<|ag<|ab<|ae<|aa 1 Z<|af (t:=bT (!(((decide (65<=c.toNat))&&(decide (c.toNat<=90)))||((decide (97<=c.toNat))&&(decide (c.toNat<=122)))))) Z Z Z (ef Z Z Zy)<|aa 1 Z<|aA (t:=nI i) ((!(((decide (65<=c.toNat))&&(decide (c.toNat<=90)))||((decide (97<=c.toNat))&&(decide (c.toNat<=122)))))=true) Z Z Z au Z Z (fun b=>aw Z Z)<|aA (t:=bT (decide (i=0))) ((!(((decide (65<=c.toNat))&&(decide (c.toNat<=90)))||((decide (97<=c.toNat))&&(decide (c.toNat<=122)))))=true) Z Z Z au Z Z (fun b=>ah (ai Z (if_pos b) Z (fun _=>rfl)) (av (lY i 0)))<|aA (t:=bT (decide (i=0))) ((!(((decide (65<=c.toNat))&&(decide (c.toNat<=90)))||((decide (97<=c.toNat))&&(decide (c.toNat<=122)))))=true) Z Z Z au Z Z (fun b=>aw Z (if_pos b))<|aA (t:=bT (((decide (48<=c.toNat))&&(decide (c.toNat<=57)))||(decide (c.toNat=95)))) (((!(((decide (65<=c.toNat))&&(decide (c.toNat<=90)))||((decide (97<=c.toNat))&&(decide (c.toNat<=122)))))=true)/\((decide (i=0))=false)) Z Z Z ee Z Z (fun b=>aw Z Z)<|aA (t:=bT (!(((decide (48<=c.toNat))&&(decide (c.toNat<=57)))||(decide (c.toNat=95))))) (((!(((decide (65<=c.toNat))&&(decide (c.toNat<=90)))||((decide (97<=c.toNat))&&(decide (c.toNat<=122)))))=true)/\((decide (i=0))=false)) Z Z Z ee Z Z (fun b=>ef Z (if_pos b) (fun _=>rfl))<|aA (t:=bT ((decide (i=0))||(!(((decide (48<=c.toNat))&&(decide (c.toNat<=57)))||(decide (c.toNat=95)))))) ((!(((decide (65<=c.toNat))&&(decide (c.toNat<=90)))||((decide (97<=c.toNat))&&(decide (c.toNat<=122)))))=true) Z Z Z au Z Z (fun b=>aL Z (if_pos b) (fun a=>(av (by rw[a];rfl))) (fun a=>(if_pos ⟨b,a⟩).trans (av (by rw[a];rfl))))<|af (t:=bT ((!(((decide (65<=c.toNat))&&(decide (c.toNat<=90)))||((decide (97<=c.toNat))&&(decide (c.toNat<=122)))))&&((decide (i=0))||(!(((decide (48<=c.toNat))&&(decide (c.toNat<=57)))||(decide (c.toNat=95))))))) Z Z Z (aL Z Z (fun a=>(if_pos a).trans (av (by rw[a];rfl))) (fun a=>(av (by rw[a];rfl))))<|ag<|aH Z (fun f=>?_) (fun f=>?_)
  ·refine ab<|aj 1 Z<|aC<|⟨.inr Z,_,.cons Z .nil,av (ul k g (by unfold xB xz xA;revert f;generalize (decide (65<=c.toNat)&&decide (c.toNat<=90)||decide (97<=c.toNat)&&decide (c.toNat<=122))=p;generalize (decide (48<=c.toNat)&&decide (c.toNat<=57)||decide (c.toNat=95))=q;rw[decide_not];generalize decide (i=0)=z;cases p<;>cases q<;>cases z<;>simp)).symm,Z⟩
  refine ax<|ae<|aa 1 Z<|af (t:=nI (i+1)) Z Z Z (ah (ai Z Z Z Zy) (bu (by omega)))<|aa 1 Z<|ag<|⟨_,_,?_,⟨i+1,?_,Z,Z⟩,⟨Z,Z,Z,.cons Z Z (.cons Z Z .nil),Z⟩⟩
  ·omega
  refine⟨by omega,fun j l=>?_⟩;rcases MI j i with h|h
  ·exact e j h
  obtain rfl:j=i:=by omega
  rw[Mm,k,MK];unfold xB xz xA;revert f;generalize (decide (65<=c.toNat)&&decide (c.toNat<=90)||decide (97<=c.toNat)&&decide (c.toNat<=122))=p;generalize (decide (48<=c.toNat)&&decide (c.toNat<=57)||decide (c.toNat=95))=q;rw[decide_not];generalize decide (j=0)=z;cases p<;>cases q<;>cases z<;>simp
 refine aZ<|ab<|aj 1 Z<|aC<|⟨.inr Z,_,.cons Z .nil,av (by unfold bU;rw[eq_comm,Ma,Ma];simp only[Mz,decide_eq_false_iff_not]at d;exact⟨⟨decide_eq_true (by omega),decide_eq_true (by omega)⟩,Mh.2 fun j l=>e j (by have:=N1.1 l;omega)⟩),Z⟩
theorem zL{v:Value}{n:Nat}{w:World}(h:IsD w v n):Calls Tryz.prog 109 #[v] w (Gives (fun _ r=>r=.bool (decide (n=1))) w):=by
 obtain⟨A,c,f,rfl,l,d⟩:=h.open_;have t:=J l;have a:=J d.out;clear h l d;by_cases k:f.length=1
 ·obtain⟨x,u,o⟩:=xx (n:=n) (by rw[<-a.out];exact k);obtain⟨b,off,rfl,y,j⟩:=t.out.digit (i:=0) (by omega);have s:=j 0 (by omega);have e:f=[n]:=by rw[a.out,o]
  simp only[e,Ow,No]at s;have q:((f.length:Int)==1)=true:=by rw[beq_iff_eq];omega
  have m:((n:Int)==1)=decide (n=1):=by
   by_cases g:n=1
   ·subst g;rfl
   simp[g];omega
  have p:=J m;clear j o e m
  go_enter Tryz.func109,Tryz.ntmps109
  go_wp2
  go_ret
  exact⟨_,Z,by first|exact congrArg Value.bool p.out|rfl,Below.refl _ _⟩
 have q:((f.length:Int)==1)=false:=by rw[beq_eq_false_iff_ne];omega
 have g:n≠1:=fun e=>k (by rw[a.out,e];rfl)
 go_enter Tryz.func109,Tryz.ntmps109
 go_wp2
 go_ret
 exact⟨_,Z,by simp only[g,decide_false];rfl,Below.refl _ _⟩
theorem E4(w:World):Calls Tryz.prog 208 #[] w (Gives (fun W r=>IsF W r 0) w):=by
 obtain⟨W,A,c,f,x⟩:=lQ w 65 #[.bool false,.slice none 0 0,.slice none 0 0];have E:=J A;have i:=J c;have d:=J f;have q:=c.size;clear A c f x
 go_enter Tryz.func208,Tryz.ntmps208
 go_wp2_with fail
 rw[E.out];refine(ji 1 _ (by omega)).mono ?_;rintro e I ⟨H,rfl,t,a⟩;replace d:=J (d.out.below a d.out.lt);replace i:=J (ak i.out a q);replace q:=L6 q a.size;clear a;obtain⟨y,B,g,rfl,u,b⟩:=t.open_;have m:=J t;have F:=J b.out;clear t u b;obtain⟨n,p,k,G,D,C⟩:=d.out.three
 go_wp2
 clear n p k G D C;obtain⟨K,z,s,l,j,o⟩:=cg d.out (.bool false) (.slice none 0 0) (.slice y g.length B);first
  |rw[z]
  |(have h:=z;simp only[ne_eq,decide_not]at h;rw[h])
 obtain⟨n,p,k,_,_,_⟩:=s.three;refine bodyPost_ret (v:=.agg #[.bool false,(.slice none 0 0),(.slice y g.length B)]) (by simp[results,Tryz.results208,go_sem,n,p,k]) Z ⟨_,Z,?_,i.out.trans (l.mono (L5 _))⟩;exact⟨_,_,Z,IsD.zero _,m.out.store d.out fc o j⟩
theorem LA(w:World):Calls Tryz.prog 131 #[] w (Gives (fun W r=>IsF W r 1) w):=by
 obtain⟨W,I,g,l,D⟩:=lQ w 65 #[.bool false,.slice none 0 0,.slice none 0 0];have N:=J I;have j:=J g;have b:=J l;have i:=g.size;clear I g l D
 go_enter Tryz.func131,Tryz.ntmps131
 go_wp2_with fail
 rw[N.out];refine(ji 1 _ (by omega)).mono ?_;rintro e S ⟨R,rfl,B,c⟩;replace b:=J (b.out.below c b.out.lt);replace j:=J (ak j.out c i);replace i:=L6 i c.size;clear c;obtain⟨E,K,m,rfl,C,f⟩:=B.open_;have h:=J B;have O:=J f.out;clear B C f
 go_wp2_with fail
 refine(ji 1 _ (by omega)).mono ?_;rintro e T ⟨V,rfl,z,a⟩;replace h:=J (h.out.below a);replace b:=J (b.out.below a b.out.lt);replace j:=J (ak j.out a i);replace i:=L6 i a.size;clear a;obtain⟨F,H,o,rfl,y,d⟩:=z.open_;have u:=J z;have Q:=J d.out;clear z y d;obtain⟨t,x,q,P,M,L⟩:=b.out.three
 go_wp2
 clear t x q P M L;obtain⟨U,G,A,s,k,n⟩:=cg b.out (.bool false) (.slice E m.length K) (.slice F o.length H);first
  |rw[G]
  |(have p:=G;simp only[ne_eq,decide_not]at p;rw[p])
 obtain⟨t,x,q,_,_,_⟩:=A.three;refine bodyPost_ret (v:=.agg #[.bool false,(.slice E m.length K),(.slice F o.length H)]) (by simp[results,Tryz.results131,go_sem,t,x,q]) Z ⟨_,Z,?_,j.out.trans (s.mono (L5 _))⟩;exact⟨_,_,Z,h.out.store b.out fc n k,u.out.store b.out fc n k⟩
theorem jY(Q:Bool){u v:Value}{N D:Nat}{w:World}(hu:IsD w u N)(hv:IsD w v D)(R:(ay N).length<=1048576)(a1:(ay D).length<=1048576):Calls Tryz.prog 145 #[.bool Q,u,v] w (Gives (fun W r=>IsF W r (cF Q N D)) w):=by
 obtain⟨W,hW,K,b5,d9⟩:=lQ w 65 #[.bool false,.slice none 0 0,.slice none 0 0];have HW:=J hW;have n:=J K;have a:=J b5;have c:=K.size;have o:=J (hu.below K);have l:=J (hv.below K);obtain⟨A0,c0,x,rfl,_,hx⟩:=hu.open_;obtain⟨B0,e0,y,rfl,_,hy⟩:=hv.open_;clear hW K b5 d9 hu hv;obtain⟨m,hm⟩:∃m,c8 N=m:=⟨_,rfl⟩;obtain⟨k,hk⟩:∃k,c8 D=k:=⟨_,rfl⟩;have gm:=li hm;have gk:=li hk;have HM:=J (oB o.out R);rw[hm]at HM;have HK:Hid (∀w,IsD w (.slice B0 y.length e0) D->Calls Tryz.prog 129 #[.slice B0 y.length e0] w (Gives (fun _ r=>r=.int .i64 k) w)):=fun w h=>by have:=oB h a1;rwa[hk]at this
 clear hm hk
 go_enter Tryz.func145,Tryz.ntmps145
 by_cases hN:N=0
 ·rw[decide_eq_true hN]at gm
  go_wp2_with fail
  rw[HW.out];refine(HM.out).mono ?_;rintro e w1 ⟨v1,rfl,P,q⟩;replace o:=J (o.out.below q);replace l:=J (l.out.below q);replace a:=J (a.out.below q a.out.lt);replace n:=J (ak n.out q c);replace c:=L6 c q.size;clear q;obtain rfl:=P
  go_wp2_with fail
  refine(E4 _).mono ?_;rintro e w2 ⟨v2,rfl,S,b⟩;replace o:=J (o.out.below b);replace l:=J (l.out.below b);replace a:=J (a.out.below b a.out.lt);replace n:=J (ak n.out b c);replace c:=L6 c b.size;clear b;have d7:=J S;obtain⟨A2,c2,c4,B2,d2,b3,rfl,c7,c1,d1,c9⟩:=IsQ.open_ S;have f3:=J c7;have e6:=J c1;have f7:=J d1.out;have f4:=J c9.out;clear S c7 c1 d1 c9;have HQ:Hid (cF Q N D=0):=by rw[hN];exact ky _ _
  obtain⟨F,G,E,f0,Y,V⟩:=a.out.three
  go_wp2
  clear F G E f0 Y V;obtain⟨w9,L,C,A,t,z⟩:=cg a.out (.bool false) (.slice A2 c4.length c2) (.slice B2 b3.length d2);first
   |rw[L]
   |(have s:=L;simp only[ne_eq,decide_not]at s;rw[s])
  obtain⟨F,G,E,_,_,_⟩:=C.three;refine bodyPost_ret (v:=.agg #[.bool false,(.slice A2 c4.length c2),(.slice B2 b3.length d2)]) (by simp[results,Tryz.results145,go_sem,F,G,E]) Z ⟨_,Z,?_,n.out.trans (A.mono (L5 _))⟩;exact by rw[HQ.out];exact IsQ.store d7.out a.out fc z t
 rw[decide_eq_false hN]at gm
 go_wp2_with fail
 rw[HW.out];refine(HM.out).mono ?_;rintro e w1 ⟨v1,rfl,P,q⟩;replace o:=J (o.out.below q);replace l:=J (l.out.below q);replace a:=J (a.out.below q a.out.lt);replace n:=J (ak n.out q c);replace c:=L6 c q.size;clear q;obtain rfl:=P;by_cases hD:D=0
 ·rw[decide_eq_true hD]at gk
  go_wp2_with fail
  refine(HK.out _ l.out).mono ?_;rintro e w2 ⟨v2,rfl,S,b⟩;replace o:=J (o.out.below b);replace l:=J (l.out.below b);replace a:=J (a.out.below b a.out.lt);replace n:=J (ak n.out b c);replace c:=L6 c b.size;clear b;obtain rfl:=S
  go_wp2_with fail
  refine(E4 _).mono ?_;rintro e w3 ⟨v3,rfl,X,p⟩;replace o:=J (o.out.below p);replace l:=J (l.out.below p);replace a:=J (a.out.below p a.out.lt);replace n:=J (ak n.out p c);replace c:=L6 c p.size;clear p;have e3:=J X;obtain⟨A3,c3,b0,B3,d3,d6,rfl,d4,d0,d5,b2⟩:=IsQ.open_ X;have e9:=J d4;have e5:=J d0;have e7:=J d5.out;have f6:=J b2.out;clear X d4 d0 d5 b2;have HQ:Hid (cF Q N D=0):=by rw[hD];exact si _ _
  obtain⟨F,G,E,f0,Y,V⟩:=a.out.three
  go_wp2
  clear F G E f0 Y V;obtain⟨w9,L,C,A,t,z⟩:=cg a.out (.bool false) (.slice A3 b0.length c3) (.slice B3 d6.length d3);first
   |rw[L]
   |(have s:=L;simp only[ne_eq,decide_not]at s;rw[s])
  obtain⟨F,G,E,_,_,_⟩:=C.three;refine bodyPost_ret (v:=.agg #[.bool false,(.slice A3 b0.length c3),(.slice B3 d6.length d3)]) (by simp[results,Tryz.results145,go_sem,F,G,E]) Z ⟨_,Z,?_,n.out.trans (A.mono (L5 _))⟩;exact by rw[HQ.out];exact IsQ.store e3.out a.out fc z t
 rw[decide_eq_false hD]at gk
 go_wp2_with fail
 refine(HK.out _ l.out).mono ?_;rintro e w2 ⟨v2,rfl,S,b⟩;replace o:=J (o.out.below b);replace l:=J (l.out.below b);replace a:=J (a.out.below b a.out.lt);replace n:=J (ak n.out b c);replace c:=L6 c b.size;clear b;obtain rfl:=S;have a4:0<Nat.gcd N D:=PZ _ (by omega);have a9:(ay (Nat.gcd N D)).length<=1048576:=L6 (aS (Nat.gcd_le_left _ (by omega))) R;obtain⟨g,hg⟩:∃g,Nat.gcd N D=g:=⟨_,rfl⟩;have T:Hid (∀W v,IsQ W v Q (N/g) (D/g)->IsF W v (cF Q N D)):=fun W v h=>C0 (by omega) (by omega) (by rw[hg];exact h)
 have e2:Hid (∀w u v,IsD w u N->IsD w v D->Calls Tryz.prog 209 #[u,v] w (Gives (fun W r=>IsD W r g) w)):=fun w u v P S=>by have:=Ko P S R a1;rwa[hg]at this
 rw[hg]at a4 a9;clear hg
 go_wp2_with fail
 refine(e2.out _ _ _ o.out l.out).mono ?_;rintro e w3 ⟨v3,rfl,X,p⟩;replace o:=J (o.out.below p);replace l:=J (l.out.below p);replace a:=J (a.out.below p a.out.lt);replace n:=J (ak n.out p c);replace c:=L6 c p.size;clear p;obtain⟨A3,c3,b0,rfl,e1,U⟩:=X.open_;have f:=J X;have f5:=J U.out;clear X e1 U;by_cases P:g=1
 ·have HO:Hid (∀w v,IsD w v g->Calls Tryz.prog 109 #[v] w (Gives (fun _ r=>r=.bool true) w)):=fun w v h=>by have:=zL h;rwa[decide_eq_true P]at this
  go_wp2_with fail
  refine(HO.out _ _ f.out).mono ?_;rintro e w4 ⟨v4,rfl,h4,j⟩;replace o:=J (o.out.below j);replace l:=J (l.out.below j);replace f:=J (f.out.below j);replace a:=J (a.out.below j a.out.lt);replace n:=J (ak n.out j c);replace c:=L6 c j.size;clear j;obtain rfl:=h4
  go_wp2_with fail
  refine(uf o.out (by omega)).mono ?_;rintro e w5 ⟨v5,rfl,h5,i⟩;replace o:=J (o.out.below i);replace l:=J (l.out.below i);replace f:=J (f.out.below i);replace a:=J (a.out.below i a.out.lt);replace n:=J (ak n.out i c);replace c:=L6 c i.size;clear i;obtain⟨A5,c5,M,rfl,a2,H⟩:=h5.open_;have B:=J h5;have f8:=J H.out;clear h5 a2 H
  go_wp2_with fail
  refine(uf l.out (by omega)).mono ?_;rintro e w6 ⟨v6,rfl,h6,d⟩;replace o:=J (o.out.below d);replace l:=J (l.out.below d);replace f:=J (f.out.below d);replace B:=J (B.out.below d);replace a:=J (a.out.below d a.out.lt);replace n:=J (ak n.out d c);replace c:=L6 c d.size;clear d;obtain⟨A6,c6,O,rfl,b1,I⟩:=h6.open_;have a3:=J h6;have e4:=J I.out;clear h6 b1 I;obtain⟨F,G,E,f0,Y,V⟩:=a.out.three
  go_wp2
  clear F G E f0 Y V;obtain⟨w9,L,C,A,t,z⟩:=cg a.out (.bool Q) (.slice A5 M.length c5) (.slice A6 O.length c6);first
   |rw[L]
   |(have s:=L;simp only[ne_eq,decide_not]at s;rw[s])
  obtain⟨F,G,E,_,_,_⟩:=C.three;refine bodyPost_ret (v:=.agg #[.bool Q,(.slice A5 M.length c5),(.slice A6 O.length c6)]) (by simp[results,Tryz.results145,go_sem,F,G,E]) Z ⟨_,Z,?_,n.out.trans (A.mono (L5 _))⟩;exact T.out _ _ ⟨_,_,Z,by rw[P,P2];exact B.out.store a.out fc z t,by rw[P,P2];exact a3.out.store a.out fc z t⟩
 have HO:Hid (∀w v,IsD w v g->Calls Tryz.prog 109 #[v] w (Gives (fun _ r=>r=.bool false) w)):=fun w v h=>by have:=zL h;rwa[decide_eq_false P]at this
 go_wp2_with fail
 refine(HO.out _ _ f.out).mono ?_;rintro e w4 ⟨v4,rfl,h4,j⟩;replace o:=J (o.out.below j);replace l:=J (l.out.below j);replace f:=J (f.out.below j);replace a:=J (a.out.below j a.out.lt);replace n:=J (ak n.out j c);replace c:=L6 c j.size;clear j;obtain rfl:=h4
 go_wp2_with fail
 refine(vU o.out f.out R a9 a4).mono ?_;rintro e w5 ⟨v5,rfl,h5,i⟩;replace o:=J (o.out.below i);replace l:=J (l.out.below i);replace f:=J (f.out.below i);replace a:=J (a.out.below i a.out.lt);replace n:=J (ak n.out i c);replace c:=L6 c i.size;clear i;obtain⟨q5,r5,rfl,a0,_⟩:=h5;obtain⟨A5,c5,M,rfl,a2,H⟩:=a0.open_;have B:=J a0;clear a0 a2 H
 go_wp2_with fail
 refine(vU l.out f.out a1 a9 a4).mono ?_;rintro e w6 ⟨v6,rfl,h6,d⟩;replace o:=J (o.out.below d);replace l:=J (l.out.below d);replace f:=J (f.out.below d);replace B:=J (B.out.below d);replace a:=J (a.out.below d a.out.lt);replace n:=J (ak n.out d c);replace c:=L6 c d.size;clear d;obtain⟨q6,r6,rfl,a5,_⟩:=h6;obtain⟨A6,c6,O,rfl,b1,I⟩:=a5.open_;have a3:=J a5;clear a5 b1 I;obtain⟨F,G,E,f0,Y,V⟩:=a.out.three
 go_wp2
 clear F G E f0 Y V;obtain⟨w9,L,C,A,t,z⟩:=cg a.out (.bool Q) (.slice A5 M.length c5) (.slice A6 O.length c6);first
  |rw[L]
  |(have s:=L;simp only[ne_eq,decide_not]at s;rw[s])
 obtain⟨F,G,E,_,_,_⟩:=C.three;refine bodyPost_ret (v:=.agg #[.bool Q,(.slice A5 M.length c5),(.slice A6 O.length c6)]) (by simp[results,Tryz.results145,go_sem,F,G,E]) Z ⟨_,Z,?_,n.out.trans (A.mono (L5 _))⟩;exact T.out _ _ ⟨_,_,Z,B.out.store a.out fc z t,a3.out.store a.out fc z t⟩
end Go.Proofs.YtfoejfohbkmmeaaGreatDoor
