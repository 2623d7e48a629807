import Derived.Test.YtfoejfohbkmmeaaGreatDoorB08
import Derived.Test.YtfoejfohbkmmeaaGreatDoorB11
import Derived.Test.YtfoejfohbkmmeaaGreatDoorB10
import Derived.Test.YtfoejfohbkmmeaaGreatDoorB18
import Derived.Test.YtfoejfohbkmmeaaGreatDoorB00
import Derived.Test.YtfoejfohbkmmeaaGreatDoorB06
set_option maxRecDepth 100000
set_option maxHeartbeats 4000000
namespace Go.Proofs.YtfoejfohbkmmeaaGreatDoor
open Go.RowKit
def zq(c:UInt8):Bool:=(decide (65<=c.toNat)&&decide (c.toNat<=90))||(decide (97<=c.toNat)&&decide (c.toNat<=122))
def zu(c:UInt8):Bool:=(decide (48<=c.toNat)&&decide (c.toNat<=57))||decide (c.toNat=95)
def zv(j:Nat)(c:UInt8):Bool:=zq c||(decide (j≠0)&&zu c)
def ga(s:ByteArray):Bool:=decide (1<=s.size)&&decide (s.size<=24)&&(List.range s.size).all fun j=>zv j (s.data.toList.getD j 0)
theorem vN{s:ByteArray}{i:Nat}{c:UInt8}(h:s.data.toList[i]? =some c)(a:i<s.size)(b:zv i c=false):ga s=false:=by
 unfold ga;rw[P6];right;rw[R2];exact⟨i,Qs.2 a,by rw[OE,h,OW,b];exact Pd⟩
structure Col where
 name:ByteArray
 ty:Int
 key:Bool
structure Sch where
 name:ByteArray
 cert:Bool
 cols:List Col
structure Tp where
 vals:List V
 prob:Rat
structure Rel where
 sch:Sch
 tups:List Tp
def V.tree(v:V):Tree:=.agg [.sc (.int .i64 v.t),.sc (.int .i64 v.n),.sc (.string v.s)]
def Col.tree(c:Col):Tree:=.agg [.sc (.string c.name),.sc (.int .i64 c.ty),.sc (.bool c.key)]
def Sch.tree(s:Sch):Tree:=.agg [.sc (.string s.name),.sc (.bool s.cert),.sl (s.cols.map Col.tree)]
def aG(n:Nat):Tree:=.sl ((az n).map fun d=>.sc (.int .u32 (d:Nat)))
def iH(ng:Bool)(N D:Nat):Tree:=.agg [.sc (.bool ng),aG N,aG D]
def dA(q:Rat):Tree:=iH (decide (q.num<0)) q.num.natAbs q.den
def Tp.tree(t:Tp):Tree:=.agg [.sl (t.vals.map V.tree),.sc (.bool (decide (t.prob.num<0))),aG t.prob.num.natAbs,aG t.prob.den]
def Rel.tree(r:Rel):Tree:=.agg [.sc (.string r.sch.name),.sc (.bool r.sch.cert),.sl (r.sch.cols.map Col.tree),.sl (r.tups.map Tp.tree)]
theorem gc(l:List V):Sized 3 (l.map V.tree):=Sized.map _ l fun _=>rfl
theorem ei(l:List Col):Sized 3 (l.map Col.tree):=Sized.map _ l fun _=>rfl
theorem bS(l:List Tp):Sized 4 (l.map Tp.tree):=Sized.map _ l fun _=>rfl
theorem aX{α:Type}{f:α->Tree}{l:List α}{i:Nat}{a:α}(h:l[i]? =some a):(l.map f)[i]? =some (f a):=by rw[O2,h];rfl
def fV(i:Nat):Tree:=.sc (.int .i64 (i:Nat))
theorem rz(l:List Nat):Sized 1 (l.map fV):=Sized.map _ l fun _=>rfl
def me(cert:Bool)(c:Col):Bool:=((!ga c.name)||((c.ty !=1)&&(c.ty !=2)))||(cert&&c.key)
def gP(cert:Bool)(pre:List Col):List Col->Bool
 |[]=>false
 |c::l=>me cert c||pre.any (fun d=>d.name.toList==c.name.toList)||gP cert (pre++[c]) l
def kz(s:Sch):Bool:=((!ga s.name)||decide (s.cols.length<1))||decide (6<s.cols.length)
def gt(s:Sch):Bool:= !(kz s||gP s.cert [] s.cols)
def eu:List Col->List V->List V
 |c::cs,v::vs=>if c.key then v::eu cs vs else eu cs vs
 |_,_=>[]
def aJ(s:Sch)(vs:List V):List V:=if vs.length=s.cols.length then eu s.cols vs else []
def mN(vs:List V):List Tp->Nat->Option Nat
 |[],_=>none
 |t::ts,i=>if bg t.vals vs=0 then some i else mN vs ts (i+1)
def b8(s:Sch)(key:List V):List Tp->Nat->List Nat
 |[],_=>[]
 |t::ts,i=>if bg (aJ s t.vals) key=0 then i::b8 s key ts (i+1)else b8 s key ts (i+1)
def iw(ts:List Tp)(i:Nat):Rat:=((ts[i]?).map (·.prob)).getD 0
def eJ(ts:List Tp)(l:List Nat):Rat:=l.foldl (fun q i=>q+iw ts i) 0
theorem vQ{ts:List Tp}{l:List Nat}{j i:Nat}{t:Tp}(c:l[j]? =some i)(b:ts[i]? =some t):eJ ts (l.take (j+1))=eJ ts (l.take j)+t.prob:=by
 obtain⟨a,rfl⟩:=Ok.1 c;unfold eJ;rw[OM a,ST];simp only[Qk,List.foldl_nil,iw,b,PG,OW]
def gw(r:Rel)(vs:List V):List Nat:=if aJ r.sch vs=[]then []else b8 r.sch (aJ r.sch vs) r.tups 0
def a7(r:Rel):List Tree:=[.sc (.string r.sch.name),.sc (.bool r.sch.cert),.sl (r.sch.cols.map Col.tree),.sl (r.tups.map Tp.tree)]
def bY(t:Tp):List Tree:=[.sl (t.vals.map V.tree),.sc (.bool (decide (t.prob.num<0))),aG t.prob.num.natAbs,aG t.prob.den]
def aZ(q:Rat):List Tree:=[.sc (.bool (decide (q.num<0))),aG q.num.natAbs,aG q.den]
def fm(s:Sch):List Tree:=[.sc (.string s.name),.sc (.bool s.cert),.sl (s.cols.map Col.tree)]
def dB:List Tree:=[.sc (.string (⟨#[]⟩)),.sc (.bool false),.sl [],.sl []]
theorem bj:Tryz.prog.underlying 9=some .string:=by kernel_rfl
theorem pz(s:ByteArray):Ct 73 [sT s] (bT (ga s)):=by
 refine Ct.of (n:=58) Tryz.func73 Z Z Z Z Z fun w0 G0=>?_
 refine ab<|aj 1 Z<|ab<|ab<|ae<|aa 1 Z<|ag (t:=nI s.size) Z Z Z (fj Z bj Z)<|ag (t:=bT (decide (s.size<1))) Z Z Z (ah (ai Z Z Z Zy) (au (gK s.size 1)))<|aa 1 Z<|aw (t:=sT s) Z Z Z Z (fun b=>av Z Z)<|aw (t:=nI s.size) Z Z Z Z (fun b=>fj Z bj (if_pos b))<|aw (t:=bT (decide (24<s.size))) Z Z Z Z (fun b=>ah (ai Z (if_pos b) Z (fun _=>rfl)) (au (qH s.size 24)))<|ag (t:=bT ((decide (s.size<1))||(decide (24<s.size)))) Z Z Z (aL Z Z (fun a=>(au (by rw[a];rfl))) (fun a=>(if_pos a).trans (au (by rw[a];rfl))))<|af<|aH Z (fun d=>?_) (fun d=>?_)
 ·refine ab<|aj 1 rfl<|ax<|⟨.inr rfl,_,.cons rfl .nil,au (by unfold ga;simp only[Px,decide_eq_true_eq]at d;rw[eq_comm,P6,P6];left;rcases d with h|h;exact .inl (decide_eq_false (by omega));exact .inr (decide_eq_false (by omega))),rfl⟩
 refine ar<|ab<|ab<|aj 1 Z<|aA<|aO (fun m o=>∃(i:Nat),(i<=s.size/\∀j,j<i->zv j (s.data.toList.getD j 0)=true)/\m=s.size-i/\o=⟨58,[(0,sT s),(3,nI i)],[],[]⟩) 0 0 ⟨0,⟨by omega,fun j l=>by omega⟩,Z,Z⟩ .rf ?_;rintro m o ⟨i,⟨u,e⟩,rfl,rfl⟩;have r:s.size<=24:=by simp only[OH,decide_eq_false_iff_not]at d;omega
 refine ab<|ab<|ae<|aa 2 Z<|ag (t:=nI s.size) Z Z Z (fj Z bj Z)<|ag (t:=bT (decide (i<s.size))) Z Z Z (ah (ai Z Z Z Zy) (au (gK i s.size)))<|af<|aD Z (fun g=>?_) (fun g=>?_)
 ·obtain⟨c,f⟩:∃c,s.data.toList[i]? =some c:=⟨_,Og (by simpa using g)⟩;refine ar<|ab<|aA<|ab<|ae<|aa 2 Z<|ag (t:=.sc (.int .u8 ((c.toNat:Nat):Int))) Z Z Z (eg Z bj Z Z Z f)<|aa 1 Z<|af<|ab<|ae<|aa 1 Z<|ag (t:=bT (decide (65<=c.toNat))) Z Z Z (ah (ai Z Z Z Zy) (au (F0 65 c.toNat)))<|aa 1 Z<|aw (t:=.sc (.int .u8 ((c.toNat:Nat):Int))) Z Z Z Z (fun b=>av Z Z)<|aw (t:=bT (decide (c.toNat<=90))) Z Z Z Z (fun b=>ah (ai Z (if_pos b) Z (fun _=>rfl)) (au (F0 c.toNat 90)))<|ag (t:=bT ((decide (65<=c.toNat))&&(decide (c.toNat<=90)))) Z Z Z (aL Z Z (fun a=>(if_pos a).trans (au (by rw[a];rfl))) (fun a=>(au (by rw[a];rfl))))<|aa 1 Z<|aw (t:=.sc (.int .u8 ((c.toNat:Nat):Int))) Z Z Z Z (fun b=>av Z Z)<|aw (t:=bT (decide (97<=c.toNat))) Z Z Z Z (fun b=>ah (ai Z Z (if_pos b) (fun _=>rfl)) (au (F0 97 c.toNat)))<|aw (t:=bT (decide (97<=c.toNat))) Z Z Z Z (fun b=>av Z (if_pos b))<|ce (t:=.sc (.int .u8 ((c.toNat:Nat):Int))) Z Z Z Z (fun b=>av Z Z)<|ce (t:=bT (decide (c.toNat<=122))) Z Z Z Z (fun b=>ah (ai Z (if_pos b) Z (fun _=>rfl)) (au (F0 c.toNat 122)))<|aw (t:=bT ((decide (97<=c.toNat))&&(decide (c.toNat<=122)))) Z Z Z Z (fun b=>aL Z (if_pos b) (fun a=>(if_pos ⟨b,a⟩).trans (au (by rw[a];rfl))) (fun a=>(au (by rw[a];rfl))))<|ag (t:=bT (((decide (65<=c.toNat))&&(decide (c.toNat<=90)))||((decide (97<=c.toNat))&&(decide (c.toNat<=122))))) Z Z Z (aL Z Z (fun a=>(au (by rw[a];rfl))) (fun a=>(if_pos a).trans (au (by rw[a];rfl))))<|aa 1 Z<|af<|ab<|ae<|aa 1 Z<|ag (t:=bT (decide (48<=c.toNat))) Z Z Z (ah (ai Z Z Z Zy) (au (F0 48 c.toNat)))<|aa 1 Z<|aw (t:=.sc (.int .u8 ((c.toNat:Nat):Int))) Z Z Z Z (fun b=>av Z Z)<|aw (t:=bT (decide (c.toNat<=57))) Z Z Z Z (fun b=>ah (ai Z (if_pos b) Z (fun _=>rfl)) (au (F0 c.toNat 57)))<|ag (t:=bT ((decide (48<=c.toNat))&&(decide (c.toNat<=57)))) Z Z Z (aL Z Z (fun a=>(if_pos a).trans (au (by rw[a];rfl))) (fun a=>(au (by rw[a];rfl))))<|aa 1 Z<|aw (t:=.sc (.int .u8 ((c.toNat:Nat):Int))) Z Z Z Z (fun b=>av Z Z)<|aw (t:=bT (decide (c.toNat=95))) Z Z Z Z (fun b=>ah (ai Z (if_pos b) Z (fun _=>rfl)) (au (iF c.toNat 95)))<|ag (t:=bT (((decide (48<=c.toNat))&&(decide (c.toNat<=57)))||(decide (c.toNat=95)))) Z Z Z (aL Z Z (fun a=>(au (by rw[a];rfl))) (fun a=>(if_pos a).trans (au (by rw[a];rfl))))<|aa 1 Z<|af<|ab<|ae<|aa 1 Z<|ag (t:=bT (!(((decide (65<=c.toNat))&&(decide (c.toNat<=90)))||((decide (97<=c.toNat))&&(decide (c.toNat<=122)))))) Z Z Z (dw Z Z Zy)<|aa 1 Z<|aw (t:=nI i) Z Z Z Z (fun b=>av Z Z)<|aw (t:=bT (decide (i=0))) Z Z Z Z (fun b=>ah (ai Z (if_pos b) Z (fun _=>rfl)) (au (iF i 0)))<|aw (t:=bT (decide (i=0))) Z Z Z Z (fun b=>av Z (if_pos b))<|ce (t:=bT (((decide (48<=c.toNat))&&(decide (c.toNat<=57)))||(decide (c.toNat=95)))) Z Z Z Z (fun b=>av Z Z)<|ce (t:=bT (!(((decide (48<=c.toNat))&&(decide (c.toNat<=57)))||(decide (c.toNat=95))))) Z Z Z Z (fun b=>dw Z (if_pos b) (fun _=>rfl))<|aw (t:=bT ((decide (i=0))||(!(((decide (48<=c.toNat))&&(decide (c.toNat<=57)))||(decide (c.toNat=95)))))) Z Z Z Z (fun b=>aL Z (if_pos b) (fun a=>(au (by rw[a];rfl))) (fun a=>(if_pos ⟨b,a⟩).trans (au (by rw[a];rfl))))<|ag (t:=bT ((!(((decide (65<=c.toNat))&&(decide (c.toNat<=90)))||((decide (97<=c.toNat))&&(decide (c.toNat<=122)))))&&((decide (i=0))||(!(((decide (48<=c.toNat))&&(decide (c.toNat<=57)))||(decide (c.toNat=95))))))) Z Z Z (aL Z Z (fun a=>(if_pos a).trans (au (by rw[a];rfl))) (fun a=>(au (by rw[a];rfl))))<|af<|aH Z (fun k=>?_) (fun k=>?_)
  ·refine ab<|aj 1 Z<|ax<|⟨.inr Z,_,.cons Z .nil,au (vN f g (by unfold zv zq zu;revert k;generalize (decide (65<=c.toNat)&&decide (c.toNat<=90)||decide (97<=c.toNat)&&decide (c.toNat<=122))=p;generalize (decide (48<=c.toNat)&&decide (c.toNat<=57)||decide (c.toNat=95))=q;rw[decide_not];generalize decide (i=0)=z;cases p<;>cases q<;>cases z<;>simp)).symm,Z⟩
  refine ar<|ae<|aa 1 Z<|ag (t:=nI (i+1)) Z Z Z (ah (ai Z Z Z Zy) (bp (by omega)))<|aa 1 Z<|af<|⟨_,_,?_,⟨i+1,?_,Z,Z⟩,.rf⟩
  ·omega
  refine⟨by omega,fun j l=>?_⟩;rcases OS j i with h|h
  ·exact e j h
  obtain rfl:j=i:=by omega
  rw[OE,f,OW];unfold zv zq zu;revert k;generalize (decide (65<=c.toNat)&&decide (c.toNat<=90)||decide (97<=c.toNat)&&decide (c.toNat<=122))=p;generalize (decide (48<=c.toNat)&&decide (c.toNat<=57)||decide (c.toNat=95))=q;rw[decide_not];generalize decide (j=0)=z;cases p<;>cases q<;>cases z<;>simp
 refine aQ<|ab<|aj 1 Z<|ax<|⟨.inr Z,_,.cons Z .nil,au (by unfold ga;rw[eq_comm,Oo,Oo];simp only[OH,decide_eq_false_iff_not]at d;exact⟨⟨decide_eq_true (by omega),decide_eq_true (by omega)⟩,OD.2 fun j l=>e j (by have:=Qs.1 l;omega)⟩),Z⟩
def BZ(f:FuncId):Prop:=∃fn,Tryz.prog.funcs[f]? =some fn/\(fn.name== "runtime.NumGoroutine")=false/\fn.body.isNone=false
theorem PT.uncons{W:World}{G:Nat->Prop}{vs:List Value}{t:Tree}{ts:List Tree}(h:PT W G vs (t::ts)):∃v us,vs=v::us/\PT W G [v] [t]/\PT W G us ts:=by
 cases vs with
 |nil=>cases h
 |cons v us=>exact⟨v,us,Z,h.head,h.tail⟩
theorem dZ{W:World}{G:Nat->Prop}{vs:List Value}{t:Tree}(h:PT W G vs [t]):∃v,vs=[v]/\PT W G [v] [t]:=by
 obtain⟨v,us,rfl,b,a⟩:=h.uncons;cases a;exact⟨v,Z,b⟩
theorem dO{W:World}{G:Nat->Prop}{vs:List Value}{t u:Tree}(h:PT W G vs [t,u]):∃v x,vs=[v,x]/\PT W G [v] [t]/\PT W G [x] [u]:=by
 obtain⟨v,us,rfl,b,a⟩:=h.uncons;obtain⟨x,rfl,c⟩:=dZ a;exact⟨v,x,Z,b,c⟩
theorem pA{W:World}{G:Nat->Prop}{vs:List Value}{t u r:Tree}(h:PT W G vs [t,u,r]):∃v x y,vs=[v,x,y]/\PT W G [v] [t]/\PT W G [x] [u]/\PT W G [y] [r]:=by
 obtain⟨v,us,rfl,b,a⟩:=h.uncons;obtain⟨x,y,rfl,c,d⟩:=dO a;exact⟨v,x,y,Z,b,c,d⟩
theorem qV{α:Type}(f:α->Tree)(h:∀a,(f a).cells=[f a]):∀l:List α,flat (l.map f)=l.map f
 |[]=>rfl
 |a::l=>by rw[Pt,eN,h a,qV f h l];rfl
theorem tD{W:World}{G:Nat->Prop}:∀{l:List Nat} {xs:List Value},PT W G xs (l.map fun d=>.sc (.int .u32 (d:Nat)))->xs=cG l
 |[],xs,h=>by cases h;rfl
 |_::l,xs,h=>by
  cases h with
  |sc v h=>rw[tD h];rfl
theorem DL(W:World)(G:Nat->Prop):∀l:List Nat,PT W G (cG l) (l.map fun d=>.sc (.int .u32 (d:Nat)))
 |[]=>.nil
 |_::l=>.sc _ (DL W G l)
theorem d9{W:World}{G:Nat->Prop}{v:Value}{n:Nat}(h:PT W G [v] [aG n]):IsD W v n:=by
 obtain⟨A,c,g,i,m,o,d⟩:=PT.slice h;rw[Ol]at g i d;refine⟨A,c,g,fun l=>?_,fun e=>⟨?_,o e⟩,i,m,cE n⟩
 ·obtain⟨b,off,xs,rfl,k,_,p,f⟩:=d (by simpa[cG]using l);rw[qV _ (fun _=>rfl)]at f;rw[<-tD f];exact⟨b,off,Z,k,p⟩
 rcases Pg (az n).length with a|a
 ·exact a
 obtain⟨b,off,xs,j,_⟩:=d a;rw[e]at j;cases j
def OkG(G:Nat->Prop)(W:World):Prop:=∀g,G g->g<W.heap.size/\NoDigB W g
theorem OkG.later{G:Nat->Prop}{W W':World}(h:OkG G W)(b:Below W.heap.size W W'):OkG G W':=fun g a=>⟨Oz (h g a).1 b.size,(h g a).2.of (b.block g (h g a).1)⟩
theorem fQ{W:World}{G:Nat->Prop}{v:Value}{n:Nat}(l:OkG G W)(h:IsD W v n):PT W G [v] [aG n]:=by
 obtain⟨A,c,rfl,a⟩:=h;unfold aG;by_cases o:(az n).length=0
 ·have e:az n=[]:=OB o;rw[e];exact .sl0 A c (fun e=>(a.nil e).2) a.max .nil
 obtain⟨b,off,rfl,m,g⟩:=a.digit (i:=0) (by omega);refine .sl b off c _ (cG (az n)) _ m (fun k=>?_) (fun j u f=>?_) (by simp) (by simpa using a.cap) a.max ?_ .nil
 ·have:=(l b k).2 _ _ (g 0 (by omega));simp[bG]at this
 ·simp only[cG,O2,Ps]at f;obtain⟨d,p,rfl⟩:=f;obtain⟨q,rfl⟩:=Ok.1 p;exact g j q
 rw[qV _ (fun _=>rfl)];exact DL W G _
theorem L2{W:World}{G:Nat->Prop}{v:Value}{ng:Bool}{N D:Nat}(h:PT W G [v] [iH ng N D]):Od W v ng N D:=by
 cases h with
 |agg xs cs hx _=>
  obtain⟨a,b,c,rfl,e,d,f⟩:=pA hx;cases e;exact⟨b,c,Z,d9 d,d9 f⟩
theorem L3{W:World}{G:Nat->Prop}{v:Value}{ng:Bool}{N D:Nat}(a:OkG G W)(h:Od W v ng N D):PT W G [v] [iH ng N D]:=by
 obtain⟨b,e,rfl,c,d⟩:=h;exact .agg [.bool ng,b,e] _ (.sc _ ((fQ a c).cons ((fQ a d).cons .nil))) .nil
theorem tE{W:World}{G:Nat->Prop}:∀{l:List V} {xs:List Value},PT W G xs (flat (l.map V.tree))->xs=dV l
 |[],xs,h=>by cases h;rfl
 |v::l,xs,h=>by
  cases h with
  |sc a h=>
   cases h with
   |sc b h=>
    cases h with
    |sc c h=>rw[tE (l:=l) h];rfl
theorem pB{W:World}{G:Nat->Prop}{v:Value}{l:List V}(h:PT W G [v] [.sl (l.map V.tree)]):∃A c,v=.slice A l.length c/\At W W.heap.size A (dV l)/\(A=none->l.length=0/\c=0):=by
 obtain⟨A,c,f,o,p,m,d⟩:=PT.slice h;rw[Ol]at f o d;refine⟨A,c,f,fun j=>?_,fun e=>⟨?_,m e⟩⟩
 ·obtain⟨b,off,xs,rfl,i,_,n,k⟩:=d (by rw[iY]at j;omega);rw[<-tE k];exact⟨b,off,Z,i,n⟩
 rcases Pg l.length with a|a
 ·exact a
 obtain⟨b,off,xs,g,_⟩:=d a;rw[e]at g;cases g
theorem B1{W:World}{G:Nat->Prop}{u:Value}{v:V}(h:PT W G [u] [v.tree]):u=.agg #[.int .i64 v.t,.int .i64 v.n,.string v.s]:=by
 cases h with
 |agg xs cs hx _=>
  obtain⟨a,b,c,rfl,e,d,f⟩:=pA hx;cases e;cases d;cases f;rfl
theorem Ct.sc{f:FuncId}{args:List Tree}{r:Value}(a:BZ f)(h:∀(G:Nat->Prop) (w:World) (vs:List Value),Env w->OkG G w->PT w G vs args->Calls Tryz.prog f vs.toArray w fun e w'=>e=.returned r/\Below w.heap.size w w'):Ct f args (.sc r):=
 ⟨a,fun G w vs g b c=>(h G w vs g b c).mono fun _ _ ⟨d,i⟩=>⟨r,d,.sc _ .nil,i⟩⟩
theorem Hh{f:FuncId}{args:List Tree}{r:Value}(a:BZ f)(h:∀(G:Nat->Prop) (w:World) (vs:List Value),Env w->OkG G w->PT w G vs args->Calls Tryz.prog f vs.toArray w (gU (fun _ v=>v=r) w)):Ct f args (.sc r):=
 ⟨a,fun G w vs g b c=>(h G w vs g b c).mono fun _ _ ⟨v,d,i,e⟩=>⟨v,d,by rw[i];exact .sc _ .nil,e⟩⟩
theorem fp{f:FuncId}{args:List Tree}{r:Tree}{K:World->Value->Prop}(d:BZ f)(c:∀(G:Nat->Prop) (W:World) (v:Value),OkG G W->K W v->PT W G [v] [r])(h:∀(G:Nat->Prop) (w:World) (vs:List Value),Env w->OkG G w->PT w G vs args->Calls Tryz.prog f vs.toArray w (gU K w)):Ct f args r:=
 ⟨d,fun G w vs i a e=>(h G w vs i a e).mono fun _ w' ⟨v,g,j,b⟩=>⟨v,g,c G w' v (OkG.later a b) j,b⟩⟩
theorem Hi(v:V):Ct 104 [v.tree] (bT v.ok):=Ct.sc ⟨_,Tryz.func104,Z,Z⟩ fun G w vs _ _ a=>by
 obtain⟨u,rfl,h⟩:=dZ a;rw[B1 h];exact fc v.t v.n v.s w
theorem jF(l m:List V)(a:l.length<=65536)(g:m.length<=65536):Ct 64 [.sl (l.map V.tree),.sl (m.map V.tree)] (iT (bg l m)):=Ct.sc ⟨_,Tryz.func64,Z,Z⟩ fun G w vs _ _ e=>by
 obtain⟨u,x,rfl,f,h⟩:=dO e;obtain⟨A,c,rfl,i,_⟩:=pB f;obtain⟨B,d,rfl,b,_⟩:=pB h;exact Bv A B c d l m w i b a g
theorem oD(n:Nat)(b:(az n).length<=1048576):Ct 129 [aG n] (iT (bP n)):=Hh ⟨_,Tryz.func129,Z,Z⟩ fun G w vs _ _ a=>by
 obtain⟨u,rfl,h⟩:=dZ a;exact J3 (d9 h) (by omega)
theorem jG(n:Nat)(a:(az n).length<=262144):Ct 129 [aG n] (iT (bP n)):=oD n (by omega)
theorem kE(M N:Nat)(d:(az M).length<=1048576)(f:(az N).length<=1048576):Ct 152 [aG M,aG N] (aG (M*N)):=fp ⟨_,Tryz.func152,Z,Z⟩ (fun _ _ _ a h=>fQ a h) fun G w vs _ _ b=>by
 obtain⟨u,x,rfl,c,e⟩:=dO b;exact NZ (d9 c) (d9 e) d f
theorem DM(M N:Nat)(c:(az M).length<=1073741823)(e:(az N).length<=1073741823):Ct 151 [aG M,aG N] (iT (fz M N)):=Hh ⟨_,Tryz.func151,Z,Z⟩ fun G w vs _ _ a=>by
 obtain⟨u,x,rfl,b,d⟩:=dO a;exact GY (d9 b) (d9 d) c e
theorem iy(n:Nat)(a:n<18446744073709551616):Ct 149 [.sc (.int .u64 (n:Nat))] (aG n):=fp ⟨_,Tryz.func149,Z,Z⟩ (fun _ _ _ b h=>fQ b h) fun G w vs _ _ c=>by
 obtain⟨u,rfl,h⟩:=dZ c;cases h;exact qR n w a
def eP(d:Nat):Tree:=.sc (.int .u32 (d:Nat))
theorem eS(l:List Nat):Sized 1 (l.map eP):=Sized.map _ l fun _=>rfl
theorem vR{m n:Nat}(h:m=n):aG n=aG m:=by rw[h]
theorem pC{p q:Rat}(h:p=q):dA p=dA q:=by rw[h]
theorem tF(n:Nat)(a:(az n).length<=1073741823):Ct 172 [aG n] (aG n):=fp ⟨_,Tryz.func172,Z,Z⟩ (fun _ _ _ b h=>fQ b h) fun G w vs _ _ c=>by
 obtain⟨u,rfl,h⟩:=dZ c;exact DC (d9 h) a
theorem Kc(M N:Nat)(d:(az M).length<=1048576)(f:(az N).length<=1048576):Ct 196 [aG M,aG N] (aG (M+N)):=fp ⟨_,Tryz.func196,Z,Z⟩ (fun _ _ _ a h=>fQ a h) fun G w vs _ _ b=>by
 obtain⟨u,x,rfl,c,e⟩:=dO b;exact NX (d9 c) (d9 e) d f
theorem Hj(M N:Nat)(d:(az M).length<=1048576)(f:(az N).length<=1048576):Ct 209 [aG M,aG N] (aG (Nat.gcd M N)):=fp ⟨_,Tryz.func209,Z,Z⟩ (fun _ _ _ a h=>fQ a h) fun G w vs _ _ b=>by
 obtain⟨u,x,rfl,c,e⟩:=dO b;exact M3 (d9 c) (d9 e) d f
theorem DN(M N:Nat)(g:(az M).length<=1048576)(h:(az N).length<=1048576)(f:0<N):Ct 210 [aG M,aG N] (.tup [aG (M/N),aG (M%N),bT true]):=fp (K:=Oc M N) ⟨_,Tryz.func210,Z,Z⟩ (fun _ _ _ c ⟨_,_,e,a,b⟩=>by
  subst e;exact .tup [_,_,.bool true] _ ((fQ c a).cons ((fQ c b).cons (.sc _ .nil))) .nil) fun G w vs _ _ d=>by
 obtain⟨u,x,rfl,a,b⟩:=dO d;exact DK (d9 a) (d9 b) g h f
theorem DO(M N:Nat)(f:(az M).length<=1048576)(j:(az N).length<=1048576):Ct 197 [aG M,aG N] (.tup [aG (M-N),bT (decide (N<=M))]):=fp (K:=M0 M N) ⟨_,Tryz.func197,Z,Z⟩ (fun _ _ _ c h=>by
  rcases OS M N with b|a
  ·rw[show M-N=0 by omega,decide_eq_false (by omega),h.2 b];exact .tup [_,.bool false] _ (.sl0 _ _ (fun _=>rfl) (by decide) (.sc _ .nil)) .nil
  obtain⟨v,rfl,g⟩:=h.1 a;rw[decide_eq_true a];exact .tup [v,.bool true] _ ((fQ c g).cons (.sc _ .nil)) .nil) fun G w vs _ _ d=>by
 obtain⟨u,x,rfl,e,i⟩:=dO d;exact NY (d9 e) (d9 i) f j
theorem Hk(n:Nat):(decide ((az n).length=1)&&decide ((az n).getD 0 0=1))=decide (n=1):=by
 by_cases h:n=1
 ·subst h;rfl
 rw[decide_eq_false h,P6];by_cases a:(az n).length=1
 ·right;refine decide_eq_false fun e=>h ?_
  obtain⟨_,_,b⟩:=zo (n:=n) a;rw[b]at e;exact e
 left;exact decide_eq_false a
theorem L4{ng:Bool}{N D:Nat}(h:(decide (bP N=0)||decide (bP D=0))=true):0=eh ng N D:=by
 rw[Px,decide_eq_true_eq,decide_eq_true_eq,j0,j0]at h;rcases h with rfl|rfl
 ·exact(nh _ _).symm
 exact(zp _ _).symm
def qW(ng:Bool)(N D:Nat):Int:=if N=0 then 0 else if D=0 then 0 else if ng then-1 else 1
theorem L5{ng:Bool}{N D:Nat}(h:(decide (bP N=0)||decide (bP D=0))=true):0=qW ng N D:=by
 rw[Px,decide_eq_true_eq,decide_eq_true_eq,j0,j0]at h;unfold qW;rcases h with rfl|rfl
 ·rfl
 rw[if_pos Z,ite_self]
theorem DP{ng:Bool}{N D:Nat}(e:N≠0)(c:D≠0):(Tree.agg [bT ng,aG (N/Nat.gcd N D),aG (D/Nat.gcd N D)])=dA (eh ng N D):=by
 obtain⟨a,d,b⟩:=qU ng (Pc e) (Pc c);unfold dA iH;rw[a,d,b]
theorem Hl{ng:Bool}{N D:Nat}(b:N≠0)(a:D≠0)(h:Nat.gcd N D=1):(Tree.agg [bT ng,aG N,aG D])=dA (eh ng N D):=by
 have:=DP (ng:=ng) b a;rwa[h,Rp,Rp]at this
theorem B2(ng:Bool){N D X E:Nat}(c:0<D)(b:0<E)(h:X*D=N*E):eh ng N D=eh ng X E:=by
 unfold eh;rw[Rat.mkRat_eq_iff (by omega) (by omega)];have a:(N:Int)*(E:Int)=(X:Int)*(D:Int):=by rw[<-RL,<-RL,h]
 cases ng
 ·simpa using a
 simp only[if_true,SV,a]
theorem j1(a b:Int){d:Nat}(c:0<d):mkRat a d+mkRat b d=mkRat (a+b) d:=by
 rw[Rat.mkRat_add_mkRat _ _ (by omega) (by omega),<-Int.add_mul,Rat.mkRat_mul_right (by omega)]
theorem pD(ng:Bool)(X Y:Nat){d:Nat}(a:0<d):eh ng X d+eh ng Y d=eh ng (X+Y) d:=by
 unfold eh;rw[j1 _ _ a];congr 1;cases ng<;>simp<;>omega
theorem tG{ng a:Bool}(h:ng≠a){X Y d:Nat}(c:0<d)(b:Y<=X):eh ng X d+eh a Y d=eh ng (X-Y) d:=by
 unfold eh;rw[j1 _ _ c];congr 1;cases ng<;>cases a<;>simp at h⊢<;>omega
theorem tH{ng a:Bool}(h:ng≠a){X Y d:Nat}(c:0<d)(b:X<Y):eh ng X d+eh a Y d=eh a (Y-X) d:=by
 unfold eh;rw[j1 _ _ c];congr 1;cases ng<;>cases a<;>simp at h⊢<;>omega
theorem xR(a b:Nat):(az (a*b)).length<=(az a).length+(az b).length:=by
 have d:=cf (az a) (cE a);have c:=cf (az b) (cE b);rw[aS]at d c;refine bk ?_;rw[PN];exact Sd d c
theorem Kd(a b L:Nat)(c:(az a).length<=L)(d:(az b).length<=L):(az (a+b)).length<=L+1:=by
 have e:=cf (az a) (cE a);have f:=cf (az b) (cE b);rw[aS]at e f;refine bk ?_;have g:(4294967296:Nat)^(az a).length<=4294967296^L:=OQ (by decide) c;have h:(4294967296:Nat)^(az b).length<=4294967296^L:=OQ (by decide) d;rw[OO];omega
theorem Ke(a b:Nat):(fz (a:Int) (b:Int) !=0)=decide (a≠b):=by
 unfold fz;rw[QQ,bne_iff_ne,decide_eq_true_iff];split
 ·constructor
  ·intro _ e;omega
  intro _ e;cases e
 split
 ·constructor
  ·intro _ e;omega
  intro _ e;cases e
 constructor
 ·intro h;exact absurd rfl h
 intro h;omega
theorem Hm{ng:Bool}{N D:Nat}(h:qW ng N D≠0):N≠0/\D≠0:=by
 unfold qW at h;constructor<;>intro e<;>subst e<;>simp at h
theorem Li{ng:Bool}{N D:Nat}(h:qW ng N D=0):eh ng N D=0:=by
 unfold qW at h;by_cases b:N=0
 ·subst b;exact nh _ _
 by_cases a:D=0
 ·subst a;exact zp _ _
 rw[if_neg b,if_neg a]at h;cases ng<;>simp at h
theorem B3(ng a:Bool){N D M E:Nat}(c:D≠0)(d:E≠0)(j:(az N).length<=262144)(i:(az D).length<=262144)(g:(az M).length<=262144)(f:(az E).length<=262144):∃X Y Z,(D=E->X=N/\Y=M/\Z=D)/\(D≠E->X=N*E/\Y=M*D/\Z=D*E)/\0<Z/\eh ng N D+eh a M E=eh ng X Z+eh a Y Z/\(az X).length<=524288/\(az Y).length<=524288/\(az Z).length<=524288:=by
 by_cases h:D=E
 ·subst h;exact⟨N,M,D,fun _=>⟨Zz,Zz,Zz⟩,fun e=>absurd Zz e,Pc c,Zz,by omega,by omega,by omega⟩
 have k:=xR N E;have m:=xR M D;have l:=xR D E;have b:0<D*E:=QZ (Pc c) (Pc d);exact⟨N*E,M*D,D*E,fun e=>absurd e h,fun _=>⟨Zz,Zz,Zz⟩,b,by rw[B2 ng (Pc c) b (show N*E*D=N*(D*E) by rw[OL,OF E]),B2 a (Pc d) b (show M*D*E=M*(D*E) by rw[OL])],by omega,by omega,by omega⟩
theorem aI:rT Tryz.prog 65=some 3:=by kernel_rfl
theorem bN:gS Tryz.prog 63=some (50,1):=by kernel_rfl
theorem pE:jm Tryz.prog 65 0=some 0:=by kernel_rfl
theorem dk:jm Tryz.prog 65 1=some 1:=by kernel_rfl
theorem cg:jm Tryz.prog 65 2=some 2:=by kernel_rfl
theorem ej:ja Tryz.prog 4=true:=by kernel_rfl
theorem gz:ja Tryz.prog 50=true:=by kernel_rfl
theorem bK:ja Tryz.prog 63=true:=by kernel_rfl
theorem fB:(Tryz.prog.info? 65).map (·.size)=some 3:=by kernel_rfl
theorem L6:sM Tryz.prog 65=some ([(0,1),(1,1),(2,1)],[.bool false,.slice none 0 0,.slice none 0 0]):=by kernel_rfl
theorem mf:gJ Tryz.prog 65=some [.bool false,.slice none 0 0,.slice none 0 0]:=by kernel_rfl
theorem pF(n:Nat):Ct 109 [aG n] (bT (decide (n=1))):=by
 have c:decide ((az n).length=1)=true->(az n)[0]? =some ((az n).getD 0 0):=fun h=>by
  have:=of_decide_eq_true h;rw[OE,Og (by omega),OW]
 refine Ct.of (n:=12) Tryz.func109 Z Z Z Z Z fun w0 G0=>?_
 refine ab<|aj 1 Z<|ab<|ae<|aa 1 Z<|ag (t:=nI ((az n).length)) Z Z Z (ah (aW Z bN Z) (by simp only[Ol]))<|ag (t:=bT (decide ((az n).length=1))) Z Z Z (ah (ai Z Z Z Zy) (au (iF ((az n).length) 1)))<|aa 1 Z<|aw (t:=.sl ((az n).map eP)) Z Z Z Z (fun a=>av Z Z)<|aw (t:=.ref [.sc (.int .u32 ((((az n).getD 0 0):Nat):Int))]) Z Z Z Z (fun a=>aK (eP ((az n).getD 0 0)) Z bN (if_pos a) Z Z (aX (f:=eP) (c a)) (eS _) Z)<|aw (t:=.sc (.int .u32 ((((az n).getD 0 0):Nat):Int))) Z Z Z Z (fun a=>be Z (if_pos a) gz Z)<|aw (t:=bT (decide (((az n).getD 0 0)=1))) Z Z Z Z (fun a=>ah (ai Z (if_pos a) Z (fun _=>rfl)) (au (iF (((az n).getD 0 0)) 1)))<|ag (t:=bT ((decide ((az n).length=1))&&(decide (((az n).getD 0 0)=1)))) Z Z Z (aL Z Z (fun b=>(if_pos b).trans (au (by rw[b];rfl))) (fun b=>(au (by rw[b];rfl))))<|aa 1 Z<|af<|ax<|⟨.inr Z,_,.cons Z .nil,au (Hk n),Z⟩
theorem Kf:Ct 208 [] (dA 0):=by
 refine Ct.of (n:=3) Tryz.func208 Z Z Z Z Z fun w0 G0=>?_
 refine ab<|aj 1 Z<|ab<|ae<|ag Z Z Z (ak Z (iy 1 (by decide)) Z Z)<|aa 2 Z<|af<|ax<|⟨.inr Z,_,.cons ⟨_,_,_,_,Z,Z,.inl ⟨_,aI,Z,Z⟩⟩ .nil,Z,Z⟩
theorem L7:Ct 131 [] (dA 1):=by
 refine Ct.of (n:=4) Tryz.func131 Z Z Z Z Z fun w0 G0=>?_
 refine ab<|aj 1 Z<|ab<|ae<|ag Z Z Z (ak Z (iy 1 (by decide)) Z Z)<|ag Z Z Z (ak Z (iy 1 (by decide)) Z Z)<|aa 2 Z<|af<|ax<|⟨.inr Z,_,.cons ⟨_,_,_,_,Z,Z,.inl ⟨_,aI,Z,Z⟩⟩ .nil,Z,Z⟩
theorem mh(ng:Bool)(N D:Nat)(f:(az N).length<=1048576)(i:(az D).length<=1048576):Ct 145 [bT ng,aG N,aG D] (dA (eh ng N D)):=by
 refine Ct.of (n:=52) Tryz.func145 Z Z Z Z Z fun w0 G0=>?_
 refine ab<|aj 1 Z<|ab<|ab<|ae<|aa 1 Z<|ag Z Z Z (ak Z (oD N f) Z Z)<|ag (t:=bT (decide (bP N=0))) Z Z Z (ah (ai Z Z Z Zy) (au (iF (bP N) 0)))<|aa 1 Z<|aw (t:=aG D) Z Z Z Z (fun g=>av Z Z)<|aw (t:=nI (bP D)) Z Z Z Z (fun g=>ak Z (oD D i) (eo (if_pos g) Z) Z)<|aw (t:=bT (decide (bP D=0))) Z Z Z Z (fun g=>ah (ai Z (if_pos g) Z (fun _=>rfl)) (au (iF (bP D) 0)))<|ag (t:=bT ((decide (bP N=0))||(decide (bP D=0)))) Z Z Z (aL Z Z (fun h=>(au (by rw[h];rfl))) (fun h=>(if_pos h).trans (au (by rw[h];rfl))))<|af<|aH Z (fun a=>?_) (fun a=>?_)
 ·refine ab<|ae<|ag Z Z Z (ak Z Kf Z Z)<|aa 1 Z<|af<|ax<|⟨.inr Z,_,.cons ⟨_,_,_,_,Z,Z,.inl ⟨_,aI,Z,Z⟩⟩ .nil,pC (L4 a),Z⟩
 have b:N≠0:=fun e=>by
  subst e;rw[show bP 0=0 from rfl]at a;cases a
 have d:D≠0:=fun e=>by
  subst e;rw[show bP 0=0 from rfl,SN]at a;cases a
 refine ar<|ab<|ae<|aa 2 Z<|ag Z Z Z (ak Z (Hj N D f i) Z Z)<|aa 1 Z<|af<|ab<|ab<|ae<|aa 1 Z<|ag Z Z Z (ak Z (pF _) Z Z)<|af<|aD Z (fun c=>?_) (fun c=>?_)
 ·refine ab<|ae<|aa 2 Z<|ag Z Z Z (ak Z (tF N (by omega)) Z Z)<|aa 1 Z<|ag Z Z Z (ak Z (tF D (by omega)) Z Z)<|aa 2 Z<|af<|ax<|⟨.inr Z,_,.cons ⟨_,_,_,_,Z,Z,.inl ⟨_,aI,Z,Z⟩⟩ .nil,Hl b d c,Z⟩
 refine ar<|ab<|ae<|aa 2 Z<|ag Z Z Z (ak Z (DN _ _ f (Oq (bi (Sg D (Pc b))) f) (Rv _ (Pc b))) Z Z)<|aa 7 Z<|af<|ab<|ae<|aa 2 Z<|ag Z Z Z (ak Z (DN _ _ i (Oq (bi (Sg D (Pc b))) f) (Rv _ (Pc b))) Z Z)<|aa 7 Z<|af<|ab<|aj 5 Z<|ax<|⟨.inr Z,_,.cons ⟨_,_,_,_,Z,Z,.inl ⟨_,aI,Z,Z⟩⟩ .nil,(DP b d),Z⟩
theorem lj(ng:Bool)(N D:Nat)(b:(az N).length<=262144)(a:(az D).length<=262144):Ct 145 [bT ng,aG N,aG D] (dA (eh ng N D)):=mh ng N D (by omega) (by omega)
theorem sk(ng:Bool)(N D:Nat)(b:(az N).length<=262144)(a:(az D).length<=262144):Ct 107 [iH ng N D] (dA (eh ng N D)):=by
 refine Ct.of (n:=10) Tryz.func107 Z Z Z Z Z fun w0 G0=>?_
 refine ab<|aj 2 Z<|ab<|ae<|aa 6 Z<|ag Z Z Z (ak Z (lj ng N D b a) Z Z)<|aa 1 Z<|af<|ax<|⟨.inr Z,_,.cons ⟨_,_,_,_,Z,Z,.inl ⟨_,aI,Z,Z⟩⟩ .nil,Z,Z⟩
theorem L8(ng:Bool)(N D:Nat):Ct 195 [iH ng N D] (iH (!ng) N D):=by
 refine Ct.of (n:=11) Tryz.func195 Z Z Z Z Z fun w0 G0=>?_
 refine ab<|aj 2 Z<|ab<|ae<|aa 2 Z<|ag (t:=bT (!ng)) Z Z Z (dw Z Z Zy)<|aa 6 Z<|af<|ax<|⟨.inr Z,_,.cons ⟨_,_,_,_,Z,Z,.inl ⟨_,aI,Z,Z⟩⟩ .nil,Z,Z⟩
theorem xS(ng:Bool)(N D:Nat)(i:(az N).length<=262144)(h:(az D).length<=262144):Ct 66 [iH ng N D] (iT (qW ng N D)):=by
 refine Ct.of (n:=15) Tryz.func66 Z Z Z Z Z fun w0 G0=>?_
 refine ab<|aj 2 Z<|ab<|ab<|ae<|aa 2 Z<|ag Z Z Z (ak Z (jG N (by omega)) Z Z)<|ag (t:=bT (decide (bP N=0))) Z Z Z (ah (ai Z Z Z Zy) (au (iF (bP N) 0)))<|aa 1 Z<|aw (t:=.box 0 2) Z Z Z Z (fun c=>aq Z Z cg Z)<|aw (t:=aG D) Z Z Z Z (fun c=>ay Z (if_pos c) Z bK Z)<|aw (t:=nI (bP D)) Z Z Z Z (fun c=>ak Z (jG D (by omega)) (eo (if_pos c) Z) Z)<|aw (t:=bT (decide (bP D=0))) Z Z Z Z (fun c=>ah (ai Z (if_pos c) Z (fun _=>rfl)) (au (iF (bP D) 0)))<|ag (t:=bT ((decide (bP N=0))||(decide (bP D=0)))) Z Z Z (aL Z Z (fun g=>(au (by rw[g];rfl))) (fun g=>(if_pos g).trans (au (by rw[g];rfl))))<|af<|aH Z (fun a=>?_) (fun a=>?_)
 ·refine ab<|aj 1 Z<|ax<|⟨.inr Z,_,.cons Z .nil,ez (L5 a),Z⟩
 have d:N≠0:=fun e=>by
  subst e;rw[show bP 0=0 from rfl]at a;cases a
 have f:D≠0:=fun e=>by
  subst e;rw[show bP 0=0 from rfl,SN]at a;cases a
 refine ar<|ab<|ab<|aj 2 Z<|aH Z (fun b=>?_) (fun b=>?_)
 ·refine ab<|aj 1 Z<|ax<|⟨.inr Z,_,.cons Z .nil,ez (by unfold qW;rw[if_neg d,if_neg f,b];rfl),Z⟩
 refine ar<|ab<|aj 1 Z<|ax<|⟨.inr Z,_,.cons Z .nil,ez (by unfold qW;rw[if_neg d,if_neg f,b];rfl),Z⟩
theorem Hn(ng c:Bool)(N D M E:Nat)(o:(az N).length<=262144)(l:(az D).length<=262144)(i:(az M).length<=262144)(q:(az E).length<=262144):Ct 132 [iH ng N D,iH c M E] (dA (eh ng N D+eh c M E)):=by
 refine Ct.of (n:=84) Tryz.func132 Zz Zz Zz Zz Zz fun w0 G0=>?_
 refine ab<|aj 3 Zz<|ab<|ab<|ae<|aa 1 Zz<|ag Zz Zz Zz (ak Zz (xS ng N D o l) Zz Zz)<|ag (t:=bT ((qW ng N D)==0)) Zz Zz Zz (ai Zz Zz Zz Zy)<|af<|aH Zz (fun e=>?_) (fun e=>?_)
 ·refine ab<|ae<|aa 1 Zz<|ag Zz Zz Zz (ak Zz (sk c M E i q) Zz Zz)<|aa 1 Zz<|af<|ax<|⟨.inr Zz,_,.cons ⟨_,_,_,_,Zz,Zz,.inl ⟨_,aI,Zz,Zz⟩⟩ .nil,pC (by rw[Li (eq_of_beq e),Rat.zero_add]),Zz⟩
 have m:=Hm (ne_of_beq_false e);refine ar<|ab<|ab<|ae<|aa 1 Zz<|ag Zz Zz Zz (ak Zz (xS c M E i q) Zz Zz)<|ag (t:=bT ((qW c M E)==0)) Zz Zz Zz (ai Zz Zz Zz Zy)<|af<|aH Zz (fun g=>?_) (fun g=>?_)
 ·refine ab<|ae<|aa 1 Zz<|ag Zz Zz Zz (ak Zz (sk ng N D o l) Zz Zz)<|aa 1 Zz<|af<|ax<|⟨.inr Zz,_,.cons ⟨_,_,_,_,Zz,Zz,.inl ⟨_,aI,Zz,Zz⟩⟩ .nil,pC (by rw[Li (eq_of_beq g),Rat.add_zero]),Zz⟩
 have u:=Hm (ne_of_beq_false g);obtain⟨X,Y,Z,v,r,f,a,y,w,z⟩:=B3 ng c m.2 u.2 o l i q;refine ar<|ab<|ck (fu:=9) [some 22,some 23,some 24,some 25,some 26,some 27,some 5,some 6,some 7] [.box 0 1,aG N,.box 1 1,aG M,.box 0 2,aG D,aG N,aG M,aG D] (by kernel_rfl) Zz Zz (by kernel_rfl) Zz ?_ ?_
 ·refine Chain.op Zz (aq Zz Zz dk Zz)<|Chain.op Zz (ay Zz Zz Zz bK Zz)<|Chain.op Zz (aq Zz Zz dk Zz)<|Chain.op Zz (ay Zz Zz Zz bK Zz)<|Chain.op Zz (aq Zz Zz cg Zz)<|Chain.op Zz (ay Zz Zz Zz bK Zz)<|Chain.op Zz (bE Zz Zz)<|Chain.op Zz (bE Zz Zz)<|Chain.op Zz (bE Zz Zz)<|Chain.nil
 refine ab<|o8 ⟨84,[(2,.box 0 0),(3,.box 1 0),(4,.box 2 0),(5,aG X),(6,aG Y),(7,aG Z)],[(65,[bT ng,aG N,aG D]),(65,[bT c,aG M,aG E]),(65,[bT false,.sl [],.sl []])],[]⟩ 3 0 ?_ ?_
 ·refine ab<|ae<|aa 4 Zz<|ag Zz Zz Zz (ak Zz (DM D E (by omega) (by omega)) Zz Zz)<|ag (t:=bT (decide (D≠E))) Zz Zz Zz (ah (ai Zz Zz Zz Zy) (au (Ke D E)))<|af<|aD Zz (fun b=>?_) (fun b=>?_)
  ·refine ab<|ck (fu:=12) [some 34,some 35,some 36,some 37,some 38,some 39,some 40,some 41,some 42,some 43,some 5,some 6] [.box 0 1,aG N,.box 1 2,aG E,aG (N*E),.box 1 1,aG M,.box 0 2,aG D,aG (M*D),aG (N*E),aG (M*D)] (by kernel_rfl) Zz Zz (by kernel_rfl) Zz ?_ ?_
   ·refine Chain.op Zz (aq Zz Zz dk Zz)<|Chain.op Zz (ay Zz Zz Zz bK Zz)<|Chain.op Zz (aq Zz Zz cg Zz)<|Chain.op Zz (ay Zz Zz Zz bK Zz)<|Chain.op Zz (ak Zz (kE _ _ (by omega) (by omega)) Zz Zz)<|Chain.op Zz (aq Zz Zz dk Zz)<|Chain.op Zz (ay Zz Zz Zz bK Zz)<|Chain.op Zz (aq Zz Zz cg Zz)<|Chain.op Zz (ay Zz Zz Zz bK Zz)<|Chain.op Zz (ak Zz (kE _ _ (by omega) (by omega)) Zz Zz)<|Chain.op Zz (bE Zz Zz)<|Chain.op Zz (bE Zz Zz)<|Chain.nil
   refine ae<|aa 4 Zz<|ag Zz Zz Zz (ak Zz (kE _ _ (by omega) (by omega)) Zz Zz)<|aa 1 Zz<|af ?_;obtain⟨k,p,s⟩:=r b;exact⟨Zz,Zz,Zz,.cons Zz Zz (.cons Zz Zz (.cons Zz Zz (.cons (vR k) Zz (.cons (vR p) Zz (.cons (vR s) Zz .nil))))),Zz⟩
  replace b:=PV.1 b;refine ar ?_;obtain⟨k,p,s⟩:=v b;exact⟨Zz,Zz,Zz,.cons Zz Zz (.cons Zz Zz (.cons Zz Zz (.cons (vR k) Zz (.cons (vR p) Zz (.cons (vR s) Zz .nil))))),Zz⟩
 refine ab<|ab<|ae<|aa 4 Zz<|ag (t:=bT (ng==c)) Zz Zz Zz (ai Zz Zz Zz Zy)<|af<|aH Zz (fun d=>?_) (fun d=>?_)
 ·refine ab<|dS (ops:=[_,_,_,_,_,_,_]) (fu:=8) (bs':=[(65,[bT ng,aG N,aG D]),(65,[bT c,aG M,aG E]),(65,[bT (decide ((eh ng (X+Y) Z).num<0)),aG ((eh ng (X+Y) Z).num.natAbs),aG ((eh ng (X+Y) Z).den)])]) [some 54,some 55,some 56,some 57,some 58,some 59,some 60] [.box 0 0,bT ng,aG X,aG Y,aG (X+Y),aG Z,.agg [bT (decide ((eh ng (X+Y) Z).num<0)),aG ((eh ng (X+Y) Z).num.natAbs),aG ((eh ng (X+Y) Z).den)]] (by kernel_rfl) Zz Zz Zz Zz Zz (by kernel_rfl) (by kernel_rfl) Zz Zz Zz Zz Zz Zz Zz Zz fB Zz Zz Zz ?_ ?_
  ·refine Chain.op Zz (aq Zz Zz pE Zz)<|Chain.op Zz (ay Zz Zz Zz ej Zz)<|Chain.op Zz (av Zz Zz)<|Chain.op Zz (av Zz Zz)<|Chain.op Zz (ak Zz (Kc _ _ (by omega) (by omega)) Zz Zz)<|Chain.op Zz (av Zz Zz)<|Chain.op Zz (ak Zz (mh _ _ _ (Oq (Kd X Y 524288 y w) (by decide)) (by omega)) Zz Zz)<|Chain.nil
  refine ax<|⟨.inr Zz,_,.cons ⟨_,_,_,_,Zz,Zz,.inl ⟨_,aI,Zz,Zz⟩⟩ .nil,pC (by rw[a,<-eq_of_beq d,pD _ _ _ f]),Zz⟩
 refine ar<|ab<|ab<|ae<|aa 2 Zz<|ag Zz Zz Zz (ak Zz (DO _ _ (by omega) (by omega)) Zz Zz)<|aa 5 Zz<|af<|ab<|aj 1 Zz<|aD Zz (fun h=>?_) (fun h=>?_)
 ·have j:=h;refine ab<|ae<|aa 4 Zz<|ag Zz Zz Zz (ak Zz (mh _ _ _ (Oq (bi (RN _ _)) (by omega)) (by omega)) Zz Zz)<|aa 1 Zz<|af<|ax<|⟨.inr Zz,_,.cons ⟨_,_,_,_,Zz,Zz,.inl ⟨_,aI,Zz,Zz⟩⟩ .nil,pC (by rw[a,tG (ne_of_beq_false d) f j]),Zz⟩
 have x:=h;refine ar<|ab<|ae<|aa 2 Zz<|ag Zz Zz Zz (ak Zz (DO _ _ (by omega) (by omega)) Zz Zz)<|aa 5 Zz<|af<|ab<|ae<|aa 4 Zz<|ag Zz Zz Zz (ak Zz (mh _ _ _ (Oq (bi (RN _ _)) (by omega)) (by omega)) Zz Zz)<|aa 1 Zz<|af<|ax<|⟨.inr Zz,_,.cons ⟨_,_,_,_,Zz,Zz,.inl ⟨_,aI,Zz,Zz⟩⟩ .nil,pC (by rw[a,tH (ne_of_beq_false d) f (by omega)]),Zz⟩
end Go.Proofs.YtfoejfohbkmmeaaGreatDoor
