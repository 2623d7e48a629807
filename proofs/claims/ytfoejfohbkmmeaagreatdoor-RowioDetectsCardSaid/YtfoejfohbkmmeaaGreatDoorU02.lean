import Derived.Test.YtfoejfohbkmmeaaGreatDoorU00
import Derived.Test.YtfoejfohbkmmeaaGreatDoorU01
import Derived.Lib.AtoiErrMem
import Derived.Test.YtfoejfohbkmmeaaGreatDoorCards
import Derived.Test.YtfoejfohbkmmeaaGreatDoorTie
import Derived.ProofKit
import Derived.OpenShut
import Derived.Deep.DeepHandedRow
import Derived.Lib.LaidTab
import Derived.Lib.SmallJoins
import Derived.Stop.LaidErr
import Derived.Lay
import Derived.SevenTiedAt
import Derived.Maps.AppendAt
import Derived.Lib.AppendStr
import Derived.OwnWalk
import Derived.Deep.Slices
import Derived.Orders
import Derived.StillTail
import Derived.Tactics
set_option maxRecDepth 100000
namespace Go.Proofs.YtfoejfohbkmmeaaGreatDoor
open Go.RowKit
theorem yP(w:World)(k:Nat)(a:Array Obj):Below w.heap.size w (Go.Sort.grow (w.drewN k) a):=
 ⟨Z,Z,Z,by simp[Go.Sort.grow],fun i b=>by simp[Go.Sort.grow,World.drewN,Oz b]⟩
theorem tG(n:Int)(w:World)(f: -9223372036854775808<=n)(g:n<=9223372036854775807)(b:Env w):
  Calls Tryz.prog 105 #[.int .i64 n,.int .i64 10] w fun e w'=>e=.returned (.string ⟨(Lib.itoa n).toArray⟩)/\Below w.heap.size w w':=
 (Tryz.strconv_FormatInt_10 n f g w b.pow10).mono fun e w' ⟨d,k,a,c⟩=>⟨d,by subst c;exact yP w k a⟩
theorem p6(s:ByteArray)(v:Int)(w:World)(c:s.size<=281474976710656)(h:Lib.parseIntB 64 s.data.toList=.ok v):
  Calls Tryz.prog 142 #[.string s,.int .i64 10,.int .i64 64] w fun e w'=>e=.returned (.tuple #[.int .i64 v,.nilIface])/\Below w.heap.size w w':=
 (Tryz.strconv_ParseInt_10_at64_ok s (by omega) v h w).mono fun e w' ⟨a,b⟩=>⟨a,by
  rcases b with rfl|⟨t,rfl⟩
  ·exact Below.refl _ _
  exact Lib.bytesWorld_below _ _ _⟩
def Gw(w:World)(e:Ending)(w':World):Prop:=∃(v:Int) (N:Nat),e=.returned (.tuple #[.int .i64 v,.iface 233 (.pointer (some ⟨N,0,none⟩))])/\Below w.heap.size w w'
theorem u9(s:ByteArray)(w:World)(g:s.size<=281474976710656)(h:∀v,Lib.parseIntB 64 s.data.toList≠ .ok v)(f:Env w):
  Calls Tryz.prog 142 #[.string s,.int .i64 10,.int .i64 64] w (Gw w):=by
 obtain⟨k,p,l⟩:=f.errSyntax;obtain⟨d,i,j⟩:=f.errRange;cases a:Lib.parseIntB 64 s.data.toList with
 |ok v=>exact absurd a (h v)
 |_=>
  first
   |exact(Tryz.strconv_ParseInt_10_at64_range_var s g a d i w j).mono fun e w' ⟨N,b,_,_,c⟩=>⟨_,N,b,c⟩
   |exact(Any.strconv_ParseInt_10_at64_syntax_var Tryz.laysC174 s g a k p w l).mono fun e w' ⟨N,b,_,_,c⟩=>⟨_,N,b,c⟩
theorem eN(s p:ByteArray)(w:World):
  Calls Tryz.prog 77 #[.string s,.string p] w fun e w'=>e=.returned (.bool (Lib.hasPrefix s.data.toList p.data.toList))/\w=w':=
 (Tryz.strings_HasPrefix s p w).mono fun _ _ ⟨a,b⟩=>⟨a,b.symm⟩
theorem gI(s old new:ByteArray)(w:World)(g:s.size<=4294967280)(a:1<=old.size)(f:new.size<=2)(b:Env w):
  Calls Tryz.prog 106 #[.string s,.string old,.string new] w fun e w'=>e=.returned (.string ⟨(Lib.replaceAll s.data.toList old.data.toList new.data.toList).toArray⟩)/\Below w.heap.size w w':=by
 obtain⟨m,d⟩:=b.maxLen;have c:=Lib.countB_le old a s.size s (L5 _);exact Tryz.strings_ReplaceAll s old new m w (by omega) d a (by
  have:Lib.countB s old*new.size<=s.size*2:=NU c f;omega)
end Go.Proofs.YtfoejfohbkmmeaaGreatDoor
namespace Go.Proofs.YtfoejfohbkmmeaaGreatDoor
open Go.ChangeShapes Go.WideShapes Go.ChangeAt Go.RowKit
theorem own:ownKnob Tryz.prog.godebug=none:=by kernel_rfl
theorem Gx:laidOutB Tryz.prog=true:=by kernel_rfl
abbrev tP:List (String×DataW Unit):=Rows.rowioLinesRow.laid
theorem yQ:(Tryz.prog.globals[1]?).map (·.type)=some 241:=by kernel_rfl
theorem rp:(Tryz.prog.globals[4]?).map (·.type)=some 163:=by kernel_rfl
theorem tH:(Tryz.prog.globals[5]?).map (·.type)=some 163:=by kernel_rfl
theorem yR:Tryz.prog.cellsOf 241=20:=by kernel_rfl
theorem DX:Tryz.prog.cellsOf 89=1:=by kernel_rfl
theorem DY{n:String}{g:Nat}{m:String}{d:DataW Unit}{r:List (String×DataW Unit)}{W:World}(h:laidMet Tryz.prog ((n,.iface m d)::r) W)(j:Tryz.prog.globalNamed n=some g)
  (i:(Tryz.prog.globals[g]?).map (·.type)=some 163):∃l p,W.var? Tryz.prog n=some #[.iface l p]:=by
 obtain⟨ps,⟨o,s,cs,f,p,q,c,b,a,k,_,_⟩,_⟩:=h;obtain rfl:=Nt (j.symm.trans c);obtain rfl:=Nt (i.symm.trans b);obtain⟨_,u,v,e,_⟩:=iface_of_trod Tryz.underlying163 k;exact⟨u,v,by rw[a];congr 1;exact Array.toList_inj.1 e⟩
theorem IC{W:World}(a:laidMetH Tryz.prog tP W)(b:W.ShapedOpen Tryz.prog):Env W:=by
 have a:laidMet Tryz.prog tP W:=by rwa[MakeChecks.laidMetH_plain _ _ _ (by kernel_rfl)]at a
 have c:=a.tail.tail;have d:=c.tail.tail;refine⟨Tryz.laysM155.s1_3 W b,Lib.tabIs_of_head yN yQ Tryz.underlying241 Tryz.underlying89 DX yR c,DY d.tail nl rp,DY d pk tH⟩
theorem DZ(a:Os)(args:Array Value):laidMet Tryz.prog tP ((World.laidAll Tryz.prog a tP).forCall (fun _ _=>0) ⟨#[],args,[]⟩).memory:=
 laidMet_laidAll _ (by kernel_rfl) (by kernel_rfl)
section
variable {H:Type} {enc:TypeId×Value->H}
theorem tI{P:Program}(g:laidOutB P=true){W W':World}(l:Below W.heap.size W W')(ts:List TypeId):∀(vs:List Value) (c:List (DataW H)) (p:List MemPlace),(ts.all fun t=>P.readableRec t&&decide (t<P.types.size))=true->
  DataW.TrodAll enc P W 0 (fun _=>true) true ts vs c p->(∀x∈p,x.block<W.heap.size)->DataW.TrodAll enc P W' 0 (fun b=>decide (b<W.heap.size)) true ts vs c p:=by
 induction ts with
 |nil=>
  intro vs c p _ h _;obtain⟨rfl,rfl,rfl⟩:=trodAll_nil h;exact trodAll_mk0
 |cons t ts ih=>
  intro vs c p e h a;obtain⟨v,i,d,j,n,o,rfl,rfl,rfl,k,m⟩:=trodAll_cons h;simp only[NP,Ma,decide_eq_true_eq]at e;exact trodAll_cons_mk (Below.trod g e.1.1 e.1.2 k l fun x f=>a x (Om _ f)) (ih _ _ _ (by simpa using e.2) m fun x f=>a x (Pq _ f))
theorem D0{f:Func}{s:ChangeSpec}{W W':World}{args:Array Value}{b d:List (DataW H)}{a:List MemPlace}
  (j:DataW.Whole enc Tryz.prog f.params.toList s.vars false W args.toList b d a) (m:s.vars=[]) (c:f.resultTypes=#[4]) (e:(f.params.toList.all fun t=>Tryz.prog.readableRec t&&decide (t<Tryz.prog.types.size))=true)
  (u:(s.fn H (b++d)).results=[.lit (.bool true)]) (v:(s.fn H (b++d)).args=b) (r:(s.fn H (b++d)).vars=[]) (l:Below W.heap.size W W'):
  s.post enc Tryz.prog f false true false false W args (.bool true) W':=by
 have k:=fun x i=>j.lt x i
 have g:=j;obtain⟨p,q,o,n,rfl,_,_⟩:=j;rw[m]at n;obtain⟨rfl,rfl⟩:=trodVars_none n;refine⟨b,[],p++[],[],p,[],g,?_,?_,?_,l.frame _,fun h=>by cases h⟩
 ·rw[u,c];exact trodAll_mk1 (shut_bool Tryz.underlying4 _)
 ·rw[v];exact tI Gx l _ _ _ _ e o fun x i=>k x (by simpa using i)
 rw[r,m];rfl
theorem yS{C:Checked}{k:Os}{f:FuncId}{l:Func}{s:OpenSpec}{c:List PathCond}{b:Bool}{d:List (String×DataW Unit)}(w0:World)(args:Array Value)(h:w0.os=k)
  (j:(w0.forCall (fun _ _=>0) ⟨#[],args,[]⟩).Shaped C.prog) (e:Input.okWideB C.prog (w0.forCall (fun _ _=>0) ⟨#[],args,[]⟩) f ⟨#[],args,[]⟩=true)
  (g:s.preRow enc C.prog l c b d (w0.forCall (fun _ _=>0) ⟨#[],args,[]⟩).memory args):
  ∃(w:World) (a:Tape) (i:Input),w.os=k/\(w.forCall a i).Shaped C.prog/\i.vars=[]/\Input.okWide C.prog (w.forCall a i) .any w.heap.size f i/\
   s.preRow enc C.prog l c b d (w.forCall a i).memory i.args/\({}:Assume).holds C.prog (lone (Frame.enter C.prog f i.args .normal) [] (w.forCall a i)):=
 ⟨w0,fun _ _=>0,⟨#[],args,[]⟩,h,j,(Input.okWide_of_okWideB (base:=0) e).1,(Input.okWide_of_okWideB e).2,g,by
  simp only[Assume.holds];exact⟨by simp,by simp,fun _=>Modest.zero,by simp,by simp⟩⟩
end
end Go.Proofs.YtfoejfohbkmmeaaGreatDoor
namespace Go.Proofs.YtfoejfohbkmmeaaGreatDoor
open Go.ChangeShapes Go.WideShapes Go.ChangeAt Go.RowKit Go.Joins
end Go.Proofs.YtfoejfohbkmmeaaGreatDoor
namespace Go.Proofs.YtfoejfohbkmmeaaGreatDoor
open Go.RowKit
theorem lQ(w:World)(t:TypeId)(cs:Array Value):
  ∃W,w.alloc (.cells cs t)=W/\Below w.heap.size w W/\IsBlk W w.heap.size t cs/\W.heap.size=w.heap.size+1:=
 ⟨_,Z,(Below.refl _ _).alloc (L5 _) _,dP _ _ _,by simp⟩
theorem pm(w:World)(t u:TypeId)(cs a:Array Value):
  ∃W,(w.alloc (.cells cs t)).alloc (.cells a u)=W/\Below w.heap.size w W/\IsBlk W w.heap.size t cs/\IsBlk W (w.heap.size+1) u a/\W.heap.size=w.heap.size+2:=by
 refine⟨_,Z,((Below.refl _ _).alloc (L5 _) _).alloc (by simp) _,(dP _ _ _).alloc _,?_,by simp⟩;have:=dP (w.alloc (.cells cs t)) u a;simpa using this
theorem Lq(w:World)(t u v:TypeId)(cs a es:Array Value):
  ∃W,((w.alloc (.cells cs t)).alloc (.cells a u)).alloc (.cells es v)=W/\Below w.heap.size w W/\IsBlk W w.heap.size t cs/\IsBlk W (w.heap.size+1) u a/\IsBlk W (w.heap.size+2) v es/\W.heap.size=w.heap.size+3:=by
 obtain⟨W,d,c,e,f,b⟩:=pm w t u cs a;rw[d];refine⟨_,Z,c.alloc c.size _,e.alloc _,f.alloc _,?_,by simp[b]⟩;have:=dP W v es;rwa[b]at this
theorem ak{B:Nat}{w W W':World}(h:Below B w W)(b:Below W.heap.size W W')(a:B<=W.heap.size):Below B w W':=h.trans (b.mono a)
def At(w:World)(B:Nat)(A:Option Addr)(xs:List Value):Prop:=
 0<xs.length->∃b off,A=some ⟨b,off,none⟩/\b<B/\∀(j:Nat) u,xs[j]? =some u->w.cell? ⟨b,off+j,none⟩=some u
theorem At.keep{w w':World}{B:Nat}{A:Option Addr}{xs:List Value}(h:At w B A xs)(c:∀p:Addr,p.block<B->w'.cell? p=w.cell? p):At w' B A xs:=fun f=>by
 obtain⟨b,off,e,a,d⟩:=h f;exact⟨b,off,e,a,fun j u g=>(c ⟨b,off+j,none⟩ a).trans (d j u g)⟩
theorem At.below{w w':World}{B:Nat}{A:Option Addr}{xs:List Value}(h:At w B A xs)(b:Below B w w'):At w' B A xs:=h.keep fun _ a=>b.cell a
theorem At.more{w:World}{B a:Nat}{A:Option Addr}{xs:List Value}(h:At w B A xs)(f:B<=a):At w a A xs:=fun d=>by
 obtain⟨b,off,e,g,c⟩:=h d;exact⟨b,off,e,by omega,c⟩
theorem At.nil(w:World)(B:Nat)(A:Option Addr):At w B A []:=fun h=>absurd h (by simp)
theorem mu{w:World}{base:Nat}{e:TypeId}{size n c:Nat}{A:Option Addr}{xs:List Value}(h:w.ownsRow base e size (.slice A n c) n xs):At w w.heap.size A xs:=fun i=>by
 rcases h.2 with⟨a,d⟩|⟨g,l,cur,a,_,k,_⟩
 ·have:=h.1;rw[d]at this;simp at this;subst this;simp at i
 injection a with b
 subst b;refine⟨g,0,Z,(ML.1 k).1,fun j u f=>?_⟩;have:=h.cells (g:=g) Z j u f;rwa[show(⟨g,0,none⟩:Addr).add j=⟨g,0+j,none⟩from by unfold Addr.add;split<;>simp_all]at this
structure V where
 t:Int
 n:Int
 s:ByteArray
def V.cells(v:V):List Value:=[.int .i64 v.t,.int .i64 v.n,.string v.s]
def co(l:List V):List Value:=l.flatMap V.cells
theorem d8:∀l:List V,(co l).length=3*l.length
 |[]=>rfl
 |v::l=>by
  have:=d8 l;simp only[co,OD,Mc,Mb,V.cells,Mo]at this⊢;omega
theorem pn:∀(l:List V) (i:Nat) (v:V),l[i]? =some v->(co l)[3*i]? =some (.int .i64 v.t)/\(co l)[3*i+1]? =some (.int .i64 v.n)/\(co l)[3*i+2]? =some (.string v.s)
 |[],i,v,h=>by simp at h
 |u::l,0,v,h=>by simp at h;subst h;simp[co,V.cells]
 |u::l,i+1,v,h=>by
  have a:=pn l i v (by simpa using h);have e:∀j,(co (u::l))[j+3]? =(co l)[j]? :=fun j=>by simp[co,V.cells]
  refine⟨?_,?_,?_⟩
  ·rw[show 3*(i+1)=3*i+3 by omega,e];exact a.1
  ·rw[show 3*(i+1)+1=3*i+1+3 by omega,e];exact a.2.1
  rw[show 3*(i+1)+2=3*i+2+3 by omega,e];exact a.2.2
theorem At.val{w:World}{B:Nat}{A:Option Addr}{l:List V}{i:Nat}(h:At w B A (co l))(c:i<l.length):
  ∃b off,A=some ⟨b,off,none⟩/\b<B/\w.cell? ⟨b,off+i*3,none⟩=some (.int .i64 l[i].t)/\w.cell? ⟨b,off+i*3+1,none⟩=some (.int .i64 l[i].n)/\w.cell? ⟨b,off+i*3+2,none⟩=some (.string l[i].s):=by
 obtain⟨b,off,e,f,a⟩:=h (by rw[d8];omega);obtain⟨d,g,j⟩:=pn l i l[i] (L4 c);refine⟨b,off,e,f,?_,?_,?_⟩
 ·rw[Mt];exact a _ _ d
 ·rw[Mt];exact a _ _ g
 rw[Mt];exact a _ _ j
def bH(l:List UInt8):List Value:=l.map fun c=>.int .u8 c.toNat
theorem eO(l:List UInt8):(bH l).length=l.length:=by simp[bH]
theorem it(a b:List UInt8):bH (a++b)=bH a++bH b:=by simp[bH]
end Go.Proofs.YtfoejfohbkmmeaaGreatDoor
namespace Go.Proofs.YtfoejfohbkmmeaaGreatDoor
open Go.ChangeShapes Go.WideShapes Go.ChangeAt Go.RowKit Go.Joins Go.Deep
open Lib renaming hid→J
section
variable {H:Type} {enc:TypeId×Value->H} {W:World} {b0 base:Nat} {spare:Nat->Bool} {held:Bool}
instance:Inhabited V:=⟨⟨0,0,⟨#[]⟩⟩⟩
theorem mv{n:Nat}(h:n<=maxLen):n<=9223372036854775807:=by unfold maxLen at h;omega
theorem tQ:Tryz.prog.cellsOf 5=1:=by kernel_rfl
end
theorem Cr:Tryz.prog.cellsOf 3=1:=by kernel_rfl
def kQ(l:List Int):List Value:=l.map fun x=>.int .i64 x
theorem yT{H:Type}{enc:TypeId×Value->H}{W:World}{G base:Nat}{i:Nat->Bool}{k:Bool}{v:Value}{d:DataW H}{p:List MemPlace}
  (M:Value.okWide Tryz.prog W .any G 23 v) (h:DataW.Trod enc Tryz.prog W base i k 23 v d p):
  ∃(A:Option Addr) (l:List Int) (c:Nat),v=.slice A l.length c/\At W W.heap.size A (kQ l)/\l.length<=c/\c<=9223372036854775807/\(A=none->c=0):=by
 obtain⟨O,len,n,rfl⟩:=okWide_slice Tryz.underlying23 M;obtain⟨w,L⟩:=h;rcases open_ints Tryz.underlying23 Tryz.underlying3 Cr L with⟨g,_⟩|⟨a,z,t,m,g,_,E,N,C,_,f,I⟩
 ·simp[Value.cells]at g;obtain⟨rfl,rfl,rfl⟩:=g;exact⟨none,[],0,Z,At.nil _ _ _,by simp,by simp,fun _=>rfl⟩
 simp[Value.cells]at g;obtain⟨rfl,rfl,rfl⟩:=g;have F:len<=m.length:=by rw[C];split<;>omega
 have e:(m.take len).length=len:=by simp;omega
 have y:(kQ (m.take len)).length=len:=by unfold kQ;rw[L8,e]
 refine⟨some a,m.take len,n,by rw[e],fun K=>?_,by rw[e];exact E,mv N,fun e=>by cases e⟩;rw[y]at K;have s:=f 0 (by omega);have B:a.spot=none:=by
  have:=World.cell?_spot s;simpa[Addr.add]using this
 refine⟨a.block,a.off,by cases a;simp_all,?_,fun j u r=>?_⟩
 ·have:=World.block_lt_of_cell? _ _ s;simpa[block_add]using this
 have D:j<len:=by
  have:=(L7.1 r).1;rwa[y]at this
 have x:=f j (by omega);have J:a.add j=⟨a.block,a.off+j,none⟩:=by
  obtain⟨b,o,P⟩:=a;simp only at B;subst B;exact add_plain b o j
 rw[J]at x;rw[x,<-r];have q:j<m.length:=by omega
 simp only[kQ,MQ,MZ,D,if_true,L4 q,Nu,List.getD,MK]
end Go.Proofs.YtfoejfohbkmmeaaGreatDoor
namespace Go.Proofs.YtfoejfohbkmmeaaGreatDoor
open Lib renaming hid→J
def fC(listed:Array Bool)(o:Oper):Prop:=∀e∈o.after,Region.binds .any e=true->listed.getD e.on false=true
theorem GA{P:Program}{o:Oper}{a:Act}{w:World}{K:Act->World->Prop}{Q:Exit->Act->World->Prop}(h:o.wp P a w K (Exit.then K Q)):o.wp P a w K Q:=by
 unfold Oper.wp at*;generalize (execOp a.eval o).run P w=r at*;cases r with
 |ok n w'=>
  cases n<;>simp only[Oper.upon]at h⊢<;>
   first
    |exact h
    |exact Calls.mono h (fun e c b=>by cases e<;>exact b)
 |halt x w'=>cases x<;>simp only[Oper.upon]at h⊢<;>exact h
theorem ve{P:Program}{ops:Array Oper}{i:Nat}{o:Oper}{a:Act}{w:World}{K:Act->World->Prop}{Q:Exit->Act->World->Prop}(b:ops[i]? =some o)
  (h:wpList P ops (Exit.then K Q) [o] a w):wpOp P ops Q i K a w:=by
 unfold wpOp;simp only[b];simp only[wpList]at h;split
 ·rename_i hw;rw[if_pos hw]at h;rcases h with h|h
  ·exact .inl (GA h)
  exact .inr h
 rename_i hw;rw[if_neg hw]at h;exact h
def lR(listed:Array Bool):Nat:=listed.toList.count false
theorem nT{a:Array Bool}{i:Nat}(h:a.getD i true=false):lR (a.setIfInBounds i true)+1=lR a:=by
 have e:i<a.size:=by
  rcases MI i a.size with d|d
  ·exact d
  simp[OO d]at h
 have c:a.toList[i]? =some false:=by
  simp[e]at h⊢;exact h
 unfold lR;rw[NQ];obtain⟨l⟩:=a;simp only at c⊢;clear h e;induction l generalizing i with
 |nil=>simp at c
 |cons b l ih=>
  cases i with
  |zero=>simp at c;subst c;simp
  |succ i=>
   have:=ih (i:=i) (by simpa using c);cases b<;>simp[]<;>omega
def dM(ops:Array Oper):Bool:=(List.range ops.size).all fun i=>((ops[i]?).map fun o=>o.after.all fun e=> !Region.binds .any e||decide (e.on<i)).getD true
theorem rq{ops:Array Oper}{a:Array Bool}(d:dM ops=true)(g:a.size=ops.size)(l:Region.ready .any ops a=[]):∀(k i:Nat),i<=k->i<ops.size->a.getD i false=true:=by
 intro k;induction k with
 |zero=>
  intro i m b;obtain rfl:i=0:=by omega
  cases c:a.getD 0 true with
  |true=>simp[g,b]at c⊢;exact c
  |false=>
   have f:(0:Nat)∈Region.ready .any ops a:=mem_ready.2 ⟨c,ops[0],MH b,fun e h j=>by
    have:=Mh.1 d 0 (N1.2 b);rw[MH b]at this;simp only[Nu,MK,Pn,M5,decide_eq_true_eq]at this;have:=(this e h).resolve_left (by rw[j];decide);omega⟩
   rw[l]at f;cases f
 |succ k ih=>
  intro i m b;cases c:a.getD i true with
  |true=>simp[g,b]at c⊢;exact c
  |false=>
   have f:i∈Region.ready .any ops a:=mem_ready.2 ⟨c,ops[i],MH b,fun e h j=>by
    have:=Mh.1 d i (N1.2 b);rw[MH b]at this;simp only[Nu,MK,Pn,M5,decide_eq_true_eq]at this;have:=(this e h).resolve_left (by rw[j];decide);exact ih e.on (by omega) (by omega)⟩
   rw[l]at f;cases f
theorem Cu{P:Program}{ops:Array Oper}{Q:Exit->Act->World->Prop}(I:Array Bool->Act->World->Prop)(j:dM ops=true)
  (f:∀(b:Array Bool) (a:Act) (w:World) (i:Nat) (o:Oper),b.size=ops.size->b.getD i true=false->ops[i]? =some o->fC b o->I b a w->wpList P ops (Exit.then (I (b.setIfInBounds i true)) Q) [o] a w)
  (e:∀(b:Array Bool) (a:Act) (w:World),(∀i,i<ops.size->b.getD i false=true)->I b a w->Q .normal a w):
  ∀(c:Nat) (b:Array Bool) (a:Act) (w:World),b.size=ops.size->lR b<=c->I b a w->wpAny P .any ops Q c b a w:=by
 intro c;induction c with
 |zero=>
  intro b a w d s n;have g:Region.ready .any ops b=[]:=by
   cases g:Region.ready .any ops b with
   |nil=>rfl
   |cons i l=>
    have r:=(mem_ready.1 (show i∈Region.ready .any ops b by rw[g];exact Mr ..)).1;have:=nT r;omega
  exact⟨g,e b a w (fun i h=>rq j d g i i (L5 _) h) n⟩
 |succ c ih=>
  intro b a w d s n;refine⟨fun g=>e b a w (fun i h=>rq j d g i i (L5 _) h) n,fun i h=>?_⟩;obtain⟨k,o,p,m⟩:=mem_ready.1 h;have t:=ve p (f b a w i o d k p m n);refine wpOp_mono (fun u w' q=>ih _ u w' (by simpa using d) ?_ q) t;have:=nT k;omega
theorem dF{P:Program}{id:Nat}{ops:Array Oper}{Q:Exit->Act->World->Prop}{a:Act}{w:World}(I:Array Bool->Act->World->Prop)(f:P.follows .mixedOrders=true)(e:dM ops=true)
  (g:I (Array.replicate ops.size false) a w.drew)
  (c:∀(b:Array Bool) (a:Act) (w:World) (i:Nat) (o:Oper),b.size=ops.size->b.getD i true=false->ops[i]? =some o->fC b o->I b a w->wpList P ops (Exit.then (I (b.setIfInBounds i true)) Q) [o] a w)
  (d:∀(b:Array Bool) (a:Act) (w:World),(∀i,i<ops.size->b.getD i false=true)->I b a w->Q .normal a w):(Code.region id ops true).wp P Q a w:=
 wp_region_any f (Cu I e c d ops.size _ a _ (by simp) (by unfold lR;simp) g)
theorem wG(t:Array Value)(i:Nat)(d:Value):t.setIfInBounds i (t.getD i d)=t:=by
 rcases MI i t.size with h|h
 ·apply OW;rw[NQ];apply PN;intro j;rw[OQ];split
  ·rename_i e;subst e;simp[h]
  rfl
 simp[Array.setIfInBounds,Nat.not_lt.2 h]
theorem cM{L:Array Bool}{i:Nat}(h:i<L.size):(L.setIfInBounds i true).getD i false=true:=by simp[h]
theorem am{L:Array Bool}{i j:Nat}(h:i≠j):(L.setIfInBounds i true).getD j false=L.getD j false:=getD_set_ne false h
theorem dG{n j:Nat}:¬(Array.replicate n false).getD j false=true:=by
 rcases MI j n with h|h<;>simp[h]
def Closed(ops:Array Oper)(L:Array Bool):Prop:=∀(j:Nat) (o:Oper),ops[j]? =some o->L.getD j false=true->fC L o
theorem eI(ops:Array Oper):Closed ops (Array.replicate ops.size false):=fun _ _ _ h=>absurd h dG
theorem Closed.step{ops:Array Oper}{L:Array Bool}{i:Nat}{o:Oper}(h:Closed ops L)(k:ops[i]? =some o)(l:fC L o):Closed ops (L.setIfInBounds i true):=by
 intro j f g d;by_cases a:i=j
 ·subst a;obtain rfl:o=f:=Nt (k.symm.trans g);exact fun e b c=>getD_set_true (l e b c)
 rw[am a]at d;exact fun e b c=>getD_set_true (h j f g d e b c)
def b8(t:Array Value):List (Option Nat×Value)->Array Value
 |[]=>t
 |(some s,v)::l=>b8 (t.setIfInBounds s v) l
 |(none,_)::l=>b8 t l
def bV(n:Nat):List (Option Nat)->Bool
 |[]=>true
 |none::l=>bV n l
 |some s::l=> !l.contains (some s)&&decide (s<n)&&bV n l
def fZ(t:Array Value):List (Option Nat)->List Value
 |[]=>[]
 |some s::l=>t.getD s undef::fZ t l
 |none::l=>undef::fZ t l
theorem dj(t:Array Value):∀l,(fZ t l).length=l.length
 |[]=>rfl
 |some _::l=>by simp[fZ,dj t l]
 |none::l=>by simp[fZ,dj t l]
theorem jg(t:Array Value):∀(l:List (Option Nat)) (j s:Nat),l[j]? =some (some s)->(fZ t l).getD j undef=t.getD s undef
 |[],j,s,h=>by simp at h
 |x::l,0,s,h=>by
  simp at h;subst h;rfl
 |x::l,j+1,s,h=>by
  have:=jg t l j s (by simpa using h);cases x<;>simpa[fZ]using this
theorem gX(t:Array Value):∀l:List (Option Nat),b8 t (l.zip (fZ t l))=t
 |[]=>rfl
 |some s::l=>by simp only[fZ,Mn,b8,wG];exact gX t l
 |none::l=>by simp only[fZ,Mn,b8];exact gX t l
theorem fy:∀(l:List (Option Nat×Value)) (t:Array Value),(b8 t l).size=t.size
 |[],_=>rfl
 |(some s,v)::l,t=>by simp only[b8,fy l];simp
 |(none,_)::l,t=>by simp only[b8,fy l]
theorem set_comm(t:Array Value)(i j:Nat)(u v:Value)(h:i≠j):(t.setIfInBounds i u).setIfInBounds j v=(t.setIfInBounds j v).setIfInBounds i u:=by
 apply OW;simp only[NQ];exact List.set_comm _ _ h
theorem set_set(t:Array Value)(i:Nat)(u v:Value):(t.setIfInBounds i u).setIfInBounds i v=t.setIfInBounds i v:=by
 apply OW;simp
theorem rx:∀(a:List (Option Nat)) (us:List Value) (t:Array Value) (s:Nat) (v:Value),a.contains (some s)=false->(b8 t (a.zip us)).setIfInBounds s v=b8 (t.setIfInBounds s v) (a.zip us)
 |[],_,_,_,_,_=>by simp[b8]
 |_::_,[],_,_,_,_=>by simp[b8]
 |none::a,u::us,t,s,v,h=>by
  simp only[Mn,b8];exact rx a us t s v (by simpa using h)
 |some d::a,u::us,t,s,v,h=>by
  simp only[Mn,b8];simp only[OM,Mz]at h;have b:d≠s:=by
   have:=h.1;intro e;subst e;simp at this
  rw[rx a us _ s v h.2,set_comm _ _ _ _ _ b]
theorem eC:∀(a:List (Option Nat)) (us:List Value) (t:Array Value) (s:Nat),a.contains (some s)=false->(b8 t (a.zip us)).getD s undef=t.getD s undef
 |[],_,_,_,_=>by simp[b8]
 |_::_,[],_,_,_=>by simp[b8]
 |none::a,u::us,t,s,h=>by
  simp only[Mn,b8];exact eC a us t s (by simpa using h)
 |some d::a,u::us,t,s,h=>by
  simp only[Mn,b8];simp only[OM,Mz]at h;have b:d≠s:=by
   have:=h.1;intro e;subst e;simp at this
  rw[eC a us _ s h.2];simp[b]
theorem cl:∀(a:List (Option Nat)) (us:List Value) (t:Array Value) (j s:Nat),bV t.size a=true->us.length=a.length->a[j]? =some (some s)->(b8 t (a.zip us)).getD s undef=us.getD j undef/\s<t.size
 |[],_,_,j,s,_,_,h=>by simp at h
 |x::a,[],t,j,s,ha,hl,h=>by simp at hl
 |x::a,u::us,t,0,s,ha,hl,h=>by
  simp only[MW,MN]at h;subst h;simp only[bV,Ma,Nj,decide_eq_true_eq]at ha;simp only[Mn,b8];rw[eC _ _ _ _ ha.1.1];exact⟨by simp[ha.1.2],ha.1.2⟩
 |x::a,u::us,t,j+1,s,ha,hl,h=>by
  have b:a[j]? =some (some s):=by simpa using h
  cases x with
  |none=>
   have:=cl a us t j s ha (by simpa using hl) b;simpa[b8]using this
  |some d=>
   simp only[bV,Ma]at ha;have:=cl a us (t.setIfInBounds d u) j s (by simpa using ha.2) (by simpa using hl) b;simpa[b8]using this
theorem iE:∀(a:List (Option Nat)) (us:List Value) (t:Array Value) (d:List Deferred) (i:Nat) (o:Option Nat) (v:Value),bV t.size a=true->us.length=a.length->a[i]? =some o->
  (⟨b8 t (a.zip us),d⟩:Act).put o v=⟨b8 t (a.zip (us.set i v)),d⟩
 |[],_,_,_,i,o,v,_,_,h=>by simp at h
 |x::a,[],t,d,i,o,v,ha,hl,h=>by simp at hl
 |x::a,u::us,t,d,0,o,v,ha,hl,h=>by
  simp only[MW,MN]at h;subst h;cases x with
  |none=>rfl
  |some s=>
   simp only[bV,Ma,Nj]at ha;simp only[Mn,b8,Ms,Act.put];rw[rx _ _ _ _ _ ha.1.1,set_set]
 |x::a,u::us,t,d,i+1,o,v,ha,hl,h=>by
  have b:a[i]? =some o:=by simpa using h
  cases x with
  |none=>
   simp only[Mn,b8,Mv];exact iE a us t d i o v ha (by simpa using hl) b
  |some s=>
   simp only[bV,Ma]at ha;simp only[Mn,b8,Mv];exact iE a us _ d i o v (by simpa using ha.2) (by simpa using hl) b
def cA(T:Nat->Value):Operand->Value
 | .tmp s=>T s
 | .const v=>v
 | .global g=>.pointer (some ⟨g,0,none⟩)
 | .func f=>.func (.func f) #[] #[]
theorem vf(a:Act):a.eval=cA fun s=>a.tmps.getD s undef:=by
 funext x;cases x<;>rfl
def OpRuns(P:Program)(o:Oper)(T:Nat->Value)(W:World)(K:Value->World->Prop):Prop:=
 match (execOp (cA T) o).run P W with
 | .ok (.value v) W'=>K v W'
 | .ok .skip W'=>K undef W'
 | .ok (.enter f args) W'=>Calls P f args W' fun e W''=>∃v,e=.returned v/\K v W''
 |_=>False
theorem aq{P:Program}{o:Oper}{T:Nat->Value}{W W':World}{K:Value->World->Prop}{v:Value}(h:(execOp (cA T) o).run P W=.ok (.value v) W')(a:K v W'):OpRuns P o T W K:=by
 unfold OpRuns;rw[h];exact a
theorem bJ{P:Program}{o:Oper}{T:Nat->Value}{W:World}{K:Value->World->Prop}{f:FuncId}{args:Array Value}(h:(execOp (cA T) o).run P W=.ok (.enter f args) W)(b:Calls P f args W fun e a=>∃v,e=.returned v/\K v a):OpRuns P o T W K:=by
 unfold OpRuns;rw[h];exact b
theorem OpRuns.wp{P:Program}{o:Oper}{a:Act}{W:World}{K:Value->World->Prop}{Q:Exit->Act->World->Prop}(h:OpRuns P o (fun s=>a.tmps.getD s undef) W K):o.wp P a W (fun b W'=>∃v,b=a.put o.dst v/\K v W') Q:=by
 unfold OpRuns at h;unfold Oper.wp;rw[vf];generalize (execOp (cA fun s=>a.tmps.getD s undef) o).run P W=r at h;cases r with
 |ok n w'=>
  cases n<;>simp only[Oper.upon]at h⊢<;>
   first
    |exact⟨_,Z,h⟩
    |exact Calls.mono h (fun e f ⟨v,d,c⟩=>by subst d;exact⟨v,Z,c⟩)
    |exact h.elim
 |halt x w'=>cases x<;>exact h.elim
def reach(ops:Array Oper):Nat->Nat->Nat->Bool
 |0,j,i=>j==i
 |n+1,j,i=>j==i||((ops[j]?).map fun o=>o.after.any fun e=>Region.binds .any e&&reach ops n e.on i).getD false
theorem Closed.reach{ops:Array Oper}{L:Array Bool}(h:Closed ops L):∀(n j i:Nat),reach ops n j i=true->L.getD j false=true->L.getD i false=true
 |0,j,i,a,hl=>by
  simp only[Go.Proofs.YtfoejfohbkmmeaaGreatDoor.reach,beq_iff_eq]at a;subst a;exact hl
 |n+1,j,i,a,hl=>by
  simp only[Go.Proofs.YtfoejfohbkmmeaaGreatDoor.reach,M5,beq_iff_eq]at a;rcases a with rfl|a
  ·exact hl
  cases b:ops[j]? with
  |none=>simp[b]at a
  |some o=>
   simp only[b,Nu,MK]at a;obtain⟨e,d,c⟩:=Qp.1 a;simp only[Ma]at c;exact Closed.reach h n e.on i c.2 (h j o b hl e d c.1)
structure MonoAt (R:Nat->Value->World->Prop) (cons:Nat->Option Nat) (WI:World->Prop) (init:List Value) (L:Array Bool) (us:List Value) (W:World):Prop where
 len:us.length=init.length
 fact:∀j,L.getD j false=true->(∀c,cons j=some c->L.getD c false=false)->R j (us.getD j undef) W
 old:∀j,L.getD j false=false->us.getD j undef=init.getD j undef
 wi:WI W
def A8(ops:Array Oper)(cons:Nat->Option Nat)(n i j:Nat):Bool:=
 match cons j with
 |none=>true
 |some c=>reach ops n c i
structure Given (ops:Array Oper) (dsts:List (Option Nat)) (t:Array Value) (R:Nat->Value->World->Prop) (cons:Nat->Option Nat) (WI:World->Prop) (i:Nat) (T:Nat->Value) (W:World):Prop where
 keep:∀s,dsts.contains (some s)=false->T s=t.getD s undef
 fact:∀n j s,(j !=i&&reach ops n i j&&A8 ops cons n i j&&dsts[j]? ==some (some s))=true->R j (T s) W
 old:∀n j s,(reach ops n j i&&dsts[j]? ==some (some s))=true->T s=t.getD s undef
 wi:WI W
def nU(ops:Array Oper)(dsts:List (Option Nat))(R:Nat->Value->World->Prop)(cons:Nat->Option Nat)(i:Nat):Option (Nat×Bool)->Prop
 |none=>True
 |some (j,b)=>∃n s,(j !=i&&reach ops n i j&&cons j==none&&dsts[j]? ==some (some s))=true/\∀v W,R j v W->v=.bool b
def Steps(P:Program)(ops:Array Oper)(dsts:List (Option Nat))(t:Array Value)(R:Nat->Value->World->Prop)(cons:Nat->Option Nat)(WI:World->Prop)(Ext:Nat->World->World->Prop):Nat->List Oper->Prop
 |_,[]=>True
 |i,o::l=>(nU ops dsts R cons i o.guard/\∀(T:Nat->Value) (W:World),Given ops dsts t R cons WI i T W->OpRuns P o T W fun v W'=>R i v W'/\Ext i W W')/\Steps P ops dsts t R cons WI Ext (i+1) l
theorem Steps.at{P:Program}{ops:Array Oper}{a:List (Option Nat)}{t:Array Value}{R:Nat->Value->World->Prop}{cons:Nat->Option Nat}{c:World->Prop}{b:Nat->World->World->Prop}:∀(l:List Oper) (n:Nat),Steps P ops a t R cons c b n l->∀(k:Nat) (o:Oper),l[k]? =some o->
  nU ops a R cons (n+k) o.guard/\∀(T:Nat->Value) (W:World),Given ops a t R cons c (n+k) T W->OpRuns P o T W fun v W'=>R (n+k) v W'/\b (n+k) W W'
 |[],_,_,k,o,h=>by simp at h
 |x::l,n,hs,0,o,h=>by
  simp only[MW,MN]at h;subst h;exact hs.1
 |x::l,n,hs,k+1,o,h=>by
  have:=Steps.at l (n+1) hs.2 k o (by simpa using h);rw[show n+1+k=n+(k+1) by omega]at this;exact this
theorem ry{P:Program}{id:Nat}{ops:Array Oper}{Q:Exit->Act->World->Prop}{a:Act}{w:World}(d:List (Option Nat))(R:Nat->Value->World->Prop)(cons:Nat->Option Nat)(y:World->Prop)(A:Nat->World->World->Prop)
  (hm:P.follows .mixedOrders=true) (K:dM ops=true) (V:ops.toList.map (·.dst)=d) (r:bV a.tmps.size d=true)
  (E:∀i W W',y W->A i W W'->y W') (z:∀i j v W W',cons j≠some i->y W->R j v W->A i W W'->R j v W') (h0:y w.drew)
  (B:Steps P ops d a.tmps R cons y A 0 ops.toList)
  (F:∀(us:List Value) (W:World),us.length=d.length->(∀j,j<ops.size->cons j=none->R j (us.getD j undef) W)->y W->Q .normal ⟨b8 a.tmps (d.zip us),a.defers⟩ W):(Code.region id ops true).wp P Q a w:=by
 have a2:d.length=ops.size:=by rw[<-V];simp
 refine dF (fun L Y W=>∃us,Y=⟨b8 a.tmps (d.zip us),a.defers⟩/\L.size=ops.size/\Closed ops L/\MonoAt R cons y (fZ a.tmps d) L us W) hm K ⟨fZ a.tmps d,?_,by simp,eI ops,⟨Z,fun j h=>absurd h dG,fun _ _=>rfl,h0⟩⟩ ?_ ?_
 ·rw[gX]
 ·rintro L Y W i o N h2 C h4 ⟨us,rfl,_,U,m⟩;have hi:i<ops.size:=(ML.1 C).1;have T:d[i]? =some o.dst:=by
   rw[<-V,MQ];simp only[Np,C,Nu]
  have k:us.length=d.length:=by rw[m.len,dj]
  have J:L.getD i false=false:=getD_both h2;have H:∀n j,j≠i->reach ops n i j=true->L.getD j false=true:=fun n j h u=>by
   have q:=U.step C h4;have:=q.reach n i j u (cM (by omega));rwa[am (fun e=>h e.symm)]at this
  have I:∀n j,reach ops n j i=true->L.getD j false=false:=fun n j u=>by
   cases hl:L.getD j false with
   |false=>rfl
   |true=>
    have:=U.reach n j i u hl;rw[J]at this;cases this
  have G:Given ops d a.tmps R cons y i (fun s=>(b8 a.tmps (d.zip us)).getD s undef) W:=by
   refine⟨fun s f=>eC d us _ s f,fun n j s f=>?_,fun n j s f=>?_,m.wi⟩
   ·simp only[Ma,bne_iff_ne,beq_iff_eq]at f;obtain⟨⟨⟨h,u⟩,x⟩,f⟩:=f;show R j ((b8 a.tmps (d.zip us)).getD s undef) W
    rw[(cl d us _ j s r k f).1];refine m.fact j (H n j h u) fun c g=>?_
    rw[A8,g]at x;exact I n c x
   simp only[Ma,beq_iff_eq]at f;obtain⟨u,f⟩:=f;show(b8 a.tmps (d.zip us)).getD s undef=_
   rw[(cl d us _ j s r k f).1,m.old j (I n j u),jg _ _ _ _ f]
  have hS:=Steps.at ops.toList 0 B i o (by simpa using C);rw[M0]at hS;obtain⟨hg,t⟩:=hS;have t:=t _ W G;have hw:Region.wanted o (yielded ops (b8 a.tmps (d.zip us)))=true:=by
   unfold Region.wanted;cases S:o.guard with
   |none=>rfl
   |some p=>
    obtain⟨j,b⟩:=p;rw[S]at hg;obtain⟨n,s,f,M⟩:=hg;simp only[Ma,bne_iff_ne,beq_iff_eq]at f;obtain⟨⟨⟨h,u⟩,x⟩,f⟩:=f;have hv:=M _ _ (m.fact j (H n j h u) fun c g=>by rw[x]at g;cases g);rw[<-(cl d us _ j s r k f).1]at hv;have O:=(cl d us a.tmps j s r k f).2;have X:(ops[j]?).bind (·.dst)=some s:=by
     rw[<-V,MQ,Np]at f;cases ho:ops[j]? with
     |none=>simp[ho]at f
     |some oj=>simpa[ho]using f
    have:(b8 a.tmps (d.zip us))[s]? =some (.bool b):=by
     have hz:s<(b8 a.tmps (d.zip us)).size:=by rw[fy];exact O
     simp only[MV,MH hz,MK]at hv;rw[MH hz,hv]
    simp only[yielded,X,Nc,this];cases b<;>rfl
  simp only[wpList];rw[if_pos hw];refine .inl<|Oper.wp_mono ?_ t.wp;rintro a1 a3 ⟨v,e,M,hE⟩;refine⟨us.set i v,?_,by simpa using N,U.step C h4,⟨by simpa using m.len,fun j h g=>?_,fun j h=>?_,E _ _ _ m.wi hE⟩⟩
  ·rw[e];exact iE d us _ _ i _ v r k T
  ·by_cases l:i=j
   ·subst l;have:(us.set i v).getD i undef=v:=by simp[List.getD,show i<us.length by omega]
    rw[this];exact M
   rw[am l]at h;have:(us.set i v).getD j undef=us.getD j undef:=by simp[List.getD,l]
   rw[this];refine z i j _ _ _ (fun e=>?_) m.wi (m.fact j h fun c q=>?_) hE
   ·have:=g i e;rw[cM (by omega)]at this;cases this
   have:=g c q;by_cases D:i=c
   ·subst D;exact J
   rwa[am D]at this
  by_cases l:i=j
  ·subst l;rw[cM (by omega)]at h;cases h
  rw[am l]at h;have:(us.set i v).getD j undef=us.getD j undef:=by simp[List.getD,l]
  rw[this];exact m.old j h
 rintro L Y W N ⟨us,rfl,a0,_,m⟩;refine F us W (by rw[m.len,dj]) (fun j h g=>m.fact j (N j h) fun c q=>by rw[g]at q;cases q) m.wi
end Go.Proofs.YtfoejfohbkmmeaaGreatDoor
namespace Go.Proofs.YtfoejfohbkmmeaaGreatDoor
open Go.RowKit
def dQ(F:List (Value->World->Prop))(j:Nat):Value->World->Prop:=F.getD j fun _ _=>True
inductive Stab (w:World):List (Value->World->Prop)->Prop
 |nil:Stab w []
 |cons {f:Value->World->Prop} {l:List (Value->World->Prop)} (h:∀v W W',Below w.heap.size w W->f v W->Below W.heap.size W W'->f v W') (hs:Stab w l):Stab w (f::l)
theorem Stab.eq{w:World}{x:Value}{l:List (Value->World->Prop)}(a:Stab w l):Stab w ((fun v _=>v=x)::l):=.cons (fun _ _ _ _ h _=>h) a
theorem Stab.get{w:World}{l:List (Value->World->Prop)}(h:Stab w l):∀j v W W',Below w.heap.size w W->dQ l j v W->Below W.heap.size W W'->dQ l j v W':=by
 induction h with
 |nil=>intro j v W W' _ _ _;simp[dQ]
 |cons h hs ih=>
  intro j v W W' c b a;cases j with
  |zero=>exact h v W W' c b a
  |succ j=>exact ih j v W W' c b a
theorem Steps.nil{P:Program}{ops:Array Oper}{a:List (Option Nat)}{t:Array Value}{R:Nat->Value->World->Prop}{cons:Nat->Option Nat}{c:World->Prop}{b:Nat->World->World->Prop}{i:Nat}:Steps P ops a t R cons c b i []:=trivial
theorem Steps.cons{P:Program}{ops:Array Oper}{a:List (Option Nat)}{t:Array Value}{R:Nat->Value->World->Prop}{cons:Nat->Option Nat}{c:World->Prop}{b:Nat->World->World->Prop}{i:Nat}{o:Oper}{l:List Oper}
  (d:nU ops a R cons i o.guard) (h:∀(T:Nat->Value) (W:World),Given ops a t R cons c i T W->OpRuns P o T W fun v W'=>R i v W'/\b i W W') (e:Steps P ops a t R cons c b (i+1) l):Steps P ops a t R cons c b i (o::l):=⟨⟨d,h⟩,e⟩
theorem ft{P:Program}{id:Nat}{l:List Oper}{Q:Exit->Act->World->Prop}{a:Act}{w:World}(b:List (Option Nat))(F:List (Value->World->Prop))
  (o:P.follows .mixedOrders=true) (f:dM l.toArray=true) (q:l.map (·.dst)=b) (g:bV a.tmps.size b=true) (h:Stab w F)
  (c:Steps P l.toArray b a.tmps (dQ F) (fun _=>none) (Below w.heap.size w) (fun _ W W'=>Below W.heap.size W W') 0 l)
  (d:∀(us:List Value) (W:World),us.length=b.length->(∀j,j<l.length->dQ F j (us.getD j undef) W)->Below w.heap.size w W->Q .normal ⟨b8 a.tmps (b.zip us),a.defers⟩ W):(Code.region id l.toArray true).wp P Q a w:=
 ry b (dQ F) (fun _=>none) (Below w.heap.size w) (fun _ W W'=>Below W.heap.size W W') o f (by simpa using q) g
  (fun _ W W' e i=>e.trans (i.mono e.size)) (fun _ j v W W' _ n p m=>h.get j v W W' n p m) (Below.refl _ _).drew c
  (fun us W e i k=>d us W e (fun j r=>i j (by simpa using r) Z) k)
theorem aY{n:Nat}{us:List Value}(h:us.length=n+1):∃y l,us=y::l/\l.length=n:=by
 cases us with
 |nil=>simp at h
 |cons y l=>exact⟨y,l,Z,by simpa using h⟩
theorem kS{us:List Value}(h:us.length=0):us=[]:=Mk h
end Go.Proofs.YtfoejfohbkmmeaaGreatDoor
