import Derived.Test.YtfoejfohbkmmeaaGreatDoorCards
import Derived.Test.YtfoejfohbkmmeaaGreatDoorTie
import Derived.Test.YtfoejfohbkmmeaaGreatDoorB00
import Derived.ProofKit
import Derived.OpenShut
import Derived.Deep.DeepHandedRow
import Derived.Lib.LaidTab
import Derived.Lib.SmallJoins
import Derived.Stop.LaidErr
import Derived.Lay
import Derived.SevenTiedAt
import Derived.Maps.AppendAt
import Derived.Lib.AppendStr
import Derived.OwnWalk
import Derived.Deep.Slices
import Derived.Orders
import Derived.StillTail
import Derived.Tactics
set_option maxRecDepth 100000
namespace Go.Proofs.YtfoejfohbkmmeaaGreatDoor
open Go.ChangeShapes Go.WideShapes Go.ChangeAt Go.RowKit
theorem own:ownKnob Tryz.prog.godebug=none:=by kernel_rfl
theorem Jy:laidOutB Tryz.prog=true:=by kernel_rfl
abbrev vh:List (String×DataW Unit):=Rows.rowioLinesRow.laid
theorem Bc:(Tryz.prog.globals[1]?).map (·.type)=some 241:=by kernel_rfl
theorem sE:(Tryz.prog.globals[4]?).map (·.type)=some 163:=by kernel_rfl
theorem uV:(Tryz.prog.globals[5]?).map (·.type)=some 163:=by kernel_rfl
theorem Bd:Tryz.prog.cellsOf 241=20:=by kernel_rfl
theorem F1:Tryz.prog.cellsOf 89=1:=by kernel_rfl
theorem F2{n:String}{g:Nat}{j:String}{d:DataW Unit}{r:List (String×DataW Unit)}{W:World}(h:laidMet Tryz.prog ((n,.iface j d)::r) W)(i:Tryz.prog.globalNamed n=some g)
  (k:(Tryz.prog.globals[g]?).map (·.type)=some 163):∃tp p,W.var? Tryz.prog n=some #[.iface tp p]:=by
 obtain⟨ps,⟨o,m,cs,f,p,q,c,b,a,l,_,_⟩,_⟩:=h;obtain rfl:=PF (i.symm.trans c);obtain rfl:=PF (k.symm.trans b);obtain⟨_,u,v,e,_⟩:=iface_of_trod Tryz.underlying163 l;exact⟨u,v,by rw[a];congr 1;exact Array.toList_inj.1 e⟩
theorem Lw{W:World}(b:laidMetH Tryz.prog vh W)(a:W.ShapedOpen Tryz.prog):Env W:=by
 have b:laidMet Tryz.prog vh W:=by rwa[MakeChecks.laidMetH_plain _ _ _ (by kernel_rfl)]at b
 have d:=b.tail.tail;have c:=d.tail.tail;refine⟨Tryz.laysM155.s1_3 W a,Lib.tabIs_of_head A9 Bc Tryz.underlying241 Tryz.underlying89 F1 Bd d,F2 c.tail oq sE,F2 c qD uV⟩
theorem F3(a:Os)(args:Array Value):laidMet Tryz.prog vh ((World.laidAll Tryz.prog a vh).forCall (fun _ _=>0) ⟨#[],args,[]⟩).memory:=
 laidMet_laidAll _ (by kernel_rfl) (by kernel_rfl)
section
variable {H:Type} {enc:TypeId×Value->H}
theorem uW{P:Program}(g:laidOutB P=true){W W':World}(i:Below W.heap.size W W')(ts:List TypeId):∀(vs:List Value) (c:List (DataW H)) (p:List MemPlace),(ts.all fun t=>P.readableRec t&&decide (t<P.types.size))=true->
  DataW.TrodAll enc P W 0 (fun _=>true) true ts vs c p->(∀x∈p,x.block<W.heap.size)->DataW.TrodAll enc P W' 0 (fun b=>decide (b<W.heap.size)) true ts vs c p:=by
 induction ts with
 |nil=>
  intro vs c p _ h _;obtain⟨rfl,rfl,rfl⟩:=trodAll_nil h;exact trodAll_mk0
 |cons t ts ih=>
  intro vs c p e h a;obtain⟨v,j,d,m,n,o,rfl,rfl,rfl,k,l⟩:=trodAll_cons h;simp only[PS,Oo,decide_eq_true_eq]at e;exact trodAll_cons_mk (Below.trod g e.1.1 e.1.2 k i fun x f=>a x (QV _ f)) (ih _ _ _ (by simpa using e.2) l fun x f=>a x (Sq _ f))
theorem F4{f:Func}{s:ChangeSpec}{W W':World}{args:Array Value}{b d:List (DataW H)}{a:List MemPlace}
  (g:DataW.Whole enc Tryz.prog f.params.toList s.vars false W args.toList b d a) (m:s.vars=[]) (c:f.resultTypes=#[4]) (k:(f.params.toList.all fun t=>Tryz.prog.readableRec t&&decide (t<Tryz.prog.types.size))=true)
  (o:(s.fn H (b++d)).results=[.lit (.bool true)]) (v:(s.fn H (b++d)).args=b) (r:(s.fn H (b++d)).vars=[]) (l:Below W.heap.size W W'):
  s.post enc Tryz.prog f false true false false W args (.bool true) W':=by
 have j:=fun x e=>g.lt x e
 have i:=g;obtain⟨p,q,u,n,rfl,_,_⟩:=g;rw[m]at n;obtain⟨rfl,rfl⟩:=trodVars_none n;refine⟨b,[],p++[],[],p,[],i,?_,?_,?_,l.frame _,fun h=>by cases h⟩
 ·rw[o,c];exact trodAll_mk1 (shut_bool Tryz.underlying4 _)
 ·rw[v];exact uW Jy l _ _ _ _ k u fun x e=>j x (by simpa using e)
 rw[r,m];rfl
theorem Be{C:Checked}{k:Os}{f:FuncId}{l:Func}{s:OpenSpec}{c:List PathCond}{b:Bool}{d:List (String×DataW Unit)}(w0:World)(args:Array Value)(j:w0.os=k)
  (h:(w0.forCall (fun _ _=>0) ⟨#[],args,[]⟩).Shaped C.prog) (e:Input.okWideB C.prog (w0.forCall (fun _ _=>0) ⟨#[],args,[]⟩) f ⟨#[],args,[]⟩=true)
  (g:s.preRow enc C.prog l c b d (w0.forCall (fun _ _=>0) ⟨#[],args,[]⟩).memory args):
  ∃(w:World) (a:Tape) (i:Input),w.os=k/\(w.forCall a i).Shaped C.prog/\i.vars=[]/\Input.okWide C.prog (w.forCall a i) .any w.heap.size f i/\
   s.preRow enc C.prog l c b d (w.forCall a i).memory i.args/\({}:Assume).holds C.prog (lone (Frame.enter C.prog f i.args .normal) [] (w.forCall a i)):=
 ⟨w0,fun _ _=>0,⟨#[],args,[]⟩,j,h,(Input.okWide_of_okWideB (base:=0) e).1,(Input.okWide_of_okWideB e).2,g,by
  simp only[Assume.holds];exact⟨by simp,by simp,fun _=>Modest.zero,by simp,by simp⟩⟩
end
end Go.Proofs.YtfoejfohbkmmeaaGreatDoor
namespace Go.Proofs.YtfoejfohbkmmeaaGreatDoor
open Go.ChangeShapes Go.WideShapes Go.ChangeAt Go.RowKit Go.Joins
end Go.Proofs.YtfoejfohbkmmeaaGreatDoor
namespace Go.Proofs.YtfoejfohbkmmeaaGreatDoor
open Go.RowKit
theorem xe(w:World)(t:TypeId)(cs:Array Value):
  ∃W,w.alloc (.cells cs t)=W/\Below w.heap.size w W/\IsBlk W w.heap.size t cs/\W.heap.size=w.heap.size+1:=
 ⟨_,Z,(Below.refl _ _).alloc (Oh _) _,g6 _ _ _,by simp⟩
theorem yo(w:World)(t u:TypeId)(cs a:Array Value):
  ∃W,(w.alloc (.cells cs t)).alloc (.cells a u)=W/\Below w.heap.size w W/\IsBlk W w.heap.size t cs/\IsBlk W (w.heap.size+1) u a/\W.heap.size=w.heap.size+2:=by
 refine⟨_,Z,((Below.refl _ _).alloc (Oh _) _).alloc (by simp) _,(g6 _ _ _).alloc _,?_,by simp⟩;have:=g6 (w.alloc (.cells cs t)) u a;simpa using this
theorem aF{B:Nat}{w W W':World}(h:Below B w W)(b:Below W.heap.size W W')(a:B<=W.heap.size):Below B w W':=h.trans (b.mono a)
def At(w:World)(B:Nat)(A:Option Addr)(xs:List Value):Prop:=
 0<xs.length->∃b off,A=some ⟨b,off,none⟩/\b<B/\∀(j:Nat) u,xs[j]? =some u->w.cell? ⟨b,off+j,none⟩=some u
theorem At.keep{w w':World}{B:Nat}{A:Option Addr}{xs:List Value}(h:At w B A xs)(c:∀p:Addr,p.block<B->w'.cell? p=w.cell? p):At w' B A xs:=fun d=>by
 obtain⟨b,off,e,a,g⟩:=h d;exact⟨b,off,e,a,fun j u f=>(c ⟨b,off+j,none⟩ a).trans (g j u f)⟩
theorem At.below{w w':World}{B:Nat}{A:Option Addr}{xs:List Value}(h:At w B A xs)(b:Below B w w'):At w' B A xs:=h.keep fun _ a=>b.cell a
theorem At.more{w:World}{B a:Nat}{A:Option Addr}{xs:List Value}(h:At w B A xs)(f:B<=a):At w a A xs:=fun c=>by
 obtain⟨b,off,e,g,d⟩:=h c;exact⟨b,off,e,by omega,d⟩
theorem At.nil(w:World)(B:Nat)(A:Option Addr):At w B A []:=fun h=>absurd h (by simp)
theorem Eg{w:World}{base:Nat}{e:TypeId}{size n c:Nat}{A:Option Addr}{xs:List Value}(h:w.ownsRow base e size (.slice A n c) n xs):At w w.heap.size A xs:=fun d=>by
 rcases h.2 with⟨a,k⟩|⟨g,l,cur,a,_,b,_⟩
 ·have:=h.1;rw[k]at this;simp at this;subst this;simp at d
 injection a with i
 subst i;refine⟨g,0,Z,(O3.1 b).1,fun j u f=>?_⟩;have:=h.cells (g:=g) Z j u f;rwa[show(⟨g,0,none⟩:Addr).add j=⟨g,0+j,none⟩from by unfold Addr.add;split<;>simp_all]at this
structure V where
 t:Int
 n:Int
 s:ByteArray
def V.cells(v:V):List Value:=[.int .i64 v.t,.int .i64 v.n,.string v.s]
def dV(l:List V):List Value:=l.flatMap V.cells
theorem iY:∀l:List V,(dV l).length=3*l.length
 |[]=>rfl
 |v::l=>by
  have:=iY l;simp only[dV,PZ,Oj,Oi,V.cells,Ou]at this⊢;omega
theorem vk:∀(l:List V) (i:Nat) (v:V),l[i]? =some v->(dV l)[3*i]? =some (.int .i64 v.t)/\(dV l)[3*i+1]? =some (.int .i64 v.n)/\(dV l)[3*i+2]? =some (.string v.s)
 |[],i,v,h=>by simp at h
 |u::l,0,v,h=>by simp at h;subst h;simp[dV,V.cells]
 |u::l,i+1,v,h=>by
  have a:=vk l i v (by simpa using h);have e:∀j,(dV (u::l))[j+3]? =(dV l)[j]? :=fun j=>by simp[dV,V.cells]
  refine⟨?_,?_,?_⟩
  ·rw[show 3*(i+1)=3*i+3 by omega,e];exact a.1
  ·rw[show 3*(i+1)+1=3*i+1+3 by omega,e];exact a.2.1
  rw[show 3*(i+1)+2=3*i+2+3 by omega,e];exact a.2.2
theorem uX(a b:List V):dV (a++b)=dV a++dV b:=by simp[dV]
theorem At.val{w:World}{B:Nat}{A:Option Addr}{l:List V}{i:Nat}(h:At w B A (dV l))(c:i<l.length):
  ∃b off,A=some ⟨b,off,none⟩/\b<B/\w.cell? ⟨b,off+i*3,none⟩=some (.int .i64 l[i].t)/\w.cell? ⟨b,off+i*3+1,none⟩=some (.int .i64 l[i].n)/\w.cell? ⟨b,off+i*3+2,none⟩=some (.string l[i].s):=by
 obtain⟨b,off,e,d,a⟩:=h (by rw[iY];omega);obtain⟨g,f,j⟩:=vk l i l[i] (Og c);refine⟨b,off,e,d,?_,?_,?_⟩
 ·rw[OF];exact a _ _ g
 ·rw[OF];exact a _ _ f
 rw[OF];exact a _ _ j
def bL(l:List UInt8):List Value:=l.map fun c=>.int .u8 c.toNat
theorem fw(l:List UInt8):(bL l).length=l.length:=by simp[bL]
theorem n4(a b:List UInt8):bL (a++b)=bL a++bL b:=by simp[bL]
end Go.Proofs.YtfoejfohbkmmeaaGreatDoor
namespace Go.Proofs.YtfoejfohbkmmeaaGreatDoor
open Go.ChangeShapes Go.WideShapes Go.ChangeAt Go.RowKit Go.Joins Go.Deep
open Lib renaming hid→J
section
variable {H:Type} {enc:TypeId×Value->H} {W:World} {b0 base:Nat} {spare:Nat->Bool} {held:Bool}
instance:Inhabited V:=⟨⟨0,0,⟨#[]⟩⟩⟩
theorem Eh{n:Nat}(h:n<=maxLen):n<=9223372036854775807:=by unfold maxLen at h;omega
theorem Ei:Tryz.prog.cellsOf 5=1:=by kernel_rfl
end
theorem Ej:Tryz.prog.cellsOf 3=1:=by kernel_rfl
def lH(l:List Int):List Value:=l.map fun x=>.int .i64 x
theorem Bf{H:Type}{enc:TypeId×Value->H}{W:World}{J base:Nat}{i:Nat->Bool}{m:Bool}{v:Value}{d:DataW H}{p:List MemPlace}
  (I:Value.okWide Tryz.prog W .any J 23 v) (h:DataW.Trod enc Tryz.prog W base i m 23 v d p):
  ∃(A:Option Addr) (l:List Int) (c:Nat),v=.slice A l.length c/\At W W.heap.size A (lH l)/\l.length<=c/\c<=9223372036854775807/\(A=none->c=0):=by
 obtain⟨P,len,q,rfl⟩:=okWide_slice Tryz.underlying23 I;obtain⟨y,G⟩:=h;rcases open_ints Tryz.underlying23 Tryz.underlying3 Ej G with⟨f,_⟩|⟨a,w,s,k,f,_,C,L,M,_,g,E⟩
 ·simp[Value.cells]at f;obtain⟨rfl,rfl,rfl⟩:=f;exact⟨none,[],0,Z,At.nil _ _ _,by simp,by simp,fun _=>rfl⟩
 simp[Value.cells]at f;obtain⟨rfl,rfl,rfl⟩:=f;have D:len<=k.length:=by rw[M];split<;>omega
 have e:(k.take len).length=len:=by simp;omega
 have r:(lH (k.take len)).length=len:=by unfold lH;rw[Ol,e]
 refine⟨some a,k.take len,q,by rw[e],fun N=>?_,by rw[e];exact C,Eh L,fun e=>by cases e⟩;rw[r]at N;have x:=g 0 (by omega);have B:a.spot=none:=by
  have:=World.cell?_spot x;simpa[Addr.add]using this
 refine⟨a.block,a.off,by cases a;simp_all,?_,fun j u t=>?_⟩
 ·have:=World.block_lt_of_cell? _ _ x;simpa[block_add]using this
 have K:j<len:=by
  have:=(Ok.1 t).1;rwa[r]at this
 have z:=g j (by omega);have F:a.add j=⟨a.block,a.off+j,none⟩:=by
  obtain⟨b,o,O⟩:=a;simp only at B;subst B;exact add_plain b o j
 rw[F]at z;rw[z,<-t];have n:j<k.length:=by omega
 simp only[lH,O2,Ph,K,if_true,Og n,PG,List.getD,OW]
end Go.Proofs.YtfoejfohbkmmeaaGreatDoor
namespace Go.Proofs.YtfoejfohbkmmeaaGreatDoor
open Lib renaming hid→J
def xf(listed:Array Bool)(o:Oper):Prop:=∀e∈o.after,Region.binds .any e=true->listed.getD e.on false=true
theorem Jz{P:Program}{o:Oper}{a:Act}{w:World}{K:Act->World->Prop}{Q:Exit->Act->World->Prop}(h:o.wp P a w K (Exit.then K Q)):o.wp P a w K Q:=by
 unfold Oper.wp at*;generalize (execOp a.eval o).run P w=r at*;cases r with
 |ok n w'=>
  cases n<;>simp only[Oper.upon]at h⊢<;>
   first
    |exact h
    |exact Calls.mono h (fun e c b=>by cases e<;>exact b)
 |halt x w'=>cases x<;>simp only[Oper.upon]at h⊢<;>exact h
theorem xg{P:Program}{ops:Array Oper}{i:Nat}{o:Oper}{a:Act}{w:World}{K:Act->World->Prop}{Q:Exit->Act->World->Prop}(b:ops[i]? =some o)
  (h:wpList P ops (Exit.then K Q) [o] a w):wpOp P ops Q i K a w:=by
 unfold wpOp;simp only[b];simp only[wpList]at h;split
 ·rename_i hw;rw[if_pos hw]at h;rcases h with h|h
  ·exact .inl (Jz h)
  exact .inr h
 rename_i hw;rw[if_neg hw]at h;exact h
def mT(listed:Array Bool):Nat:=listed.toList.count false
theorem oS{a:Array Bool}{i:Nat}(h:a.getD i true=false):mT (a.setIfInBounds i true)+1=mT a:=by
 have e:i<a.size:=by
  rcases OS i a.size with d|d
  ·exact d
  simp[RA d]at h
 have c:a.toList[i]? =some false:=by
  simp[e]at h⊢;exact h
 unfold mT;rw[P8];obtain⟨l⟩:=a;simp only at c⊢;clear h e;induction l generalizing i with
 |nil=>simp at c
 |cons b l ih=>
  cases i with
  |zero=>simp at c;subst c;simp
  |succ i=>
   have:=ih (i:=i) (by simpa using c);cases b<;>simp[Q5]<;>omega
def fE(ops:Array Oper):Bool:=(List.range ops.size).all fun i=>((ops[i]?).map fun o=>o.after.all fun e=> !Region.binds .any e||decide (e.on<i)).getD true
theorem sF{ops:Array Oper}{a:Array Bool}(d:fE ops=true)(g:a.size=ops.size)(l:Region.ready .any ops a=[]):∀(k i:Nat),i<=k->i<ops.size->a.getD i false=true:=by
 intro k;induction k with
 |zero=>
  intro i m b;obtain rfl:i=0:=by omega
  cases c:a.getD 0 true with
  |true=>simp[g,b]at c⊢;exact c
  |false=>
   have f:(0:Nat)∈Region.ready .any ops a:=mem_ready.2 ⟨c,ops[0],O1 b,fun e h j=>by
    have:=OD.1 d 0 (Qs.2 b);rw[O1 b]at this;simp only[PG,OW,RE,Px,decide_eq_true_eq]at this;have:=(this e h).resolve_left (by rw[j];decide);omega⟩
   rw[l]at f;cases f
 |succ k ih=>
  intro i m b;cases c:a.getD i true with
  |true=>simp[g,b]at c⊢;exact c
  |false=>
   have f:i∈Region.ready .any ops a:=mem_ready.2 ⟨c,ops[i],O1 b,fun e h j=>by
    have:=OD.1 d i (Qs.2 b);rw[O1 b]at this;simp only[PG,OW,RE,Px,decide_eq_true_eq]at this;have:=(this e h).resolve_left (by rw[j];decide);exact ih e.on (by omega) (by omega)⟩
   rw[l]at f;cases f
theorem Ek{P:Program}{ops:Array Oper}{Q:Exit->Act->World->Prop}(I:Array Bool->Act->World->Prop)(k:fE ops=true)
  (f:∀(b:Array Bool) (a:Act) (w:World) (i:Nat) (o:Oper),b.size=ops.size->b.getD i true=false->ops[i]? =some o->xf b o->I b a w->wpList P ops (Exit.then (I (b.setIfInBounds i true)) Q) [o] a w)
  (e:∀(b:Array Bool) (a:Act) (w:World),(∀i,i<ops.size->b.getD i false=true)->I b a w->Q .normal a w):
  ∀(c:Nat) (b:Array Bool) (a:Act) (w:World),b.size=ops.size->mT b<=c->I b a w->wpAny P .any ops Q c b a w:=by
 intro c;induction c with
 |zero=>
  intro b a w d s n;have g:Region.ready .any ops b=[]:=by
   cases g:Region.ready .any ops b with
   |nil=>rfl
   |cons i l=>
    have u:=(mem_ready.1 (show i∈Region.ready .any ops b by rw[g];exact OR ..)).1;have:=oS u;omega
  exact⟨g,e b a w (fun i h=>sF k d g i i (Oh _) h) n⟩
 |succ c ih=>
  intro b a w d s n;refine⟨fun g=>e b a w (fun i h=>sF k d g i i (Oh _) h) n,fun i h=>?_⟩;obtain⟨m,o,p,j⟩:=mem_ready.1 h;have r:=xg p (f b a w i o d m p j n);refine wpOp_mono (fun q w' t=>ih _ q w' (by simpa using d) ?_ t) r;have:=oS m;omega
theorem gR{P:Program}{id:Nat}{ops:Array Oper}{Q:Exit->Act->World->Prop}{a:Act}{w:World}(I:Array Bool->Act->World->Prop)(g:P.follows .mixedOrders=true)(e:fE ops=true)
  (f:I (Array.replicate ops.size false) a w.drew)
  (c:∀(b:Array Bool) (a:Act) (w:World) (i:Nat) (o:Oper),b.size=ops.size->b.getD i true=false->ops[i]? =some o->xf b o->I b a w->wpList P ops (Exit.then (I (b.setIfInBounds i true)) Q) [o] a w)
  (d:∀(b:Array Bool) (a:Act) (w:World),(∀i,i<ops.size->b.getD i false=true)->I b a w->Q .normal a w):(Code.region id ops true).wp P Q a w:=
 wp_region_any g (Ek I e c d ops.size _ a _ (by simp) (by unfold mT;simp) f)
theorem F5(t:Array Value)(i:Nat)(d:Value):t.setIfInBounds i (t.getD i d)=t:=by
 rcases OS i t.size with h|h
 ·apply Q6;rw[P8];apply QT;intro j;rw[Re];split
  ·rename_i e;subst e;simp[h]
  rfl
 simp[Array.setIfInBounds,Nat.not_lt.2 h]
theorem fh{L:Array Bool}{i:Nat}(h:i<L.size):(L.setIfInBounds i true).getD i false=true:=by simp[h]
theorem dd{L:Array Bool}{i j:Nat}(h:i≠j):(L.setIfInBounds i true).getD j false=L.getD j false:=getD_set_ne false h
theorem lI{n j:Nat}:¬(Array.replicate n false).getD j false=true:=by
 rcases OS j n with h|h<;>simp[h]
def Closed(ops:Array Oper)(L:Array Bool):Prop:=∀(j:Nat) (o:Oper),ops[j]? =some o->L.getD j false=true->xf L o
theorem ip(ops:Array Oper):Closed ops (Array.replicate ops.size false):=fun _ _ _ h=>absurd h lI
theorem Closed.step{ops:Array Oper}{L:Array Bool}{i:Nat}{o:Oper}(h:Closed ops L)(k:ops[i]? =some o)(l:xf L o):Closed ops (L.setIfInBounds i true):=by
 intro j g f d;by_cases a:i=j
 ·subst a;obtain rfl:o=g:=PF (k.symm.trans f);exact fun e b c=>getD_set_true (l e b c)
 rw[dd a]at d;exact fun e b c=>getD_set_true (h j g f d e b c)
def cM(t:Array Value):List (Option Nat×Value)->Array Value
 |[]=>t
 |(some s,v)::l=>cM (t.setIfInBounds s v) l
 |(none,_)::l=>cM t l
def b7(n:Nat):List (Option Nat)->Bool
 |[]=>true
 |none::l=>b7 n l
 |some s::l=> !l.contains (some s)&&decide (s<n)&&b7 n l
def iq(t:Array Value):List (Option Nat)->List Value
 |[]=>[]
 |some s::l=>t.getD s undef::iq t l
 |none::l=>undef::iq t l
theorem eF(t:Array Value):∀l,(iq t l).length=l.length
 |[]=>rfl
 |some _::l=>by simp[iq,eF t l]
 |none::l=>by simp[iq,eF t l]
theorem kU(t:Array Value):∀(l:List (Option Nat)) (j s:Nat),l[j]? =some (some s)->(iq t l).getD j undef=t.getD s undef
 |[],j,s,h=>by simp at h
 |x::l,0,s,h=>by
  simp at h;subst h;rfl
 |x::l,j+1,s,h=>by
  have:=kU t l j s (by simpa using h);cases x<;>simpa[iq]using this
theorem jC(t:Array Value):∀l:List (Option Nat),cM t (l.zip (iq t l))=t
 |[]=>rfl
 |some s::l=>by simp only[iq,PW,cM,F5];exact jC t l
 |none::l=>by simp only[iq,PW,cM];exact jC t l
theorem gI:∀(l:List (Option Nat×Value)) (t:Array Value),(cM t l).size=t.size
 |[],_=>rfl
 |(some s,v)::l,t=>by simp only[cM,gI l];simp
 |(none,_)::l,t=>by simp only[cM,gI l]
theorem set_comm(t:Array Value)(i j:Nat)(u v:Value)(h:i≠j):(t.setIfInBounds i u).setIfInBounds j v=(t.setIfInBounds j v).setIfInBounds i u:=by
 apply Q6;simp only[P8];exact List.set_comm _ _ h
theorem set_set(t:Array Value)(i:Nat)(u v:Value):(t.setIfInBounds i u).setIfInBounds i v=t.setIfInBounds i v:=by
 apply Q6;simp
theorem sG:∀(a:List (Option Nat)) (us:List Value) (t:Array Value) (s:Nat) (v:Value),a.contains (some s)=false->(cM t (a.zip us)).setIfInBounds s v=cM (t.setIfInBounds s v) (a.zip us)
 |[],_,_,_,_,_=>by simp[cM]
 |_::_,[],_,_,_,_=>by simp[cM]
 |none::a,u::us,t,s,v,h=>by
  simp only[PW,cM];exact sG a us t s v (by simpa using h)
 |some d::a,u::us,t,s,v,h=>by
  simp only[PW,cM];simp only[Q7,OH]at h;have b:d≠s:=by
   have:=h.1;intro e;subst e;simp at this
  rw[sG a us _ s v h.2,set_comm _ _ _ _ _ b]
theorem fH:∀(a:List (Option Nat)) (us:List Value) (t:Array Value) (s:Nat),a.contains (some s)=false->(cM t (a.zip us)).getD s undef=t.getD s undef
 |[],_,_,_,_=>by simp[cM]
 |_::_,[],_,_,_=>by simp[cM]
 |none::a,u::us,t,s,h=>by
  simp only[PW,cM];exact fH a us t s (by simpa using h)
 |some d::a,u::us,t,s,h=>by
  simp only[PW,cM];simp only[Q7,OH]at h;have b:d≠s:=by
   have:=h.1;intro e;subst e;simp at this
  rw[fH a us _ s h.2];simp[b]
theorem dn:∀(a:List (Option Nat)) (us:List Value) (t:Array Value) (j s:Nat),b7 t.size a=true->us.length=a.length->a[j]? =some (some s)->(cM t (a.zip us)).getD s undef=us.getD j undef/\s<t.size
 |[],_,_,j,s,_,_,h=>by simp at h
 |x::a,[],t,j,s,ha,hl,h=>by simp at hl
 |x::a,u::us,t,0,s,ha,hl,h=>by
  simp only[Pa,OI]at h;subst h;simp only[b7,Oo,Pu,decide_eq_true_eq]at ha;simp only[PW,cM];rw[fH _ _ _ _ ha.1.1];exact⟨by simp[ha.1.2],ha.1.2⟩
 |x::a,u::us,t,j+1,s,ha,hl,h=>by
  have b:a[j]? =some (some s):=by simpa using h
  cases x with
  |none=>
   have:=dn a us t j s ha (by simpa using hl) b;simpa[cM]using this
  |some d=>
   simp only[b7,Oo]at ha;have:=dn a us (t.setIfInBounds d u) j s (by simpa using ha.2) (by simpa using hl) b;simpa[cM]using this
theorem jL:∀(a:List (Option Nat)) (us:List Value) (t:Array Value) (d:List Deferred) (i:Nat) (o:Option Nat) (v:Value),b7 t.size a=true->us.length=a.length->a[i]? =some o->
  (⟨cM t (a.zip us),d⟩:Act).put o v=⟨cM t (a.zip (us.set i v)),d⟩
 |[],_,_,_,i,o,v,_,_,h=>by simp at h
 |x::a,[],t,d,i,o,v,ha,hl,h=>by simp at hl
 |x::a,u::us,t,d,0,o,v,ha,hl,h=>by
  simp only[Pa,OI]at h;subst h;cases x with
  |none=>rfl
  |some s=>
   simp only[b7,Oo,Pu]at ha;simp only[PW,cM,Qe,Act.put];rw[sG _ _ _ _ _ ha.1.1,set_set]
 |x::a,u::us,t,d,i+1,o,v,ha,hl,h=>by
  have b:a[i]? =some o:=by simpa using h
  cases x with
  |none=>
   simp only[PW,cM,Q5];exact jL a us t d i o v ha (by simpa using hl) b
  |some s=>
   simp only[b7,Oo]at ha;simp only[PW,cM,Q5];exact jL a us _ d i o v (by simpa using ha.2) (by simpa using hl) b
def dm(T:Nat->Value):Operand->Value
 | .tmp s=>T s
 | .const v=>v
 | .global g=>.pointer (some ⟨g,0,none⟩)
 | .func f=>.func (.func f) #[] #[]
theorem xh(a:Act):a.eval=dm fun s=>a.tmps.getD s undef:=by
 funext x;cases x<;>rfl
def OpRuns(P:Program)(o:Oper)(T:Nat->Value)(W:World)(K:Value->World->Prop):Prop:=
 match (execOp (dm T) o).run P W with
 | .ok (.value v) W'=>K v W'
 | .ok .skip W'=>K undef W'
 | .ok (.enter f args) W'=>Calls P f args W' fun e W''=>∃v,e=.returned v/\K v W''
 |_=>False
theorem aB{P:Program}{o:Oper}{T:Nat->Value}{W W':World}{K:Value->World->Prop}{v:Value}(h:(execOp (dm T) o).run P W=.ok (.value v) W')(a:K v W'):OpRuns P o T W K:=by
 unfold OpRuns;rw[h];exact a
theorem cP{P:Program}{o:Oper}{T:Nat->Value}{W:World}{K:Value->World->Prop}{f:FuncId}{args:Array Value}(h:(execOp (dm T) o).run P W=.ok (.enter f args) W)(b:Calls P f args W fun e a=>∃v,e=.returned v/\K v a):OpRuns P o T W K:=by
 unfold OpRuns;rw[h];exact b
theorem OpRuns.wp{P:Program}{o:Oper}{a:Act}{W:World}{K:Value->World->Prop}{Q:Exit->Act->World->Prop}(h:OpRuns P o (fun s=>a.tmps.getD s undef) W K):o.wp P a W (fun f W'=>∃v,f=a.put o.dst v/\K v W') Q:=by
 unfold OpRuns at h;unfold Oper.wp;rw[xh];generalize (execOp (dm fun s=>a.tmps.getD s undef) o).run P W=r at h;cases r with
 |ok n w'=>
  cases n<;>simp only[Oper.upon]at h⊢<;>
   first
    |exact⟨_,Z,h⟩
    |exact Calls.mono h (fun e d ⟨v,c,b⟩=>by subst c;exact⟨v,Z,b⟩)
    |exact h.elim
 |halt x w'=>cases x<;>exact h.elim
def reach(ops:Array Oper):Nat->Nat->Nat->Bool
 |0,j,i=>j==i
 |n+1,j,i=>j==i||((ops[j]?).map fun o=>o.after.any fun e=>Region.binds .any e&&reach ops n e.on i).getD false
theorem Closed.reach{ops:Array Oper}{L:Array Bool}(h:Closed ops L):∀(n j i:Nat),reach ops n j i=true->L.getD j false=true->L.getD i false=true
 |0,j,i,a,hl=>by
  simp only[Go.Proofs.YtfoejfohbkmmeaaGreatDoor.reach,beq_iff_eq]at a;subst a;exact hl
 |n+1,j,i,a,hl=>by
  simp only[Go.Proofs.YtfoejfohbkmmeaaGreatDoor.reach,Px,beq_iff_eq]at a;rcases a with rfl|a
  ·exact hl
  cases b:ops[j]? with
  |none=>simp[b]at a
  |some o=>
   simp only[b,PG,OW]at a;obtain⟨e,d,c⟩:=Array.any_eq_true'.1 a;simp only[Oo]at c;exact Closed.reach h n e.on i c.2 (h j o b hl e d c.1)
structure MonoAt (R:Nat->Value->World->Prop) (cons:Nat->Option Nat) (WI:World->Prop) (init:List Value) (L:Array Bool) (us:List Value) (W:World):Prop where
 len:us.length=init.length
 fact:∀j,L.getD j false=true->(∀c,cons j=some c->L.getD c false=false)->R j (us.getD j undef) W
 old:∀j,L.getD j false=false->us.getD j undef=init.getD j undef
 wi:WI W
def C7(ops:Array Oper)(cons:Nat->Option Nat)(n i j:Nat):Bool:=
 match cons j with
 |none=>true
 |some c=>reach ops n c i
structure Given (ops:Array Oper) (dsts:List (Option Nat)) (t:Array Value) (R:Nat->Value->World->Prop) (cons:Nat->Option Nat) (WI:World->Prop) (i:Nat) (T:Nat->Value) (W:World):Prop where
 keep:∀s,dsts.contains (some s)=false->T s=t.getD s undef
 fact:∀n j s,(j !=i&&reach ops n i j&&C7 ops cons n i j&&dsts[j]? ==some (some s))=true->R j (T s) W
 old:∀n j s,(reach ops n j i&&dsts[j]? ==some (some s))=true->T s=t.getD s undef
 wi:WI W
def oT(ops:Array Oper)(dsts:List (Option Nat))(R:Nat->Value->World->Prop)(cons:Nat->Option Nat)(i:Nat):Option (Nat×Bool)->Prop
 |none=>True
 |some (j,b)=>∃n s,(j !=i&&reach ops n i j&&cons j==none&&dsts[j]? ==some (some s))=true/\∀v W,R j v W->v=.bool b
def Steps(P:Program)(ops:Array Oper)(dsts:List (Option Nat))(t:Array Value)(R:Nat->Value->World->Prop)(cons:Nat->Option Nat)(WI:World->Prop)(Ext:Nat->World->World->Prop):Nat->List Oper->Prop
 |_,[]=>True
 |i,o::l=>(oT ops dsts R cons i o.guard/\∀(T:Nat->Value) (W:World),Given ops dsts t R cons WI i T W->OpRuns P o T W fun v W'=>R i v W'/\Ext i W W')/\Steps P ops dsts t R cons WI Ext (i+1) l
theorem Steps.at{P:Program}{ops:Array Oper}{a:List (Option Nat)}{t:Array Value}{R:Nat->Value->World->Prop}{cons:Nat->Option Nat}{c:World->Prop}{b:Nat->World->World->Prop}:∀(l:List Oper) (n:Nat),Steps P ops a t R cons c b n l->∀(k:Nat) (o:Oper),l[k]? =some o->
  oT ops a R cons (n+k) o.guard/\∀(T:Nat->Value) (W:World),Given ops a t R cons c (n+k) T W->OpRuns P o T W fun v W'=>R (n+k) v W'/\b (n+k) W W'
 |[],_,_,k,o,h=>by simp at h
 |x::l,n,hs,0,o,h=>by
  simp only[Pa,OI]at h;subst h;exact hs.1
 |x::l,n,hs,k+1,o,h=>by
  have:=Steps.at l (n+1) hs.2 k o (by simpa using h);rw[show n+1+k=n+(k+1) by omega]at this;exact this
theorem sH{P:Program}{id:Nat}{ops:Array Oper}{Q:Exit->Act->World->Prop}{a:Act}{w:World}(d:List (Option Nat))(R:Nat->Value->World->Prop)(cons:Nat->Option Nat)(y:World->Prop)(z:Nat->World->World->Prop)
  (hm:P.follows .mixedOrders=true) (U:fE ops=true) (S:ops.toList.map (·.dst)=d) (t:b7 a.tmps.size d=true)
  (D:∀i W W',y W->z i W W'->y W') (A:∀i j v W W',cons j≠some i->y W->R j v W->z i W W'->R j v W') (h0:y w.drew)
  (B:Steps P ops d a.tmps R cons y z 0 ops.toList)
  (F:∀(us:List Value) (W:World),us.length=d.length->(∀j,j<ops.size->cons j=none->R j (us.getD j undef) W)->y W->Q .normal ⟨cM a.tmps (d.zip us),a.defers⟩ W):(Code.region id ops true).wp P Q a w:=by
 have a2:d.length=ops.size:=by rw[<-S];simp
 refine gR (fun L N W=>∃us,N=⟨cM a.tmps (d.zip us),a.defers⟩/\L.size=ops.size/\Closed ops L/\MonoAt R cons y (iq a.tmps d) L us W) hm U ⟨iq a.tmps d,?_,by simp,ip ops,⟨Z,fun j h=>absurd h lI,fun _ _=>rfl,h0⟩⟩ ?_ ?_
 ·rw[jC]
 ·rintro L N W i o X h2 J h4 ⟨us,rfl,_,hc,m⟩;have hi:i<ops.size:=(O3.1 J).1;have K:d[i]? =some o.dst:=by
   rw[<-S,O2];simp only[PJ,J,PG]
  have k:us.length=d.length:=by rw[m.len,eF]
  have H:L.getD i false=false:=getD_both h2;have I:∀n j,j≠i->reach ops n i j=true->L.getD j false=true:=fun n j h x=>by
   have q:=hc.step J h4;have:=q.reach n i j x (fh (by omega));rwa[dd (fun e=>h e.symm)]at this
  have C:∀n j,reach ops n j i=true->L.getD j false=false:=fun n j x=>by
   cases hl:L.getD j false with
   |false=>rfl
   |true=>
    have:=hc.reach n j i x hl;rw[H]at this;cases this
  have G:Given ops d a.tmps R cons y i (fun s=>(cM a.tmps (d.zip us)).getD s undef) W:=by
   refine⟨fun s f=>fH d us _ s f,fun n j s f=>?_,fun n j s f=>?_,m.wi⟩
   ·simp only[Oo,bne_iff_ne,beq_iff_eq]at f;obtain⟨⟨⟨h,x⟩,u⟩,f⟩:=f;show R j ((cM a.tmps (d.zip us)).getD s undef) W
    rw[(dn d us _ j s t k f).1];refine m.fact j (I n j h x) fun c g=>?_
    rw[C7,g]at u;exact C n c u
   simp only[Oo,beq_iff_eq]at f;obtain⟨x,f⟩:=f;show(cM a.tmps (d.zip us)).getD s undef=_
   rw[(dn d us _ j s t k f).1,m.old j (C n j x),kU _ _ _ _ f]
  have hS:=Steps.at ops.toList 0 B i o (by simpa using J);rw[Pk]at hS;obtain⟨hg,r⟩:=hS;have r:=r _ W G;have hw:Region.wanted o (yielded ops (cM a.tmps (d.zip us)))=true:=by
   unfold Region.wanted;cases T:o.guard with
   |none=>rfl
   |some p=>
    obtain⟨j,b⟩:=p;rw[T]at hg;obtain⟨n,s,f,M⟩:=hg;simp only[Oo,bne_iff_ne,beq_iff_eq]at f;obtain⟨⟨⟨h,x⟩,u⟩,f⟩:=f;have O:=M _ _ (m.fact j (I n j h x) fun c g=>by rw[u]at g;cases g);rw[<-(dn d us _ j s t k f).1]at O;have Y:=(dn d us a.tmps j s t k f).2;have V:(ops[j]?).bind (·.dst)=some s:=by
     rw[<-S,O2,PJ]at f;cases ho:ops[j]? with
     |none=>simp[ho]at f
     |some oj=>simpa[ho]using f
    have:(cM a.tmps (d.zip us))[s]? =some (.bool b):=by
     have hz:s<(cM a.tmps (d.zip us)).size:=by rw[gI];exact Y
     simp only[O7,O1 hz,OW]at O;rw[O1 hz,O]
    simp only[yielded,V,PC,this];cases b<;>rfl
  simp only[wpList];rw[if_pos hw];refine .inl<|Oper.wp_mono ?_ r.wp;rintro a1 a3 ⟨v,e,M,hE⟩;refine⟨us.set i v,?_,by simpa using X,hc.step J h4,⟨by simpa using m.len,fun j h g=>?_,fun j h=>?_,D _ _ _ m.wi hE⟩⟩
  ·rw[e];exact jL d us _ _ i _ v t k K
  ·by_cases l:i=j
   ·subst l;have:(us.set i v).getD i undef=v:=by simp[List.getD,show i<us.length by omega]
    rw[this];exact M
   rw[dd l]at h;have:(us.set i v).getD j undef=us.getD j undef:=by simp[List.getD,l]
   rw[this];refine A i j _ _ _ (fun e=>?_) m.wi (m.fact j h fun c q=>?_) hE
   ·have:=g i e;rw[fh (by omega)]at this;cases this
   have:=g c q;by_cases E:i=c
   ·subst E;exact H
   rwa[dd E]at this
  by_cases l:i=j
  ·subst l;rw[fh (by omega)]at h;cases h
  rw[dd l]at h;have:(us.set i v).getD j undef=us.getD j undef:=by simp[List.getD,l]
  rw[this];exact m.old j h
 rintro L N W X ⟨us,rfl,a0,_,m⟩;refine F us W (by rw[m.len,eF]) (fun j h g=>m.fact j (X j h) fun c q=>by rw[g]at q;cases q) m.wi
end Go.Proofs.YtfoejfohbkmmeaaGreatDoor
namespace Go.Proofs.YtfoejfohbkmmeaaGreatDoor
open Go.RowKit
open Lib renaming hid→J
def fx(F:List (Value->World->Prop))(j:Nat):Value->World->Prop:=F.getD j fun _ _=>True
inductive Stab (w:World):List (Value->World->Prop)->Prop
 |nil:Stab w []
 |cons {f:Value->World->Prop} {l:List (Value->World->Prop)} (h:∀v W W',Below w.heap.size w W->f v W->Below W.heap.size W W'->f v W') (hs:Stab w l):Stab w (f::l)
theorem Stab.eq{w:World}{x:Value}{l:List (Value->World->Prop)}(a:Stab w l):Stab w ((fun v _=>v=x)::l):=.cons (fun _ _ _ _ h _=>h) a
theorem Stab.get{w:World}{l:List (Value->World->Prop)}(h:Stab w l):∀j v W W',Below w.heap.size w W->fx l j v W->Below W.heap.size W W'->fx l j v W':=by
 induction h with
 |nil=>intro j v W W' _ _ _;simp[fx]
 |cons h hs ih=>
  intro j v W W' b a c;cases j with
  |zero=>exact h v W W' b a c
  |succ j=>exact ih j v W W' b a c
theorem Steps.nil{P:Program}{ops:Array Oper}{a:List (Option Nat)}{t:Array Value}{R:Nat->Value->World->Prop}{cons:Nat->Option Nat}{c:World->Prop}{b:Nat->World->World->Prop}{i:Nat}:Steps P ops a t R cons c b i []:=trivial
theorem Steps.cons{P:Program}{ops:Array Oper}{a:List (Option Nat)}{t:Array Value}{R:Nat->Value->World->Prop}{cons:Nat->Option Nat}{c:World->Prop}{b:Nat->World->World->Prop}{i:Nat}{o:Oper}{l:List Oper}
  (d:oT ops a R cons i o.guard) (h:∀(T:Nat->Value) (W:World),Given ops a t R cons c i T W->OpRuns P o T W fun v W'=>R i v W'/\b i W W') (e:Steps P ops a t R cons c b (i+1) l):Steps P ops a t R cons c b i (o::l):=⟨⟨d,h⟩,e⟩
theorem rS{P:Program}{id:Nat}{l:List Oper}{Q:Exit->Act->World->Prop}{a:Act}{w:World}(b:List (Option Nat))(F:List (Value->World->Prop))
  (q:P.follows .mixedOrders=true) (h:fE l.toArray=true) (m:l.map (·.dst)=b) (g:b7 a.tmps.size b=true) (f:Stab w F)
  (c:Steps P l.toArray b a.tmps (fx F) (fun _=>none) (Below w.heap.size w) (fun _ W W'=>Below W.heap.size W W') 0 l)
  (d:∀(us:List Value) (W:World),us.length=b.length->(∀j,j<l.length->fx F j (us.getD j undef) W)->Below w.heap.size w W->Q .normal ⟨cM a.tmps (b.zip us),a.defers⟩ W):(Code.region id l.toArray true).wp P Q a w:=
 sH b (fx F) (fun _=>none) (Below w.heap.size w) (fun _ W W'=>Below W.heap.size W W') q h (by simpa using m) g
  (fun _ W W' e i=>e.trans (i.mono e.size)) (fun _ j v W W' _ r n p=>f.get j v W W' r n p) (Below.refl _ _).drew c
  (fun us W e i k=>d us W e (fun j o=>i j (by simpa using o) Z) k)
theorem ci{n:Nat}{us:List Value}(h:us.length=n+1):∃y l,us=y::l/\l.length=n:=by
 cases us with
 |nil=>simp at h
 |cons y l=>exact⟨y,l,Z,by simpa using h⟩
theorem C8{us:List Value}(h:us.length=0):us=[]:=OB h
theorem gd{P:Program}{o:Oper}{T:Nat->Value}{W W':World}{K:Value->World->Prop}(h:(execOp (dm T) o).run P W=.ok .skip W')(a:K undef W'):OpRuns P o T W K:=by
 unfold OpRuns;rw[h];exact a
theorem mU{P:Program}{id:Nat}{ops:Array Oper}{Q:Exit->Act->World->Prop}{a:Act}{w:World}(d:List (Option Nat))(R:Nat->Value->World->Prop)(cons:Nat->Option Nat)(B:World->Prop)(D:Nat->World->World->Prop)
  (hm:P.follows .mixedOrders=true) (b0:fE ops=true) (hd:ops.toList.map (·.dst)=d) (u:b7 a.tmps.size d=true) (X:∀j,cons j=none)
  (O:∀i W W',B W->D i W W'->B W') (F:∀i j v W W',B W->R j v W->D i W W'->R j v W') (h0:B w.drew)
  (n:Nat) (U:Oper) (b3:ops.size=n+1) (a4:ops[n]? =some U) (a1:U.guard=none) (a3:U.dst=none) (T:(List.range n).all (fun i=>reach ops n n i)=true)
  (H:Steps P ops d a.tmps R cons B D 0 (ops.toList.take n))
  (S:∀(us:List Value) (W:World),us.length=d.length->(∀j,j<n->R j (us.getD j undef) W)->B W->OpRuns P U (fun s=>(cM a.tmps (d.zip us)).getD s undef) W fun _ W'=>Q .normal ⟨cM a.tmps (d.zip us),a.defers⟩ W'):(Code.region id ops true).wp P Q a w:=by
 have b4:d.length=ops.size:=by rw[<-hd];simp
 have t:∀j,j<n->reach ops n n j=true:=fun j k=>OD.1 T j (Qs.2 k)
 refine gR (fun L E W=>L.size=ops.size/\Closed ops L/\((L.getD n false=false/\∃us,E=⟨cM a.tmps (d.zip us),a.defers⟩/\MonoAt R cons B (iq a.tmps d) L us W)\/(L.getD n false=true/\Q .normal E W))) hm b0 ⟨by simp,ip ops,.inl ⟨?_,iq a.tmps d,?_,⟨Z,fun j k=>absurd k lI,fun _ _=>rfl,h0⟩⟩⟩ ?_ ?_
 ·cases h:(Array.replicate ops.size false).getD n false with
  |false=>rfl
  |true=>exact absurd h lI
 ·rw[jC]
 ·rintro L E W i o Y h2 M h4 ⟨_,V,q⟩;have hi:i<ops.size:=(O3.1 M).1;have I:L.getD i false=false:=getD_both h2;rcases q with⟨J,us,rfl,q⟩|⟨C,_⟩
  rotate_left
  ·exfalso;by_cases A:i=n
   ·subst A;rw[I]at C;cases C
   have:=V.reach n n i (t i (by omega)) C;rw[I]at this;cases this
  have a0:d[i]? =some o.dst:=by
   rw[<-hd,O2];simp only[PJ,M,PG]
  have g:us.length=d.length:=by rw[q.len,eF]
  have K:∀n j,j≠i->reach ops n i j=true->L.getD j false=true:=fun n j k z=>by
   have y:=V.step M h4;have:=y.reach n i j z (fh (by omega));rwa[dd (fun e=>k e.symm)]at this
  have N:∀n j,reach ops n j i=true->L.getD j false=false:=fun n j z=>by
   cases hl:L.getD j false with
   |false=>rfl
   |true=>
    have:=V.reach n j i z hl;rw[I]at this;cases this
  by_cases A:i=n
  ·subst A;obtain rfl:o=U:=PF (M.symm.trans a4);have l:=S us W g (fun j k=>q.fact j (K i j (by omega) (t j k)) fun c m=>by rw[X]at m;cases m) q.wi;have hw:Region.wanted o (yielded ops (cM a.tmps (d.zip us)))=true:=by
    unfold Region.wanted;rw[a1]
   simp only[wpList];rw[if_pos hw];refine .inl<|Oper.wp_mono ?_ (l.wp (Q:=Exit.then (fun E W=>(L.setIfInBounds i true).size=ops.size/\Closed ops (L.setIfInBounds i true)/\(((L.setIfInBounds i true).getD i false=false/\∃us,E=⟨cM a.tmps (d.zip us),a.defers⟩/\MonoAt R cons B (iq a.tmps d) (L.setIfInBounds i true) us W)\/((L.setIfInBounds i true).getD i false=true/\Q .normal E W))) Q));rintro a2 a5 ⟨v,e,hQ⟩;rw[a3]at e;subst e;exact⟨by simpa using Y,V.step M h4,.inr ⟨fh (by omega),hQ⟩⟩
  have G:Given ops d a.tmps R cons B i (fun s=>(cM a.tmps (d.zip us)).getD s undef) W:=by
   refine⟨fun s f=>fH d us _ s f,fun n j s f=>?_,fun n j s f=>?_,q.wi⟩
   ·simp only[Oo,bne_iff_ne,beq_iff_eq]at f;obtain⟨⟨⟨k,z⟩,x⟩,f⟩:=f;show R j ((cM a.tmps (d.zip us)).getD s undef) W
    rw[(dn d us _ j s u g f).1];refine q.fact j (K n j k z) fun c m=>?_
    rw[C7,m]at x;exact N n c x
   simp only[Oo,beq_iff_eq]at f;obtain⟨z,f⟩:=f;show(cM a.tmps (d.zip us)).getD s undef=_
   rw[(dn d us _ j s u g f).1,q.old j (N n j z),kU _ _ _ _ f]
  have hS:=Steps.at (ops.toList.take n) 0 H i o (by rw[Ph,if_pos (by omega)];simpa using M);rw[Pk]at hS;obtain⟨hg,l⟩:=hS;have l:=l _ W G;have hw:Region.wanted o (yielded ops (cM a.tmps (d.zip us)))=true:=by
   unfold Region.wanted;cases a9:o.guard with
   |none=>rfl
   |some p=>
    obtain⟨j,b⟩:=p;rw[a9]at hg;obtain⟨n,s,f,hR⟩:=hg;simp only[Oo,bne_iff_ne,beq_iff_eq]at f;obtain⟨⟨⟨k,z⟩,x⟩,f⟩:=f;have hv:=hR _ _ (q.fact j (K n j k z) fun c m=>by rw[x]at m;cases m);rw[<-(dn d us _ j s u g f).1]at hv;have b2:=(dn d us a.tmps j s u g f).2;have b1:(ops[j]?).bind (·.dst)=some s:=by
     rw[<-hd,O2,PJ]at f;cases ho:ops[j]? with
     |none=>simp[ho]at f
     |some oj=>simpa[ho]using f
    have:(cM a.tmps (d.zip us))[s]? =some (.bool b):=by
     have hz:s<(cM a.tmps (d.zip us)).size:=by rw[gI];exact b2
     simp only[O7,O1 hz,OW]at hv;rw[O1 hz,hv]
    simp only[yielded,b1,PC,this];cases b<;>rfl
  simp only[wpList];rw[if_pos hw];refine .inl<|Oper.wp_mono ?_ l.wp;rintro a2 a5 ⟨v,e,hR,hE⟩;refine⟨by simpa using Y,V.step M h4,.inl ⟨by rw[dd A];exact J,us.set i v,?_,⟨by simpa using q.len,fun j k m=>?_,fun j k=>?_,O _ _ _ q.wi hE⟩⟩⟩
  ·rw[e];exact jL d us _ _ i _ v u g a0
  ·by_cases r:i=j
   ·subst r;have:(us.set i v).getD i undef=v:=by simp[List.getD,show i<us.length by omega]
    rw[this];exact hR
   rw[dd r]at k;have:(us.set i v).getD j undef=us.getD j undef:=by simp[List.getD,r]
   rw[this];exact F i j _ _ _ q.wi (q.fact j k fun c y=>by rw[X]at y;cases y) hE
  by_cases r:i=j
  ·subst r;rw[fh (by omega)]at k;cases k
  rw[dd r]at k;have:(us.set i v).getD j undef=us.getD j undef:=by simp[List.getD,r]
  rw[this];exact q.old j k
 rintro L E W Y ⟨_,_,q⟩;rcases q with⟨J,_⟩|⟨_,hQ⟩
 ·have:=Y n (by omega);rw[J]at this;cases this
 exact hQ
theorem sI{P:Program}{id:Nat}{l:List Oper}{Q:Exit->Act->World->Prop}{a:Act}{w:World}(b:List (Option Nat))(F:List (Value->World->Prop))(n:Nat)(f:Oper)
  (A:P.follows .mixedOrders=true) (p:fE l.toArray=true) (x:l.map (·.dst)=b) (q:b7 a.tmps.size b=true) (h:Stab w F)
  (g:l.length=n+1) (o:l[n]? =some f) (k:f.guard=none) (m:f.dst=none) (e:(List.range n).all (fun i=>reach l.toArray n n i)=true)
  (c:Steps P l.toArray b a.tmps (fx F) (fun _=>none) (Below w.heap.size w) (fun _ W W'=>Below W.heap.size W W') 0 (l.take n))
  (d:∀(us:List Value) (W:World),us.length=b.length->(∀j,j<n->fx F j (us.getD j undef) W)->Below w.heap.size w W->OpRuns P f (fun s=>(cM a.tmps (b.zip us)).getD s undef) W fun _ W'=>Q .normal ⟨cM a.tmps (b.zip us),a.defers⟩ W'):(Code.region id l.toArray true).wp P Q a w:=
 mU b (fx F) (fun _=>none) (Below w.heap.size w) (fun _ W W'=>Below W.heap.size W W') A p (by simpa using x) q (fun _=>rfl)
  (fun _ W W' r z=>r.trans (z.mono r.size)) (fun _ j v W W' u t y=>h.get j v W W' u t y) (Below.refl _ _).drew n f (by simpa using g) (by simpa using o) k m e (by simpa using c) d
end Go.Proofs.YtfoejfohbkmmeaaGreatDoor
