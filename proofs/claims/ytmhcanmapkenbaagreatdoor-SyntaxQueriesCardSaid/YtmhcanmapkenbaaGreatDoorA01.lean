import Derived.Test.YtmhcanmapkenbaaGreatDoorCards
import Derived.Test.YtmhcanmapkenbaaGreatDoorTie
import Derived.Test.YtmhcanmapkenbaaGreatDoorA00
import Derived.ProofKit
import Derived.OpenShut
import Derived.Deep.DeepHandedRow
import Derived.Stop.LaidErr
import Derived.Lay
import Derived.SevenTiedAt
import Derived.Maps.AppendAt
import Derived.Lib.AppendStr
import Derived.OwnWalk
import Derived.Deep.Slices
import Derived.Orders
import Derived.StillTail
import Derived.Tactics
set_option maxRecDepth 100000
set_option linter.defProp false
open Go.Proofs.Tryz
namespace Go.Proofs.YtmhcanmapkenbaaGreatDoor
open Go.ChangeShapes Go.WideShapes Go.ChangeAt Go.RowKit
def own:ownKnob prog.godebug=none:=U
def IX:laidOutB prog=true:=U
abbrev ua:List (String×DataW Unit):=Rows.syntaxAnswersRow.laid
def zx:(prog.globals[1]?).map (·.type)=some 250:=U
def qS:(prog.globals[6]?).map (·.type)=some 61:=U
def tM:(prog.globals[7]?).map (·.type)=some 61:=U
def zy:prog.cellsOf 250=20:=U
def EQ:prog.cellsOf 56=1:=U
def ER{n:String}{g:Nat}{k:String}{d:DataW Unit}{r:List (String×DataW Unit)}{W:World}(h:laidMet prog ((n,.iface k d)::r) W)(i:prog.globalNamed n=some g)
  (j:(prog.globals[g]?).map (·.type)=some 61):∃l p,W.var? prog n=some #[.iface l p]:=by
 obtain⟨ps,⟨m,o,cs,f,p,q,b,c,a,hd,_,_⟩,_⟩:=h;obtain rfl:=QS (i.symm.trans b);obtain rfl:=QS (j.symm.trans c);obtain⟨_,u,v,e,_⟩:=iface_of_trod underlying61 hd;exact⟨u,v,by rw[a];congr 1;exact Array.toList_inj.1 e⟩
def L8{W:World}(a:laidMetH prog ua W)(b:W.ShapedOpen prog):Env W:=by
 have a:laidMet prog ua W:=by rwa[MakeChecks.laidMetH_plain _ _ _ U]at a
 have c:=a.tail.tail;have d:=c.tail.tail;refine⟨laysM155.s1_3 W b,Lib.tabIs_of_head zt zx underlying250 underlying56 EQ zy c,ER d.tail mW qS,ER d pc tM⟩
def ES(a:Os)(args:Array Value):laidMet prog ua ((World.laidAll prog a ua).forCall (λ_ _=>0) ⟨#[],args,[]⟩).memory:=
 laidMet_laidAll _ U U
section
variable {H:Type} {enc:TypeId×Value->H}
def tN{P:Program}(hl:laidOutB P=true){W W':World}(i:Below W.heap.size W W')(ts:List TypeId):∀(vs:List Value) (ds:List (DataW H)) (p:List MemPlace),(ts.all λt=>P.readableRec t&&decide (t<P.types.size))=true->
  DataW.TrodAll enc P W 0 (λ_=>true) true ts vs ds p->(∀x∈p,x.block<W.heap.size)->DataW.TrodAll enc P W' 0 (λb=>decide (b<W.heap.size)) true ts vs ds p:=by
 induction ts with
 |nil=>
  intro vs ds p _ h _;obtain⟨rfl,rfl,rfl⟩:=trodAll_nil h;exact trodAll_mk0
 |cons t ts ih=>
  intro vs ds p c h a;obtain⟨v,k,d,f,l,m,rfl,rfl,rfl,g,j⟩:=trodAll_cons h;simp only[Rc,Qh,decide_eq_true_eq]at c;exact trodAll_cons_mk (Below.trod hl c.1.1 c.1.2 g i λx e=>a x (Sh _ e)) (ih _ _ _ (by simpa using c.2) j λx e=>a x (Sc _ e))
def ET{f:Func}{s:ChangeSpec}{W W':World}{args:Array Value}{ds c:List (DataW H)}{a:List MemPlace}
  (d:DataW.Whole enc prog f.params.toList s.vars false W args.toList ds c a) (m:s.vars=[]) (b:f.resultTypes=#[4]) (i:(f.params.toList.all λt=>prog.readableRec t&&decide (t<prog.types.size))=true)
  (n:(s.fn H (ds++c)).results=[.lit (.bool true)]) (o:(s.fn H (ds++c)).args=ds) (r:(s.fn H (ds++c)).vars=[]) (l:Below W.heap.size W W'):
  s.post enc prog f false true false false W args (.bool true) W':=by
 have g:=λx j=>d.lt x j
 have e:=d;obtain⟨p,q,u,k,rfl,_,_⟩:=d;rw[m]at k;obtain⟨rfl,rfl⟩:=trodVars_none k;refine⟨ds,[],p++[],[],p,[],e,?_,?_,?_,l.frame _,λh=>by cases h⟩
 ·rw[n,b];exact trodAll_mk1 (shut_bool underlying4 _)
 ·rw[o];exact tN IX l _ _ _ _ i u λx j=>g x (by simpa using j)
 rw[r,m];rfl
def zz{C:Checked}{l:Os}{f:FuncId}{k:Func}{s:OpenSpec}{c:List PathCond}{b:Bool}{d:List (String×DataW Unit)}(w0:World)(args:Array Value)(h:w0.os=l)
  (j:(w0.forCall (λ_ _=>0) ⟨#[],args,[]⟩).Shaped C.prog) (e:Input.okWideB C.prog (w0.forCall (λ_ _=>0) ⟨#[],args,[]⟩) f ⟨#[],args,[]⟩=true)
  (g:s.preRow enc C.prog k c b d (w0.forCall (λ_ _=>0) ⟨#[],args,[]⟩).memory args):
  ∃(w:World) (a:Tape) (i:Input),w.os=l/\(w.forCall a i).Shaped C.prog/\i.vars=[]/\Input.okWide C.prog (w.forCall a i) .any w.heap.size f i/\
   s.preRow enc C.prog k c b d (w.forCall a i).memory i.args/\({}:Assume).holds C.prog (lone (Frame.enter C.prog f i.args .normal) [] (w.forCall a i)):=
 ⟨w0,λ_ _=>0,⟨#[],args,[]⟩,h,j,(Input.okWide_of_okWideB (base:=0) e).1,(Input.okWide_of_okWideB e).2,g,by
  simp only[Assume.holds];exact⟨F,F,λ_=>Modest.zero,F,F⟩⟩
end
end Go.Proofs.YtmhcanmapkenbaaGreatDoor
namespace Go.Proofs.YtmhcanmapkenbaaGreatDoor
open Go.ChangeShapes Go.WideShapes Go.ChangeAt Go.RowKit Go.Joins
end Go.Proofs.YtmhcanmapkenbaaGreatDoor
namespace Go.Proofs.YtmhcanmapkenbaaGreatDoor
open Go.RowKit
def qT(w:World)(t:TypeId)(cs:Array Value):
  ∃W,w.alloc (.cells cs t)=W/\Below w.heap.size w W/\IsBlk W w.heap.size t cs/\W.heap.size=w.heap.size+1:=
 ⟨_,Z,(Below.refl _ _).alloc (Qi _) _,gL _ _ _,F⟩
def tO(w:World)(t u:TypeId)(cs ds:Array Value):
  ∃W,(w.alloc (.cells cs t)).alloc (.cells ds u)=W/\Below w.heap.size w W/\IsBlk W w.heap.size t cs/\IsBlk W (w.heap.size+1) u ds/\W.heap.size=w.heap.size+2:=by
 refine⟨_,Z,((Below.refl _ _).alloc (Qi _) _).alloc F _,(gL _ _ _).alloc _,?_,F⟩;have:=gL (w.alloc (.cells cs t)) u ds;simpa using this
def aZ{B:Nat}{w W W':World}(h:Below B w W)(a:Below W.heap.size W W')(b:B<=W.heap.size):Below B w W':=h.trans (a.mono b)
def At(w:World)(B:Nat)(A:Option Addr)(xs:List Value):Prop:=
 0<xs.length->∃b off,A=some ⟨b,off,none⟩/\b<B/\∀(j:Nat) u,xs[j]? =some u->w.cell? ⟨b,off+j,none⟩=some u
def At.keep{w w':World}{B:Nat}{A:Option Addr}{xs:List Value}(h:At w B A xs)(a:∀p:Addr,p.block<B->w'.cell? p=w.cell? p):At w' B A xs:=by grind [At]
def At.below{w w':World}{B:Nat}{A:Option Addr}{xs:List Value}(h:At w B A xs)(a:Below B w w'):At w' B A xs:=h.keep λ_ b=>a.cell b
def At.more{w:World}{B a:Nat}{A:Option Addr}{xs:List Value}(h:At w B A xs)(b:B<=a):At w a A xs:=by grind [At]
def At.nil(w:World)(B:Nat)(A:Option Addr):At w B A []:=λh=>absurd h F
def Dx{w:World}{base:Nat}{e:TypeId}{size n c:Nat}{A:Option Addr}{xs:List Value}(h:w.ownsRow base e size (.slice A n c) n xs):At w w.heap.size A xs:=λi=>by
 rcases h.2 with⟨a,f⟩|⟨g,cap,cur,a,_,d,_⟩
 ·have:=h.1;rw[f]at this;simp at this;subst this;simp at i
 injection a with b
 subst b;refine⟨g,0,Z,(QK.1 d).1,λj u k=>?_⟩;have:=h.cells (g:=g) Z j u k;rwa[show(⟨g,0,none⟩:Addr).add j=⟨g,0+j,none⟩from by unfold Addr.add;split<;>simp_all]at this
structure V where
 t:Int
 n:Int
 s:ByteArray
def f7(l:List UInt8):List Value:=l.map λc=>.int .u8 c.toNat
def mH(l:List UInt8):(f7 l).length=l.length:=by simp[f7]
end Go.Proofs.YtmhcanmapkenbaaGreatDoor
namespace Go.Proofs.YtmhcanmapkenbaaGreatDoor
open Go.ChangeShapes Go.WideShapes Go.ChangeAt Go.RowKit Go.Joins Go.Deep
open Lib renaming hid→J
section
variable {H:Type} {enc:TypeId×Value->H} {W:World} {b0 base:Nat} {spare:Nat->Bool} {held:Bool}
instance:Inhabited V:=⟨⟨0,0,⟨#[]⟩⟩⟩
def Dy{n:Nat}(h:n<=maxLen):n<=9223372036854775807:=by unfold maxLen at h;omega
def ub:prog.cellsOf 5=1:=U
end
def Dz:prog.cellsOf 3=1:=U
def km(l:List Int):List Value:=l.map λx=>.int .i64 x
def L9{x:Int}(h:(Lit.int .i64 x).wf=true): -9223372036854775808<=x/\x<=9223372036854775807:=by simpa[Lit.wf,IntKind.min,IntKind.max,IntKind.signed,IntKind.bits]using h
def zA{H:Type}{enc:TypeId×Value->H}{W:World}{E base:Nat}{k:Nat->Bool}{m:Bool}{v:Value}{d:DataW H}{p:List MemPlace}
  (N:Value.okWide prog W .any E 22 v) (h:DataW.Trod enc prog W base k m 22 v d p):
  ∃(A:Option Addr) (l:List Int) (c:Nat),v=.slice A l.length c/\At W W.heap.size A (km l)/\l.length<=c/\c<=9223372036854775807/\(A=none->c=0)/\∀e∈l,-9223372036854775808<=e/\e<=9223372036854775807:=by
 obtain⟨Q,f,cap,rfl⟩:=okWide_slice underlying22 N;obtain⟨x,I⟩:=h;rcases open_ints underlying22 underlying3 Dz I with⟨i,_⟩|⟨a,D,t,n,i,_,hl,L,P,_,g,s⟩
 ·simp[Value.cells]at i;obtain⟨rfl,rfl,rfl⟩:=i;exact⟨none,[],0,Z,At.nil _ _ _,F,F,λ_=>rfl,λe q=>by cases q⟩
 simp[Value.cells]at i;obtain⟨rfl,rfl,rfl⟩:=i;have K:f<=n.length:=by rw[P];split<;>omega
 have e:(n.take f).length=f:=by simp;omega
 have w:(km (n.take f)).length=f:=by unfold km;rw[Qr,e]
 refine⟨some a,n.take f,cap,by rw[e],λM=>?_,by rw[e];exact hl,Dy L,(λe=>by cases e),λe q=>L9 (s e (Ra q))⟩;rw[w]at M;have y:=g 0 O;have B:a.spot=none:=by
  have:=World.cell?_spot y;simpa[Addr.add]using this
 refine⟨a.block,a.off,by cases a;simp_all,?_,λj u C=>?_⟩
 ·have:=World.block_lt_of_cell? _ _ y;simpa[block_add]using this
 have J:j<f:=by
  have:=(Qm.1 C).1;rwa[w]at this
 have z:=g j O;have G:a.add j=⟨a.block,a.off+j,none⟩:=by
  obtain⟨b,o,sp⟩:=a;simp only at B;subst B;exact add_plain b o j
 rw[G]at z;rw[z,<-C];have r:j<n.length:=O
 simp only[km,QL,QQ,J,if_true,Qj r,Rf,List.getD,Q2]
end Go.Proofs.YtmhcanmapkenbaaGreatDoor
namespace Go.Proofs.YtmhcanmapkenbaaGreatDoor
open Lib renaming hid→J
def vb(listed:Array Bool)(o:Oper):Prop:=∀e∈o.after,Region.binds .any e=true->listed.getD e.on false=true
def IY{P:Program}{o:Oper}{a:Act}{w:World}{K:Act->World->Prop}{Q:Exit->Act->World->Prop}(h:o.wp P a w K (Exit.then K Q)):o.wp P a w K Q:=by
 unfold Oper.wp at*;generalize (execOp a.eval o).run P w=r at*;cases r with
 |ok n w'=>
  cases n<;>simp only[Oper.upon]at h⊢<;>
   first
    |exact h
    |exact Calls.mono h (λe c b=>by cases e<;>exact b)
 |halt x w'=>cases x<;>simp only[Oper.upon]at h⊢<;>exact h
def vc{P:Program}{ops:Array Oper}{i:Nat}{o:Oper}{a:Act}{w:World}{K:Act->World->Prop}{Q:Exit->Act->World->Prop}(b:ops[i]? =some o)
  (h:wpList P ops (Exit.then K Q) [o] a w):wpOp P ops Q i K a w:=by
 unfold wpOp;simp only[b];simp only[wpList]at h;split
 ·rename_i hw;rw[if_pos hw]at h;rcases h with h|h
  ·exact .inl (IY h)
  exact .inr h
 rename_i hw;rw[if_neg hw]at h;exact h
def ll(listed:Array Bool):Nat:=listed.toList.count false
def nR{a:Array Bool}{i:Nat}(h:a.getD i true=false):ll (a.setIfInBounds i true)+1=ll a:=by
 have e:i<a.size:=by
  rcases Rm i a.size with d|d
  ·exact d
  simp[R0 d]at h
 have c:a.toList[i]? =some false:=by
  simp[e]at h⊢;exact h
 unfold ll;rw[Rk];obtain⟨l⟩:=a;simp only at c⊢;clear h e;induction l generalizing i with
 |nil=>simp at c
 |cons b l ih=>
  cases i with
  |zero=>simp at c;subst c;simp
  |succ i=>
   have:=ih (i:=i) (by simpa using c);cases b<;>simp[Sq]<;>omega
def d7(ops:Array Oper):Bool:=(List.range ops.size).all λi=>((ops[i]?).map λo=>o.after.all λe=> !Region.binds .any e||decide (e.on<i)).getD true
def qU{ops:Array Oper}{a:Array Bool}(d:d7 ops=true)(g:a.size=ops.size)(l:Region.ready .any ops a=[]):∀(k i:Nat),i<=k->i<ops.size->a.getD i false=true:=by
 intro k;induction k with
 |zero=>
  intro i m b;obtain rfl:i=0:=O
  cases c:a.getD 0 true with
  |true=>simp[g,b]at c⊢;exact c
  |false=>
   have f:(0:Nat)∈Region.ready .any ops a:=mem_ready.2 ⟨c,ops[0],QR b,λe j h=>by
    have:=Qt.1 d 0 (SL.2 b);rw[QR b]at this;simp only[Rf,Q2,Sm,Q5,decide_eq_true_eq]at this;have:=(this e j).resolve_left (by rw[h];decide);omega⟩
   rw[l]at f;cases f
 |succ k ih=>
  intro i m b;cases c:a.getD i true with
  |true=>simp[g,b]at c⊢;exact c
  |false=>
   have f:i∈Region.ready .any ops a:=mem_ready.2 ⟨c,ops[i],QR b,λe j h=>by
    have:=Qt.1 d i (SL.2 b);rw[QR b]at this;simp only[Rf,Q2,Sm,Q5,decide_eq_true_eq]at this;have:=(this e j).resolve_left (by rw[h];decide);exact ih e.on O O⟩
   rw[l]at f;cases f
def DA{P:Program}{ops:Array Oper}{Q:Exit->Act->World->Prop}(I:Array Bool->Act->World->Prop)(h:d7 ops=true)
  (f:∀(b:Array Bool) (a:Act) (w:World) (i:Nat) (o:Oper),b.size=ops.size->b.getD i true=false->ops[i]? =some o->vb b o->I b a w->wpList P ops (Exit.then (I (b.setIfInBounds i true)) Q) [o] a w)
  (e:∀(b:Array Bool) (a:Act) (w:World),(∀i,i<ops.size->b.getD i false=true)->I b a w->Q .normal a w):
  ∀(c:Nat) (b:Array Bool) (a:Act) (w:World),b.size=ops.size->ll b<=c->I b a w->wpAny P .any ops Q c b a w:=by
 intro c;induction c with
 |zero=>
  intro b a w d t n;have g:Region.ready .any ops b=[]:=by
   cases g:Region.ready .any ops b with
   |nil=>rfl
   |cons i l=>
    have u:=(mem_ready.1 (show i∈Region.ready .any ops b by rw[g];exact Qs ..)).1;have:=nR u;omega
  exact⟨g,e b a w (λi k=>qU h d g i i (Qi _) k) n⟩
 |succ c ih=>
  intro b a w d t n;refine⟨λg=>e b a w (λi k=>qU h d g i i (Qi _) k) n,λi k=>?_⟩;obtain⟨m,o,p,j⟩:=mem_ready.1 k;have s:=vc p (f b a w i o d m p j n);refine wpOp_mono (λq w' r=>ih _ q w' (by simpa using d) ?_ r) s;have:=nR m;omega
def fH{P:Program}{id:Nat}{ops:Array Oper}{Q:Exit->Act->World->Prop}{a:Act}{w:World}(I:Array Bool->Act->World->Prop)(g:P.follows .mixedOrders=true)(e:d7 ops=true)
  (f:I (Array.replicate ops.size false) a w.drew)
  (c:∀(b:Array Bool) (a:Act) (w:World) (i:Nat) (o:Oper),b.size=ops.size->b.getD i true=false->ops[i]? =some o->vb b o->I b a w->wpList P ops (Exit.then (I (b.setIfInBounds i true)) Q) [o] a w)
  (d:∀(b:Array Bool) (a:Act) (w:World),(∀i,i<ops.size->b.getD i false=true)->I b a w->Q .normal a w):(Code.region id ops true).wp P Q a w:=
 wp_region_any g (DA I e c d ops.size _ a _ F0 (by unfold ll;simp) f)
def upd(t:Array Value):List (Nat×Value)->Array Value
 |[]=>t
 |p::l=>upd (t.setIfInBounds p.1 p.2) l
def EU(t:Array Value)(i:Nat)(d:Value):t.setIfInBounds i (t.getD i d)=t:=by
 rcases Rm i t.size with h|h
 ·apply Rb;rw[Rk];apply SO;intro j;rw[Sv];split
  ·rename_i e;subst e;simp[h]
  rfl
 simp[Array.setIfInBounds,Tn.2 h]
def d8{L:Array Bool}{i:Nat}(h:i<L.size):(L.setIfInBounds i true).getD i false=true:=by simp[h]
def bU{L:Array Bool}{i j:Nat}(h:i≠j):(L.setIfInBounds i true).getD j false=L.getD j false:=getD_set_ne false h
def ko{n j:Nat}:¬(Array.replicate n false).getD j false=true:=by
 rcases Rm j n with h|h<;>simp[h]
def Closed(ops:Array Oper)(L:Array Bool):Prop:=∀(j:Nat) (o:Oper),ops[j]? =some o->L.getD j false=true->vb L o
def gr(ops:Array Oper):Closed ops (Array.replicate ops.size false):=λ_ _ _ h=>absurd h ko
def Closed.step{ops:Array Oper}{L:Array Bool}{i:Nat}{o:Oper}(h:Closed ops L)(g:ops[i]? =some o)(k:vb L o):Closed ops (L.setIfInBounds i true):=by
 intro j f d hl;by_cases a:i=j
 ·subst a;obtain rfl:o=f:=QS (g.symm.trans d);exact λe c b=>getD_set_true (k e c b)
 rw[bU a]at hl;exact λe c b=>getD_set_true (h j f d hl e c b)
def cJ(t:Array Value):List (Option Nat×Value)->Array Value
 |[]=>t
 |(some s,v)::l=>cJ (t.setIfInBounds s v) l
 |(none,_)::l=>cJ t l
def cc(n:Nat):List (Option Nat)->Bool
 |[]=>true
 |none::l=>cc n l
 |some s::l=> !l.contains (some s)&&decide (s<n)&&cc n l
def ib(t:Array Value):List (Option Nat)->List Value
 |[]=>[]
 |some s::l=>t.getD s undef::ib t l
 |none::l=>undef::ib t l
def eM(t:Array Value):∀l,(ib t l).length=l.length
 |[]=>rfl
 |some _::l=>by simp[ib,eM t l]
 |none::l=>by simp[ib,eM t l]
def lS(t:Array Value):∀(l:List (Option Nat)) (j s:Nat),l[j]? =some (some s)->(ib t l).getD j undef=t.getD s undef
 |[],j,s,h=>by simp at h
 |x::l,0,s,h=>by
  simp at h;subst h;rfl
 |x::l,j+1,s,h=>by
  have:=lS t l j s (by simpa using h);cases x<;>simpa[ib]using this
def jW(t:Array Value):∀l:List (Option Nat),cJ t (l.zip (ib t l))=t
 |[]=>rfl
 |some s::l=>by simp only[ib,Q8,cJ,EU];exact jW t l
 |none::l=>by simp only[ib,Q8,cJ];exact jW t l
def gM:∀(l:List (Option Nat×Value)) (t:Array Value),(cJ t l).size=t.size
 |[],_=>rfl
 |(some s,v)::l,t=>by simp only[cJ,gM l];simp
 |(none,_)::l,t=>by simp only[cJ,gM l]
def set_comm(t:Array Value)(i j:Nat)(u v:Value)(h:i≠j):(t.setIfInBounds i u).setIfInBounds j v=(t.setIfInBounds j v).setIfInBounds i u:=by
 apply Rb;simp only[Rk];exact List.set_comm _ _ h
def IZ(t:Array Value)(i:Nat)(u v:Value):(t.setIfInBounds i u).setIfInBounds i v=t.setIfInBounds i v:=by
 apply Rb;simp
def qV:∀(ds:List (Option Nat)) (us:List Value) (t:Array Value) (s:Nat) (v:Value),ds.contains (some s)=false->(cJ t (ds.zip us)).setIfInBounds s v=cJ (t.setIfInBounds s v) (ds.zip us)
 |[],_,_,_,_,_=>by simp[cJ]
 |_::_,[],_,_,_,_=>by simp[cJ]
 |none::ds,u::us,t,s,v,h=>by
  simp only[Q8,cJ];exact qV ds us t s v (by simpa using h)
 |some d::ds,u::us,t,s,v,h=>by
  simp only[Q8,cJ];simp only[Sr,QD]at h;have a:d≠s:=by
   have:=h.1;intro e;subst e;simp at this
  rw[qV ds us _ s v h.2,set_comm _ _ _ _ _ a]
def gN:∀(ds:List (Option Nat)) (us:List Value) (t:Array Value) (s:Nat),ds.contains (some s)=false->(cJ t (ds.zip us)).getD s undef=t.getD s undef
 |[],_,_,_,_=>by simp[cJ]
 |_::_,[],_,_,_=>by simp[cJ]
 |none::ds,u::us,t,s,h=>by
  simp only[Q8,cJ];exact gN ds us t s (by simpa using h)
 |some d::ds,u::us,t,s,h=>by
  simp only[Q8,cJ];simp only[Sr,QD]at h;have a:d≠s:=by
   have:=h.1;intro e;subst e;simp at this
  rw[gN ds us _ s h.2];simp[a]
def dD:∀(ds:List (Option Nat)) (us:List Value) (t:Array Value) (j s:Nat),cc t.size ds=true->us.length=ds.length->ds[j]? =some (some s)->(cJ t (ds.zip us)).getD s undef=us.getD j undef/\s<t.size
 |[],_,_,j,s,_,_,h=>by simp at h
 |x::ds,[],t,j,s,ha,hl,h=>by simp at hl
 |x::ds,u::us,t,0,s,ha,hl,h=>by
  simp only[QV,Qy]at h;subst h;simp only[cc,Qh,Re,decide_eq_true_eq]at ha;simp only[Q8,cJ];rw[gN _ _ _ _ ha.1.1];exact⟨by simp[ha.1.2],ha.1.2⟩
 |x::ds,u::us,t,j+1,s,ha,hl,h=>by
  have a:ds[j]? =some (some s):=by simpa using h
  cases x with
  |none=>
   have:=dD ds us t j s ha (by simpa using hl) a;simpa[cJ]using this
  |some d=>
   simp only[cc,Qh]at ha;have:=dD ds us (t.setIfInBounds d u) j s (by simpa using ha.2) (by simpa using hl) a;simpa[cJ]using this
def jX:∀(ds:List (Option Nat)) (us:List Value) (t:Array Value) (d:List Deferred) (i:Nat) (o:Option Nat) (v:Value),cc t.size ds=true->us.length=ds.length->ds[i]? =some o->
  (⟨cJ t (ds.zip us),d⟩:Act).put o v=⟨cJ t (ds.zip (us.set i v)),d⟩
 |[],_,_,_,i,o,v,_,_,h=>by simp at h
 |x::ds,[],t,d,i,o,v,ha,hl,h=>by simp at hl
 |x::ds,u::us,t,d,0,o,v,ha,hl,h=>by
  simp only[QV,Qy]at h;subst h;cases x with
  |none=>rfl
  |some s=>
   simp only[cc,Qh,Re]at ha;simp only[Q8,cJ,Ss,Act.put];rw[qV _ _ _ _ _ ha.1.1,IZ]
 |x::ds,u::us,t,d,i+1,o,v,ha,hl,h=>by
  have a:ds[i]? =some o:=by simpa using h
  cases x with
  |none=>
   simp only[Q8,cJ,Sq];exact jX ds us t d i o v ha (by simpa using hl) a
  |some s=>
   simp only[cc,Qh]at ha;simp only[Q8,cJ,Sq];exact jX ds us _ d i o v (by simpa using ha.2) (by simpa using hl) a
def eX(T:Nat->Value):Operand->Value
 | .tmp s=>T s
 | .const v=>v
 | .global g=>.pointer (some ⟨g,0,none⟩)
 | .func f=>.func (.func f) #[] #[]
def ve(a:Act):a.eval=eX λs=>a.tmps.getD s undef:=by
 funext x;cases x<;>rfl
def OpRuns(P:Program)(o:Oper)(T:Nat->Value)(W:World)(K:Value->World->Prop):Prop:=
 match (execOp (eX T) o).run P W with
 | .ok (.value v) W'=>K v W'
 | .ok .skip W'=>K undef W'
 | .ok (.enter f args) W'=>Calls P f args W' λe W''=>∃v,e=.returned v/\K v W''
 |_=>False
def OpRuns.of_ok{P:Program}{o:Oper}{T:Nat->Value}{W W':World}{K:Value->World->Prop}{v:Value}(h:(execOp (eX T) o).run P W=.ok (.value v) W')(a:K v W'):OpRuns P o T W K:=by
 unfold OpRuns;rw[h];exact a
def OpRuns.of_call{P:Program}{o:Oper}{T:Nat->Value}{W:World}{K:Value->World->Prop}{f:FuncId}{args:Array Value}(h:(execOp (eX T) o).run P W=.ok (.enter f args) W)(b:Calls P f args W λe a=>∃v,e=.returned v/\K v a):OpRuns P o T W K:=by
 unfold OpRuns;rw[h];exact b
def OpRuns.wp{P:Program}{o:Oper}{a:Act}{W:World}{K:Value->World->Prop}{Q:Exit->Act->World->Prop}(h:OpRuns P o (λs=>a.tmps.getD s undef) W K):o.wp P a W (λb W'=>∃v,b=a.put o.dst v/\K v W') Q:=by
 unfold OpRuns at h;unfold Oper.wp;rw[ve];generalize (execOp (eX λs=>a.tmps.getD s undef) o).run P W=r at h;cases r with
 |ok n w'=>
  cases n<;>simp only[Oper.upon]at h⊢<;>
   first
    |exact⟨_,Z,h⟩
    |exact Calls.mono h (λe f ⟨v,c,d⟩=>by subst c;exact⟨v,Z,d⟩)
    |exact h.elim
 |halt x w'=>cases x<;>exact h.elim
def reach(ops:Array Oper):Nat->Nat->Nat->Bool
 |0,j,i=>j==i
 |n+1,j,i=>j==i||((ops[j]?).map λo=>o.after.any λe=>Region.binds .any e&&reach ops n e.on i).getD false
def Closed.reach{ops:Array Oper}{L:Array Bool}(h:Closed ops L):∀(n j i:Nat),reach ops n j i=true->L.getD j false=true->L.getD i false=true
 |0,j,i,a,hl=>by
  simp only[Go.Proofs.YtmhcanmapkenbaaGreatDoor.reach,beq_iff_eq]at a;subst a;exact hl
 |n+1,j,i,a,hl=>by
  simp only[Go.Proofs.YtmhcanmapkenbaaGreatDoor.reach,Q5,beq_iff_eq]at a;rcases a with rfl|a
  ·exact hl
  cases c:ops[j]? with
  |none=>simp[c]at a
  |some o=>
   simp only[c,Rf,Q2]at a;obtain⟨e,d,b⟩:=Array.any_eq_true'.1 a;simp only[Qh]at b;exact Closed.reach h n e.on i b.2 (h j o c hl e d b.1)
structure MonoAt (R:Nat->Value->World->Prop) (cons:Nat->Option Nat) (WI:World->Prop) (init:List Value) (L:Array Bool) (us:List Value) (W:World):Prop where
 len:us.length=init.length
 fact:∀j,L.getD j false=true->(∀c,cons j=some c->L.getD c false=false)->R j (us.getD j undef) W
 old:∀j,L.getD j false=false->us.getD j undef=init.getD j undef
 wi:WI W
def Bx(ops:Array Oper)(cons:Nat->Option Nat)(n i j:Nat):Bool:=
 match cons j with
 |none=>true
 |some c=>reach ops n c i
structure Given (ops:Array Oper) (dsts:List (Option Nat)) (t:Array Value) (R:Nat->Value->World->Prop) (cons:Nat->Option Nat) (WI:World->Prop) (i:Nat) (T:Nat->Value) (W:World):Prop where
 keep:∀s,dsts.contains (some s)=false->T s=t.getD s undef
 fact:∀n j s,(j !=i&&reach ops n i j&&Bx ops cons n i j&&dsts[j]? ==some (some s))=true->R j (T s) W
 old:∀n j s,(reach ops n j i&&dsts[j]? ==some (some s))=true->T s=t.getD s undef
 wi:WI W
def nS(ops:Array Oper)(dsts:List (Option Nat))(R:Nat->Value->World->Prop)(cons:Nat->Option Nat)(i:Nat):Option (Nat×Bool)->Prop
 |none=>True
 |some (j,b)=>∃n s,(j !=i&&reach ops n i j&&cons j==none&&dsts[j]? ==some (some s))=true/\∀v W,R j v W->v=.bool b
def Steps(P:Program)(ops:Array Oper)(dsts:List (Option Nat))(t:Array Value)(R:Nat->Value->World->Prop)(cons:Nat->Option Nat)(WI:World->Prop)(Ext:Nat->World->World->Prop):Nat->List Oper->Prop
 |_,[]=>True
 |i,o::l=>(nS ops dsts R cons i o.guard/\∀(T:Nat->Value) (W:World),Given ops dsts t R cons WI i T W->OpRuns P o T W λv W'=>R i v W'/\Ext i W W')/\Steps P ops dsts t R cons WI Ext (i+1) l
def Steps.at{P:Program}{ops:Array Oper}{a:List (Option Nat)}{t:Array Value}{R:Nat->Value->World->Prop}{cons:Nat->Option Nat}{c:World->Prop}{b:Nat->World->World->Prop}:∀(l:List Oper) (n:Nat),Steps P ops a t R cons c b n l->∀(k:Nat) (o:Oper),l[k]? =some o->
  nS ops a R cons (n+k) o.guard/\∀(T:Nat->Value) (W:World),Given ops a t R cons c (n+k) T W->OpRuns P o T W λv W'=>R (n+k) v W'/\b (n+k) W W'
 |[],_,_,k,o,h=>by simp at h
 |x::l,n,hs,0,o,h=>by
  simp only[QV,Qy]at h;subst h;exact hs.1
 |x::l,n,hs,k+1,o,h=>by
  have:=Steps.at l (n+1) hs.2 k o (by simpa using h);rw[show n+1+k=n+(k+1) by omega]at this;exact this
def qW{P:Program}{id:Nat}{ops:Array Oper}{Q:Exit->Act->World->Prop}{a:Act}{w:World}(d:List (Option Nat))(R:Nat->Value->World->Prop)(cons:Nat->Option Nat)(y:World->Prop)(z:Nat->World->World->Prop)
  (hm:P.follows .mixedOrders=true) (T:d7 ops=true) (hd:ops.toList.map (·.dst)=d) (r:cc a.tmps.size d=true)
  (E:∀i W W',y W->z i W W'->y W') (A:∀i j v W W',cons j≠some i->y W->R j v W->z i W W'->R j v W') (h0:y w.drew)
  (B:Steps P ops d a.tmps R cons y z 0 ops.toList)
  (D:∀(us:List Value) (W:World),us.length=d.length->(∀j,j<ops.size->cons j=none->R j (us.getD j undef) W)->y W->Q .normal ⟨cJ a.tmps (d.zip us),a.defers⟩ W):(Code.region id ops true).wp P Q a w:=by
 have a4:d.length=ops.size:=by rw[<-hd];simp
 refine fH (λL M W=>∃us,M=⟨cJ a.tmps (d.zip us),a.defers⟩/\L.size=ops.size/\Closed ops L/\MonoAt R cons y (ib a.tmps d) L us W) hm T ⟨ib a.tmps d,?_,F,gr ops,⟨Z,λj h=>absurd h ko,λ_ _=>rfl,h0⟩⟩ ?_ ?_
 ·rw[jW]
 ·rintro L M W i o N h2 C h4 ⟨us,rfl,_,U,m⟩;have hi:i<ops.size:=(QK.1 C).1;have V:d[i]? =some o.dst:=by
   rw[<-hd,QL];simp only[QO,C,Rf]
  have k:us.length=d.length:=by rw[m.len,eM]
  have J:L.getD i false=false:=getD_both h2;have K:∀n j,j≠i->reach ops n i j=true->L.getD j false=true:=λn j h x=>by
   have q:=U.step C h4;have:=q.reach n i j x (d8 O);rwa[bU (λe=>h e.symm)]at this
  have I:∀n j,reach ops n j i=true->L.getD j false=false:=λn j x=>by
   cases hl:L.getD j false with
   |false=>rfl
   |true=>
    have:=U.reach n j i x hl;rw[J]at this;cases this
  have G:Given ops d a.tmps R cons y i (λs=>(cJ a.tmps (d.zip us)).getD s undef) W:=by
   refine⟨λs f=>gN d us _ s f,λn j s f=>?_,λn j s f=>?_,m.wi⟩
   ·simp only[Qh,bne_iff_ne,beq_iff_eq]at f;obtain⟨⟨⟨h,x⟩,u⟩,f⟩:=f;show R j ((cJ a.tmps (d.zip us)).getD s undef) W
    rw[(dD d us _ j s r k f).1];refine m.fact j (K n j h x) λc g=>?_
    rw[Bx,g]at u;exact I n c u
   simp only[Qh,beq_iff_eq]at f;obtain⟨x,f⟩:=f;show(cJ a.tmps (d.zip us)).getD s undef=_
   rw[(dD d us _ j s r k f).1,m.old j (I n j x),lS _ _ _ _ f]
  have hS:=Steps.at ops.toList 0 B i o (by simpa using C);rw[QT]at hS;obtain⟨hg,t⟩:=hS;have t:=t _ W G;have hw:Region.wanted o (yielded ops (cJ a.tmps (d.zip us)))=true:=by
   unfold Region.wanted;cases X:o.guard with
   |none=>rfl
   |some p=>
    obtain⟨j,b⟩:=p;rw[X]at hg;obtain⟨n,s,f,S⟩:=hg;simp only[Qh,bne_iff_ne,beq_iff_eq]at f;obtain⟨⟨⟨h,x⟩,u⟩,f⟩:=f;have hv:=S _ _ (m.fact j (K n j h x) λc g=>by rw[u]at g;cases g);rw[<-(dD d us _ j s r k f).1]at hv;have Y:=(dD d us a.tmps j s r k f).2;have a0:(ops[j]?).bind (·.dst)=some s:=by
     rw[<-hd,QL,QO]at f;cases ho:ops[j]? with
     |none=>simp[ho]at f
     |some oj=>simpa[ho]using f
    have:(cJ a.tmps (d.zip us))[s]? =some (.bool b):=by
     have hz:s<(cJ a.tmps (d.zip us)).size:=by rw[gM];exact Y
     simp only[QG,QR hz,Q2]at hv;rw[QR hz,hv]
    simp only[yielded,a0,QY,this];cases b<;>rfl
  simp only[wpList];rw[if_pos hw];refine .inl<|Oper.wp_mono ?_ t.wp;rintro a3 a2 ⟨v,e,S,hE⟩;refine⟨us.set i v,?_,by simpa using N,U.step C h4,⟨by simpa using m.len,λj h g=>?_,λj h=>?_,E _ _ _ m.wi hE⟩⟩
  ·rw[e];exact jX d us _ _ i _ v r k V
  ·by_cases l:i=j
   ·subst l;have:(us.set i v).getD i undef=v:=by simp[List.getD,show i<us.length by omega]
    rw[this];exact S
   rw[bU l]at h;have:(us.set i v).getD j undef=us.getD j undef:=by simp[List.getD,l]
   rw[this];refine A i j _ _ _ (λe=>?_) m.wi (m.fact j h λc q=>?_) hE
   ·have:=g i e;rw[d8 O]at this;cases this
   have:=g c q;by_cases H:i=c
   ·subst H;exact J
   rwa[bU H]at this
  by_cases l:i=j
  ·subst l;rw[d8 O]at h;cases h
  rw[bU l]at h;have:(us.set i v).getD j undef=us.getD j undef:=by simp[List.getD,l]
  rw[this];exact m.old j h
 rintro L M W N ⟨us,rfl,a1,_,m⟩;refine D us W (by rw[m.len,eM]) (λj h g=>m.fact j (N j h) λc q=>by rw[g]at q;cases q) m.wi
end Go.Proofs.YtmhcanmapkenbaaGreatDoor
namespace Go.Proofs.YtmhcanmapkenbaaGreatDoor
open Go.RowKit
open Lib renaming hid→J
def jK(F:List (Value->World->Prop))(j:Nat):Value->World->Prop:=F.getD j λ_ _=>True
inductive Stab (w:World):List (Value->World->Prop)->Prop
 |nil:Stab w []
 |cons {f:Value->World->Prop} {l:List (Value->World->Prop)} (h:∀v W W',Below w.heap.size w W->f v W->Below W.heap.size W W'->f v W') (hs:Stab w l):Stab w (f::l)
def Stab.eq{w:World}{x:Value}{l:List (Value->World->Prop)}(a:Stab w l):Stab w ((λv _=>v=x)::l):=.cons (λ_ _ _ _ h _=>h) a
def Stab.get{w:World}{l:List (Value->World->Prop)}(h:Stab w l):∀j v W W',Below w.heap.size w W->jK l j v W->Below W.heap.size W W'->jK l j v W':=by
 induction h with
 |nil=>intro j v W W' _ _ _;simp[jK]
 |cons h hs ih=>
  intro j v W W' c b a;cases j with
  |zero=>exact h v W W' c b a
  |succ j=>exact ih j v W W' c b a
def Steps.nil{P:Program}{ops:Array Oper}{a:List (Option Nat)}{t:Array Value}{R:Nat->Value->World->Prop}{cons:Nat->Option Nat}{c:World->Prop}{b:Nat->World->World->Prop}{i:Nat}:Steps P ops a t R cons c b i []:=trivial
def Steps.cons{P:Program}{ops:Array Oper}{a:List (Option Nat)}{t:Array Value}{R:Nat->Value->World->Prop}{cons:Nat->Option Nat}{c:World->Prop}{b:Nat->World->World->Prop}{i:Nat}{o:Oper}{l:List Oper}
  (d:nS ops a R cons i o.guard) (h:∀(T:Nat->Value) (W:World),Given ops a t R cons c i T W->OpRuns P o T W λv W'=>R i v W'/\b i W W') (e:Steps P ops a t R cons c b (i+1) l):Steps P ops a t R cons c b i (o::l):=⟨⟨d,h⟩,e⟩
def k8{P:Program}{id:Nat}{l:List Oper}{Q:Exit->Act->World->Prop}{a:Act}{w:World}(b:List (Option Nat))(F:List (Value->World->Prop))
  (p:P.follows .mixedOrders=true) (g:d7 l.toArray=true) (hd:l.map (·.dst)=b) (h:cc a.tmps.size b=true) (i:Stab w F)
  (c:Steps P l.toArray b a.tmps (jK F) (λ_=>none) (Below w.heap.size w) (λ_ W W'=>Below W.heap.size W W') 0 l)
  (d:∀(us:List Value) (W:World),us.length=b.length->(∀j,j<l.length->jK F j (us.getD j undef) W)->Below w.heap.size w W->Q .normal ⟨cJ a.tmps (b.zip us),a.defers⟩ W):(Code.region id l.toArray true).wp P Q a w:=
 qW b (jK F) (λ_=>none) (Below w.heap.size w) (λ_ W W'=>Below W.heap.size W W') p g (by simpa using hd) h
  (λ_ W W' e f=>e.trans (f.mono e.size)) (λ_ j v W W' _ q n m=>i.get j v W W' q n m) (Below.refl _ _).drew c
  (λus W e f k=>d us W e (λj o=>f j (by simpa using o) Z) k)
def fJ{n:Nat}{us:List Value}(h:us.length=n+1):∃y l,us=y::l/\l.length=n:=by
 cases us with
 |nil=>simp at h
 |cons y l=>exact⟨y,l,Z,by simpa using h⟩
def Bz{us:List Value}(h:us.length=0):us=[]:=QI h
def OpRuns.of_skip{P:Program}{o:Oper}{T:Nat->Value}{W W':World}{K:Value->World->Prop}(h:(execOp (eX T) o).run P W=.ok .skip W')(a:K undef W'):OpRuns P o T W K:=by
 unfold OpRuns;rw[h];exact a
def qX{P:Program}{id:Nat}{ops:Array Oper}{Q:Exit->Act->World->Prop}{a:Act}{w:World}(d:List (Option Nat))(R:Nat->Value->World->Prop)(cons:Nat->Option Nat)(x:World->Prop)(C:Nat->World->World->Prop)
  (hm:P.follows .mixedOrders=true) (a2:d7 ops=true) (hd:ops.toList.map (·.dst)=d) (u:cc a.tmps.size d=true) (U:∀j,cons j=none)
  (X:∀i W W',x W->C i W W'->x W') (J:∀i j v W W',x W->R j v W->C i W W'->R j v W') (h0:x w.drew)
  (n:Nat) (ol:Oper) (b3:ops.size=n+1) (b1:ops[n]? =some ol) (a9:ol.guard=none) (a4:ol.dst=none) (S:(List.range n).all (λi=>reach ops n n i)=true)
  (K:Steps P ops d a.tmps R cons x C 0 (ops.toList.take n))
  (V:∀(us:List Value) (W:World),us.length=d.length->(∀j,j<n->R j (us.getD j undef) W)->x W->OpRuns P ol (λs=>(cJ a.tmps (d.zip us)).getD s undef) W λ_ W'=>Q .normal ⟨cJ a.tmps (d.zip us),a.defers⟩ W'):(Code.region id ops true).wp P Q a w:=by
 have b4:d.length=ops.size:=by rw[<-hd];simp
 have t:∀j,j<n->reach ops n n j=true:=λj k=>Qt.1 S j (SL.2 k)
 refine fH (λL D W=>L.size=ops.size/\Closed ops L/\((L.getD n false=false/\∃us,D=⟨cJ a.tmps (d.zip us),a.defers⟩/\MonoAt R cons x (ib a.tmps d) L us W)\/(L.getD n false=true/\Q .normal D W))) hm a2 ⟨F,gr ops,.inl ⟨?_,ib a.tmps d,?_,⟨Z,λj k=>absurd k ko,λ_ _=>rfl,h0⟩⟩⟩ ?_ ?_
 ·cases h:(Array.replicate ops.size false).getD n false with
  |false=>rfl
  |true=>exact absurd h ko
 ·rw[jW]
 ·rintro L D W i o h1 h2 E h4 ⟨_,T,q⟩;have hi:i<ops.size:=(QK.1 E).1;have M:L.getD i false=false:=getD_both h2;rcases q with⟨H,us,rfl,q⟩|⟨I,_⟩
  rotate_left
  ·exfalso;by_cases A:i=n
   ·subst A;rw[M]at I;cases I
   have:=T.reach n n i (t i O) I;rw[M]at this;cases this
  have a3:d[i]? =some o.dst:=by
   rw[<-hd,QL];simp only[QO,E,Rf]
  have g:us.length=d.length:=by rw[q.len,eM]
  have N:∀n j,j≠i->reach ops n i j=true->L.getD j false=true:=λn j k B=>by
   have z:=T.step E h4;have:=z.reach n i j B (d8 O);rwa[bU (λe=>k e.symm)]at this
  have Y:∀n j,reach ops n j i=true->L.getD j false=false:=λn j B=>by
   cases hl:L.getD j false with
   |false=>rfl
   |true=>
    have:=T.reach n j i B hl;rw[M]at this;cases this
  by_cases A:i=n
  ·subst A;obtain rfl:o=ol:=QS (E.symm.trans b1);have m:=V us W g (λj k=>q.fact j (N i j O (t j k)) λc l=>by rw[U]at l;cases l) q.wi;have hw:Region.wanted o (yielded ops (cJ a.tmps (d.zip us)))=true:=by
    unfold Region.wanted;rw[a9]
   simp only[wpList];rw[if_pos hw];refine .inl<|Oper.wp_mono ?_ (m.wp (Q:=Exit.then (λD W=>(L.setIfInBounds i true).size=ops.size/\Closed ops (L.setIfInBounds i true)/\(((L.setIfInBounds i true).getD i false=false/\∃us,D=⟨cJ a.tmps (d.zip us),a.defers⟩/\MonoAt R cons x (ib a.tmps d) (L.setIfInBounds i true) us W)\/((L.setIfInBounds i true).getD i false=true/\Q .normal D W))) Q));rintro a1 a0 ⟨v,e,hQ⟩;rw[a4]at e;subst e;exact⟨by simpa using h1,T.step E h4,.inr ⟨d8 O,hQ⟩⟩
  have G:Given ops d a.tmps R cons x i (λs=>(cJ a.tmps (d.zip us)).getD s undef) W:=by
   refine⟨λs f=>gN d us _ s f,λn j s f=>?_,λn j s f=>?_,q.wi⟩
   ·simp only[Qh,bne_iff_ne,beq_iff_eq]at f;obtain⟨⟨⟨k,B⟩,y⟩,f⟩:=f;show R j ((cJ a.tmps (d.zip us)).getD s undef) W
    rw[(dD d us _ j s u g f).1];refine q.fact j (N n j k B) λc l=>?_
    rw[Bx,l]at y;exact Y n c y
   simp only[Qh,beq_iff_eq]at f;obtain⟨B,f⟩:=f;show(cJ a.tmps (d.zip us)).getD s undef=_
   rw[(dD d us _ j s u g f).1,q.old j (Y n j B),lS _ _ _ _ f]
  have hS:=Steps.at (ops.toList.take n) 0 K i o (by rw[QQ,if_pos O];simpa using E);rw[QT]at hS;obtain⟨hg,m⟩:=hS;have m:=m _ W G;have hw:Region.wanted o (yielded ops (cJ a.tmps (d.zip us)))=true:=by
   unfold Region.wanted;cases a5:o.guard with
   |none=>rfl
   |some p=>
    obtain⟨j,b⟩:=p;rw[a5]at hg;obtain⟨n,s,f,hR⟩:=hg;simp only[Qh,bne_iff_ne,beq_iff_eq]at f;obtain⟨⟨⟨k,B⟩,y⟩,f⟩:=f;have hv:=hR _ _ (q.fact j (N n j k B) λc l=>by rw[y]at l;cases l);rw[<-(dD d us _ j s u g f).1]at hv;have b0:=(dD d us a.tmps j s u g f).2;have b2:(ops[j]?).bind (·.dst)=some s:=by
     rw[<-hd,QL,QO]at f;cases ho:ops[j]? with
     |none=>simp[ho]at f
     |some oj=>simpa[ho]using f
    have:(cJ a.tmps (d.zip us))[s]? =some (.bool b):=by
     have hz:s<(cJ a.tmps (d.zip us)).size:=by rw[gM];exact b0
     simp only[QG,QR hz,Q2]at hv;rw[QR hz,hv]
    simp only[yielded,b2,QY,this];cases b<;>rfl
  simp only[wpList];rw[if_pos hw];refine .inl<|Oper.wp_mono ?_ m.wp;rintro a1 a0 ⟨v,e,hR,hE⟩;refine⟨by simpa using h1,T.step E h4,.inl ⟨by rw[bU A];exact H,us.set i v,?_,⟨by simpa using q.len,λj k l=>?_,λj k=>?_,X _ _ _ q.wi hE⟩⟩⟩
  ·rw[e];exact jX d us _ _ i _ v u g a3
  ·by_cases r:i=j
   ·subst r;have:(us.set i v).getD i undef=v:=by simp[List.getD,show i<us.length by omega]
    rw[this];exact hR
   rw[bU r]at k;have:(us.set i v).getD j undef=us.getD j undef:=by simp[List.getD,r]
   rw[this];exact J i j _ _ _ q.wi (q.fact j k λc z=>by rw[U]at z;cases z) hE
  by_cases r:i=j
  ·subst r;rw[d8 O]at k;cases k
  rw[bU r]at k;have:(us.set i v).getD j undef=us.getD j undef:=by simp[List.getD,r]
  rw[this];exact q.old j k
 rintro L D W h1 ⟨_,_,q⟩;rcases q with⟨H,_⟩|⟨_,hQ⟩
 ·have:=h1 n O;rw[H]at this;cases this
 exact hQ
