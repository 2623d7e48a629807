import Derived.Test.YtfoejfohbkmmeaaGreatDoorK00
import Derived.Lib.AtoiErrMem
import Derived.Test.YtfoejfohbkmmeaaGreatDoorCards
import Derived.Test.YtfoejfohbkmmeaaGreatDoorTie
import Derived.ProofKit
import Derived.OpenShut
import Derived.Deep.DeepHandedRow
import Derived.Stop.LaidErr
import Derived.Lay
import Derived.SevenTiedAt
import Derived.Maps.AppendAt
import Derived.Lib.AppendStr
import Derived.OwnWalk
import Derived.Deep.Slices
import Derived.Orders
import Derived.StillTail
import Derived.Tactics
set_option maxRecDepth 100000
set_option linter.defProp false
open Go.Proofs.Tryz
namespace Go.Proofs.YtfoejfohbkmmeaaGreatDoor
open Go.RowKit
def Dp(w:World)(k:Nat)(b:Array Obj):Below w.heap.size w (Go.Sort.grow (w.drewN k) b):=
 ⟨Z,Z,Z,by simp[Go.Sort.grow],λi a=>by simp[Go.Sort.grow,World.drewN,Tc a]⟩
def xu(n:Int)(w:World)(a: -9223372036854775808<=n)(b:n<=9223372036854775807)(c:Env w):
  Calls prog 105 #[.int .i64 n,.int .i64 10] w λe w'=>e=.returned (.string ⟨(Lib.itoa n).toArray⟩)/\Below w.heap.size w w':=
 (Tryz.strconv_FormatInt_10 n a b w c.pow10).mono λe w' ⟨d,k,g,f⟩=>⟨d,by subst f;exact Dp w k g⟩
def s6(s:ByteArray)(v:Int)(w:World)(c:s.size<=281474976710656)(h:Lib.parseIntB 64 s.data.toList=.ok v):
  Calls prog 142 #[.string s,.int .i64 10,.int .i64 64] w λe w'=>e=.returned (.tuple #[.int .i64 v,.nilIface])/\Below w.heap.size w w':=
 (Tryz.strconv_ParseInt_10_at64_ok s O v h w).mono λe w' ⟨a,b⟩=>⟨a,by
  rcases b with rfl|⟨t,rfl⟩
  ·exact Below.refl _ _
  exact Lib.bytesWorld_below _ _ _⟩
def L4(w:World)(e:Ending)(w':World):Prop:=∃(v:Int) (N:Nat),e=.returned (.tuple #[.int .i64 v,.iface 233 (.pointer (some ⟨N,0,none⟩))])/\Below w.heap.size w w'
def zy(s:ByteArray)(w:World)(g:s.size<=281474976710656)(h:∀v,Lib.parseIntB 64 s.data.toList≠ .ok v)(f:Env w):
  Calls prog 142 #[.string s,.int .i64 10,.int .i64 64] w (L4 w):=by
 obtain⟨tp,p,i⟩:=f.errSyntax;obtain⟨d,k,j⟩:=f.errRange;cases c:Lib.parseIntB 64 s.data.toList with
 |ok v=>exact absurd c (h v)
 |_=>
  first
   |exact(Tryz.strconv_ParseInt_10_at64_range_var s g c d k w j).mono λe w' ⟨N,b,_,_,a⟩=>⟨_,N,b,a⟩
   |exact(Any.strconv_ParseInt_10_at64_syntax_var laysC174 s g c tp p w i).mono λe w' ⟨N,b,_,_,a⟩=>⟨_,N,b,a⟩
def fO(s p:ByteArray)(w:World):
  Calls prog 77 #[.string s,.string p] w λe w'=>e=.returned (.bool (Lib.hasPrefix s.data.toList p.data.toList))/\w=w':=
 (Tryz.strings_HasPrefix s p w).mono λ_ _ ⟨a,b⟩=>⟨a,b.symm⟩
def i7(s old new:ByteArray)(w:World)(g:s.size<=4294967280)(a:1<=old.size)(b:new.size<=2)(c:Env w):
  Calls prog 106 #[.string s,.string old,.string new] w λe w'=>e=.returned (.string ⟨(Lib.replaceAll s.data.toList old.data.toList new.data.toList).toArray⟩)/\Below w.heap.size w w':=by
 obtain⟨m,f⟩:=c.maxLen;have d:=Lib.countB_le old a s.size s (Q3 _);exact Tryz.strings_ReplaceAll s old new m w O f a (by
  have:Lib.countB s old*new.size<=s.size*2:=Tq d b;omega)
end Go.Proofs.YtfoejfohbkmmeaaGreatDoor
namespace Go.Proofs.YtfoejfohbkmmeaaGreatDoor
open Go.ChangeShapes Go.WideShapes Go.ChangeAt Go.RowKit
def own:ownKnob prog.godebug=none:=U
def L5:laidOutB prog=true:=U
abbrev xL:List (String×DataW Unit):=Rows.rowioLinesRow.laid
def Dq:(prog.globals[1]?).map (·.type)=some 241:=U
def uu:(prog.globals[4]?).map (·.type)=some 163:=U
def xv:(prog.globals[5]?).map (·.type)=some 163:=U
def Dr:prog.cellsOf 241=20:=U
def IZ:prog.cellsOf 89=1:=U
def I2{n:String}{g:Nat}{l:String}{d:DataW Unit}{r:List (String×DataW Unit)}{W:World}(h:laidMet prog ((n,.iface l d)::r) W)(j:prog.globalNamed n=some g)
  (k:(prog.globals[g]?).map (·.type)=some 163):∃tp p,W.var? prog n=some #[.iface tp p]:=by
 obtain⟨ps,⟨m,o,cs,f,p,q,b,c,a,i,_,_⟩,_⟩:=h;obtain rfl:=Sw (j.symm.trans b);obtain rfl:=Sw (k.symm.trans c);obtain⟨_,u,v,e,_⟩:=iface_of_trod underlying163 i;exact⟨u,v,by rw[a];congr 1;exact Array.toList_inj.1 e⟩
def N8{W:World}(a:laidMetH prog xL W)(b:W.ShapedOpen prog):Env W:=by
 have a:laidMet prog xL W:=by rwa[MakeChecks.laidMetH_plain _ _ _ U]at a
 have c:=a.tail.tail;have d:=c.tail.tail;refine⟨laysM155.s1_3 W b,Lib.tabIs_of_head Dm Dq underlying241 underlying89 IZ Dr c,I2 d.tail pP uu,I2 d se xv⟩
def I3(a:Os)(args:Array Value):laidMet prog xL ((World.laidAll prog a xL).forCall (λ_ _=>0) ⟨#[],args,[]⟩).memory:=
 laidMet_laidAll _ U U
section
variable {H:Type} {enc:TypeId×Value->H}
def xw{P:Program}(k:laidOutB P=true){W W':World}(j:Below W.heap.size W W')(ts:List TypeId):∀(vs:List Value) (c:List (DataW H)) (p:List MemPlace),(ts.all λt=>P.readableRec t&&decide (t<P.types.size))=true->
  DataW.TrodAll enc P W 0 (λ_=>true) true ts vs c p->(∀x∈p,x.block<W.heap.size)->DataW.TrodAll enc P W' 0 (λb=>decide (b<W.heap.size)) true ts vs c p:=by
 induction ts with
 |nil=>
  intro vs c p _ h _;obtain⟨rfl,rfl,rfl⟩:=trodAll_nil h;exact trodAll_mk0
 |cons t ts ih=>
  intro vs c p e h a;obtain⟨v,m,d,g,n,o,rfl,rfl,rfl,i,l⟩:=trodAll_cons h;simp only[SJ,Q9,decide_eq_true_eq]at e;exact trodAll_cons_mk (Below.trod k e.1.1 e.1.2 i j λx f=>a x (TQ _ f)) (ih _ _ _ (by simpa using e.2) l λx f=>a x (Vh _ f))
def I4{f:Func}{s:ChangeSpec}{W W':World}{args:Array Value}{b d:List (DataW H)}{a:List MemPlace}
  (e:DataW.Whole enc prog f.params.toList s.vars false W args.toList b d a) (n:s.vars=[]) (c:f.resultTypes=#[4]) (j:(f.params.toList.all λt=>prog.readableRec t&&decide (t<prog.types.size))=true)
  (o:(s.fn H (b++d)).results=[.lit (.bool true)]) (r:(s.fn H (b++d)).args=b) (u:(s.fn H (b++d)).vars=[]) (m:Below W.heap.size W W'):
  s.post enc prog f false true false false W args (.bool true) W':=by
 have i:=λx k=>e.lt x k
 have g:=e;obtain⟨p,q,v,l,rfl,_,_⟩:=e;rw[n]at l;obtain⟨rfl,rfl⟩:=trodVars_none l;refine⟨b,[],p++[],[],p,[],g,?_,?_,?_,m.frame _,λh=>by cases h⟩
 ·rw[o,c];exact trodAll_mk1 (shut_bool underlying4 _)
 ·rw[r];exact xw L5 m _ _ _ _ j v λx k=>i x (by simpa using k)
 rw[u,n];rfl
def Ds{C:Checked}{l:Os}{f:FuncId}{k:Func}{s:OpenSpec}{c:List PathCond}{b:Bool}{d:List (String×DataW Unit)}(w0:World)(args:Array Value)(h:w0.os=l)
  (j:(w0.forCall (λ_ _=>0) ⟨#[],args,[]⟩).Shaped C.prog) (e:Input.okWideB C.prog (w0.forCall (λ_ _=>0) ⟨#[],args,[]⟩) f ⟨#[],args,[]⟩=true)
  (g:s.preRow enc C.prog k c b d (w0.forCall (λ_ _=>0) ⟨#[],args,[]⟩).memory args):
  ∃(w:World) (a:Tape) (i:Input),w.os=l/\(w.forCall a i).Shaped C.prog/\i.vars=[]/\Input.okWide C.prog (w.forCall a i) .any w.heap.size f i/\
   s.preRow enc C.prog k c b d (w.forCall a i).memory i.args/\({}:Assume).holds C.prog (lone (Frame.enter C.prog f i.args .normal) [] (w.forCall a i)):=
 ⟨w0,λ_ _=>0,⟨#[],args,[]⟩,h,j,(Input.okWide_of_okWideB (base:=0) e).1,(Input.okWide_of_okWideB e).2,g,by
  simp only[Assume.holds];exact⟨F,F,λ_=>Modest.zero,F,F⟩⟩
end
end Go.Proofs.YtfoejfohbkmmeaaGreatDoor
namespace Go.Proofs.YtfoejfohbkmmeaaGreatDoor
open Go.ChangeShapes Go.WideShapes Go.ChangeAt Go.RowKit Go.Joins
end Go.Proofs.YtfoejfohbkmmeaaGreatDoor
namespace Go.Proofs.YtfoejfohbkmmeaaGreatDoor
open Go.RowKit
def Dt(w:World)(t:TypeId)(cs:Array Value):
  ∃W,w.alloc (.cells cs t)=W/\Below w.heap.size w W/\IsBlk W w.heap.size t cs/\W.heap.size=w.heap.size+1:=
 ⟨_,Z,(Below.refl _ _).alloc (Q3 _) _,iF _ _ _,F⟩
def AU(w:World)(t u:TypeId)(cs a:Array Value):
  ∃W,(w.alloc (.cells cs t)).alloc (.cells a u)=W/\Below w.heap.size w W/\IsBlk W w.heap.size t cs/\IsBlk W (w.heap.size+1) u a/\W.heap.size=w.heap.size+2:=by
 refine⟨_,Z,((Below.refl _ _).alloc (Q3 _) _).alloc F _,(iF _ _ _).alloc _,?_,F⟩;have:=iF (w.alloc (.cells cs t)) u a;simpa using this
def aL{B:Nat}{w W W':World}(h:Below B w W)(a:Below W.heap.size W W')(b:B<=W.heap.size):Below B w W':=h.trans (a.mono b)
def At(w:World)(B:Nat)(A:Option Addr)(xs:List Value):Prop:=
 0<xs.length->∃b off,A=some ⟨b,off,none⟩/\b<B/\∀(j:Nat) u,xs[j]? =some u->w.cell? ⟨b,off+j,none⟩=some u
def At.keep{w w':World}{B:Nat}{A:Option Addr}{xs:List Value}(h:At w B A xs)(a:∀p:Addr,p.block<B->w'.cell? p=w.cell? p):At w' B A xs:=by grind [At]
def At.below{w w':World}{B:Nat}{A:Option Addr}{xs:List Value}(h:At w B A xs)(a:Below B w w'):At w' B A xs:=h.keep λ_ b=>a.cell b
def At.more{w:World}{B a:Nat}{A:Option Addr}{xs:List Value}(h:At w B A xs)(b:B<=a):At w a A xs:=by grind [At]
def At.nil(w:World)(B:Nat)(A:Option Addr):At w B A []:=λh=>absurd h F
def Gw{w:World}{base:Nat}{e:TypeId}{size n c:Nat}{A:Option Addr}{xs:List Value}(h:w.ownsRow base e size (.slice A n c) n xs):At w w.heap.size A xs:=λk=>by
 rcases h.2 with⟨a,i⟩|⟨g,b,cur,a,_,f,_⟩
 ·have:=h.1;rw[i]at this;simp at this;subst this;simp at k
 injection a with d
 subst d;refine⟨g,0,Z,(RQ.1 f).1,λj u l=>?_⟩;have:=h.cells (g:=g) Z j u l;rwa[show(⟨g,0,none⟩:Addr).add j=⟨g,0+j,none⟩from by unfold Addr.add;split<;>simp_all]at this
structure V where
 t:Int
 n:Int
 s:ByteArray
def V.cells(v:V):List Value:=[.int .i64 v.t,.int .i64 v.n,.string v.s]
def ep(l:List V):List Value:=l.flatMap V.cells
def jL:∀l:List V,(ep l).length=3*l.length
 |[]=>rfl
 |v::l=>by
  have:=jL l;simp only[ep,SI,Q4,Q5,V.cells,Ra]at this⊢;omega
def xM:∀(l:List V) (i:Nat) (v:V),l[i]? =some v->(ep l)[3*i]? =some (.int .i64 v.t)/\(ep l)[3*i+1]? =some (.int .i64 v.n)/\(ep l)[3*i+2]? =some (.string v.s)
 |[],i,v,h=>by simp at h
 |u::l,0,v,h=>by simp at h;subst h;simp[ep,V.cells]
 |u::l,i+1,v,h=>by
  have a:=xM l i v (by simpa using h);have e:∀j,(ep (u::l))[j+3]? =(ep l)[j]? :=λj=>by simp[ep,V.cells]
  refine⟨?_,?_,?_⟩
  ·rw[show 3*(i+1)=3*i+3 by omega,e];exact a.1
  ·rw[show 3*(i+1)+1=3*i+1+3 by omega,e];exact a.2.1
  rw[show 3*(i+1)+2=3*i+2+3 by omega,e];exact a.2.2
def xx(a b:List V):ep (a++b)=ep a++ep b:=by simp[ep]
def At.val{w:World}{B:Nat}{A:Option Addr}{l:List V}{i:Nat}(h:At w B A (ep l))(j:i<l.length):
  ∃b off,A=some ⟨b,off,none⟩/\b<B/\w.cell? ⟨b,off+i*3,none⟩=some (.int .i64 l[i].t)/\w.cell? ⟨b,off+i*3+1,none⟩=some (.int .i64 l[i].n)/\w.cell? ⟨b,off+i*3+2,none⟩=some (.string l[i].s):=by
 obtain⟨b,off,e,g,a⟩:=h (by rw[jL];omega);obtain⟨c,d,f⟩:=xM l i l[i] (Q2 j);refine⟨b,off,e,g,?_,?_,?_⟩
 ·rw[Rk];exact a _ _ c
 ·rw[Rk];exact a _ _ d
 rw[Rk];exact a _ _ f
def bZ(l:List UInt8):List Value:=l.map λc=>.int .u8 c.toNat
def eR(l:List UInt8):(bZ l).length=l.length:=by simp[bZ]
def pA(a b:List UInt8):bZ (a++b)=bZ a++bZ b:=by simp[bZ]
end Go.Proofs.YtfoejfohbkmmeaaGreatDoor
namespace Go.Proofs.YtfoejfohbkmmeaaGreatDoor
open Go.ChangeShapes Go.WideShapes Go.ChangeAt Go.RowKit Go.Joins Go.Deep
open Lib renaming hid→J
section
variable {H:Type} {enc:TypeId×Value->H} {W:World} {b0 base:Nat} {spare:Nat->Bool} {held:Bool}
instance:Inhabited V:=⟨⟨0,0,⟨#[]⟩⟩⟩
def xN{n:Nat}(h:n<=maxLen):n<=9223372036854775807:=by unfold maxLen at h;omega
def L6{x:Int}(h:(Lit.int .u8 x).wf=true):0<=x/\x<=255:=by simpa[Lit.wf,IntKind.min,IntKind.max,IntKind.signed,IntKind.bits]using h
def xO:prog.cellsOf 5=1:=U
end
def Gx:prog.cellsOf 3=1:=U
def mN(l:List Int):List Value:=l.map λx=>.int .i64 x
def Du{H:Type}{enc:TypeId×Value->H}{W:World}{C base:Nat}{i:Nat->Bool}{k:Bool}{v:Value}{d:DataW H}{p:List MemPlace}
  (M:Value.okWide prog W .any C 23 v) (h:DataW.Trod enc prog W base i k 23 v d p):
  ∃(A:Option Addr) (l:List Int) (c:Nat),v=.slice A l.length c/\At W W.heap.size A (mN l)/\l.length<=c/\c<=9223372036854775807/\(A=none->c=0):=by
 obtain⟨Q,len,n,rfl⟩:=okWide_slice underlying23 M;obtain⟨t,E⟩:=h;rcases open_ints underlying23 underlying3 Gx E with⟨g,_⟩|⟨a,B,r,m,g,_,I,K,P,_,f,N⟩
 ·simp[Value.cells]at g;obtain⟨rfl,rfl,rfl⟩:=g;exact⟨none,[],0,Z,At.nil _ _ _,F,F,λ_=>rfl⟩
 simp[Value.cells]at g;obtain⟨rfl,rfl,rfl⟩:=g;have J:len<=m.length:=by rw[P];split<;>omega
 have e:(m.take len).length=len:=by simp;omega
 have s:(mN (m.take len)).length=len:=by unfold mN;rw[Rn,e]
 refine⟨some a,m.take len,n,by rw[e],λL=>?_,by rw[e];exact I,xN K,λe=>by cases e⟩;rw[s]at L;have w:=f 0 O;have y:a.spot=none:=by
  have:=World.cell?_spot w;simpa[Addr.add]using this
 refine⟨a.block,a.off,by cases a;simp_all,?_,λj u z=>?_⟩
 ·have:=World.block_lt_of_cell? _ _ w;simpa[block_add]using this
 have G:j<len:=by
  have:=(Q6.1 z).1;rwa[s]at this
 have x:=f j O;have D:a.add j=⟨a.block,a.off+j,none⟩:=by
  obtain⟨b,o,R⟩:=a;simp only at y;subst y;exact add_plain b o j
 rw[D]at x;rw[x,<-z];have q:j<m.length:=O
 simp only[mN,RK,R7,G,if_true,Q2 q,Sr,List.getD,RH]
end Go.Proofs.YtfoejfohbkmmeaaGreatDoor
namespace Go.Proofs.YtfoejfohbkmmeaaGreatDoor
open Lib renaming hid→J
def zz(listed:Array Bool)(o:Oper):Prop:=∀e∈o.after,Region.binds .any e=true->listed.getD e.on false=true
def L7{P:Program}{o:Oper}{a:Act}{w:World}{K:Act->World->Prop}{Q:Exit->Act->World->Prop}(h:o.wp P a w K (Exit.then K Q)):o.wp P a w K Q:=by
 unfold Oper.wp at*;generalize (execOp a.eval o).run P w=r at*;cases r with
 |ok n w'=>
  cases n<;>simp only[Oper.upon]at h⊢<;>
   first
    |exact h
    |exact Calls.mono h (λe c b=>by cases e<;>exact b)
 |halt x w'=>cases x<;>simp only[Oper.upon]at h⊢<;>exact h
def zA{P:Program}{ops:Array Oper}{i:Nat}{o:Oper}{a:Act}{w:World}{K:Act->World->Prop}{Q:Exit->Act->World->Prop}(b:ops[i]? =some o)
  (h:wpList P ops (Exit.then K Q) [o] a w):wpOp P ops Q i K a w:=by
 unfold wpOp;simp only[b];simp only[wpList]at h;split
 ·rename_i hw;rw[if_pos hw]at h;rcases h with h|h
  ·exact .inl (L7 h)
  exact .inr h
 rename_i hw;rw[if_neg hw]at h;exact h
def n3(listed:Array Bool):Nat:=listed.toList.count false
def qk{a:Array Bool}{i:Nat}(h:a.getD i true=false):n3 (a.setIfInBounds i true)+1=n3 a:=by
 have e:i<a.size:=by
  rcases RE i a.size with d|d
  ·exact d
  simp[Ux d]at h
 have c:a.toList[i]? =some false:=by
  simp[e]at h⊢;exact h
 unfold n3;rw[S3];obtain⟨l⟩:=a;simp only at c⊢;clear h e;induction l generalizing i with
 |nil=>simp at c
 |cons b l ih=>
  cases i with
  |zero=>simp at c;subst c;simp
  |succ i=>
   have:=ih (i:=i) (by simpa using c);cases b<;>simp[T2]<;>omega
def fY(ops:Array Oper):Bool:=(List.range ops.size).all λi=>((ops[i]?).map λo=>o.after.all λe=> !Region.binds .any e||decide (e.on<i)).getD true
def uv{ops:Array Oper}{a:Array Bool}(d:fY ops=true)(g:a.size=ops.size)(l:Region.ready .any ops a=[]):∀(k i:Nat),i<=k->i<ops.size->a.getD i false=true:=by
 intro k;induction k with
 |zero=>
  intro i m b;obtain rfl:i=0:=O
  cases c:a.getD 0 true with
  |true=>simp[g,b]at c⊢;exact c
  |false=>
   have f:(0:Nat)∈Region.ready .any ops a:=mem_ready.2 ⟨c,ops[0],RN b,λe j h=>by
    have:=Rl.1 d 0 (Tr.2 b);rw[RN b]at this;simp only[Sr,RH,UB,Sm,decide_eq_true_eq]at this;have:=(this e j).resolve_left (by rw[h];decide);omega⟩
   rw[l]at f;cases f
 |succ k ih=>
  intro i m b;cases c:a.getD i true with
  |true=>simp[g,b]at c⊢;exact c
  |false=>
   have f:i∈Region.ready .any ops a:=mem_ready.2 ⟨c,ops[i],RN b,λe j h=>by
    have:=Rl.1 d i (Tr.2 b);rw[RN b]at this;simp only[Sr,RH,UB,Sm,decide_eq_true_eq]at this;have:=(this e j).resolve_left (by rw[h];decide);exact ih e.on O O⟩
   rw[l]at f;cases f
def Gy{P:Program}{ops:Array Oper}{Q:Exit->Act->World->Prop}(I:Array Bool->Act->World->Prop)(h:fY ops=true)
  (f:∀(b:Array Bool) (a:Act) (w:World) (i:Nat) (o:Oper),b.size=ops.size->b.getD i true=false->ops[i]? =some o->zz b o->I b a w->wpList P ops (Exit.then (I (b.setIfInBounds i true)) Q) [o] a w)
  (e:∀(b:Array Bool) (a:Act) (w:World),(∀i,i<ops.size->b.getD i false=true)->I b a w->Q .normal a w):
  ∀(c:Nat) (b:Array Bool) (a:Act) (w:World),b.size=ops.size->n3 b<=c->I b a w->wpAny P .any ops Q c b a w:=by
 intro c;induction c with
 |zero=>
  intro b a w d t n;have g:Region.ready .any ops b=[]:=by
   cases g:Region.ready .any ops b with
   |nil=>rfl
   |cons i l=>
    have u:=(mem_ready.1 (show i∈Region.ready .any ops b by rw[g];exact Rw ..)).1;have:=qk u;omega
  exact⟨g,e b a w (λi k=>uv h d g i i (Q3 _) k) n⟩
 |succ c ih=>
  intro b a w d t n;refine⟨λg=>e b a w (λi k=>uv h d g i i (Q3 _) k) n,λi k=>?_⟩;obtain⟨m,o,p,j⟩:=mem_ready.1 k;have s:=zA p (f b a w i o d m p j n);refine wpOp_mono (λq w' r=>ih _ q w' (by simpa using d) ?_ r) s;have:=qk m;omega
def iy{P:Program}{id:Nat}{ops:Array Oper}{Q:Exit->Act->World->Prop}{a:Act}{w:World}(I:Array Bool->Act->World->Prop)(g:P.follows .mixedOrders=true)(e:fY ops=true)
  (f:I (Array.replicate ops.size false) a w.drew)
  (c:∀(b:Array Bool) (a:Act) (w:World) (i:Nat) (o:Oper),b.size=ops.size->b.getD i true=false->ops[i]? =some o->zz b o->I b a w->wpList P ops (Exit.then (I (b.setIfInBounds i true)) Q) [o] a w)
  (d:∀(b:Array Bool) (a:Act) (w:World),(∀i,i<ops.size->b.getD i false=true)->I b a w->Q .normal a w):(Code.region id ops true).wp P Q a w:=
 wp_region_any g (Gy I e c d ops.size _ a _ F0 (by unfold n3;simp) f)
def I5(t:Array Value)(i:Nat)(d:Value):t.setIfInBounds i (t.getD i d)=t:=by
 rcases RE i t.size with h|h
 ·apply TR;rw[S3];apply TN;intro j;rw[Ua];split
  ·rename_i e;subst e;simp[h]
  rfl
 simp[Array.setIfInBounds,Nat.not_lt.2 h]
def fI{L:Array Bool}{i:Nat}(h:i<L.size):(L.setIfInBounds i true).getD i false=true:=by simp[h]
def dB{L:Array Bool}{i j:Nat}(h:i≠j):(L.setIfInBounds i true).getD j false=L.getD j false:=getD_set_ne false h
def mO{n j:Nat}:¬(Array.replicate n false).getD j false=true:=by
 rcases RE j n with h|h<;>simp[h]
def Closed(ops:Array Oper)(L:Array Bool):Prop:=∀(j:Nat) (o:Oper),ops[j]? =some o->L.getD j false=true->zz L o
def i8(ops:Array Oper):Closed ops (Array.replicate ops.size false):=λ_ _ _ h=>absurd h mO
def Closed.step{ops:Array Oper}{L:Array Bool}{i:Nat}{o:Oper}(h:Closed ops L)(k:ops[i]? =some o)(l:zz L o):Closed ops (L.setIfInBounds i true):=by
 intro j g d f;by_cases a:i=j
 ·subst a;obtain rfl:o=g:=Sw (k.symm.trans d);exact λe c b=>getD_set_true (l e c b)
 rw[dB a]at f;exact λe c b=>getD_set_true (h j g d f e c b)
def dl(t:Array Value):List (Option Nat×Value)->Array Value
 |[]=>t
 |(some s,v)::l=>dl (t.setIfInBounds s v) l
 |(none,_)::l=>dl t l
def cD(n:Nat):List (Option Nat)->Bool
 |[]=>true
 |none::l=>cD n l
 |some s::l=> !l.contains (some s)&&decide (s<n)&&cD n l
def ja(t:Array Value):List (Option Nat)->List Value
 |[]=>[]
 |some s::l=>t.getD s undef::ja t l
 |none::l=>undef::ja t l
def fc(t:Array Value):∀l,(ja t l).length=l.length
 |[]=>rfl
 |some _::l=>by simp[ja,fc t l]
 |none::l=>by simp[ja,fc t l]
def lY(t:Array Value):∀(l:List (Option Nat)) (j s:Nat),l[j]? =some (some s)->(ja t l).getD j undef=t.getD s undef
 |[],j,s,h=>by simp at h
 |x::l,0,s,h=>by
  simp at h;subst h;rfl
 |x::l,j+1,s,h=>by
  have:=lY t l j s (by simpa using h);cases x<;>simpa[ja]using this
def kr(t:Array Value):∀l:List (Option Nat),dl t (l.zip (ja t l))=t
 |[]=>rfl
 |some s::l=>by simp only[ja,SM,dl,I5];exact kr t l
 |none::l=>by simp only[ja,SM,dl];exact kr t l
def ii:∀(l:List (Option Nat×Value)) (t:Array Value),(dl t l).size=t.size
 |[],_=>rfl
 |(some s,v)::l,t=>by simp only[dl,ii l];simp
 |(none,_)::l,t=>by simp only[dl,ii l]
def set_comm(t:Array Value)(i j:Nat)(u v:Value)(h:i≠j):(t.setIfInBounds i u).setIfInBounds j v=(t.setIfInBounds j v).setIfInBounds i u:=by
 apply TR;simp only[S3];exact List.set_comm _ _ h
def set_set(t:Array Value)(i:Nat)(u v:Value):(t.setIfInBounds i u).setIfInBounds i v=t.setIfInBounds i v:=by
 apply TR;simp
def uw:∀(a:List (Option Nat)) (us:List Value) (t:Array Value) (s:Nat) (v:Value),a.contains (some s)=false->(dl t (a.zip us)).setIfInBounds s v=dl (t.setIfInBounds s v) (a.zip us)
 |[],_,_,_,_,_=>by simp[dl]
 |_::_,[],_,_,_,_=>by simp[dl]
 |none::a,u::us,t,s,v,h=>by
  simp only[SM,dl];exact uw a us t s v (by simpa using h)
 |some d::a,u::us,t,s,v,h=>by
  simp only[SM,dl];simp only[T3,Rp]at h;have b:d≠s:=by
   have:=h.1;intro e;subst e;simp at this
  rw[uw a us _ s v h.2,set_comm _ _ _ _ _ b]
def fZ:∀(a:List (Option Nat)) (us:List Value) (t:Array Value) (s:Nat),a.contains (some s)=false->(dl t (a.zip us)).getD s undef=t.getD s undef
 |[],_,_,_,_=>by simp[dl]
 |_::_,[],_,_,_=>by simp[dl]
 |none::a,u::us,t,s,h=>by
  simp only[SM,dl];exact fZ a us t s (by simpa using h)
 |some d::a,u::us,t,s,h=>by
  simp only[SM,dl];simp only[T3,Rp]at h;have b:d≠s:=by
   have:=h.1;intro e;subst e;simp at this
  rw[fZ a us _ s h.2];simp[b]
def dM:∀(a:List (Option Nat)) (us:List Value) (t:Array Value) (j s:Nat),cD t.size a=true->us.length=a.length->a[j]? =some (some s)->(dl t (a.zip us)).getD s undef=us.getD j undef/\s<t.size
 |[],_,_,j,s,_,_,h=>by simp at h
 |x::a,[],t,j,s,ha,hl,h=>by simp at hl
 |x::a,u::us,t,0,s,ha,hl,h=>by
  simp only[RY,Ro]at h;subst h;simp only[cD,Q9,Sk,decide_eq_true_eq]at ha;simp only[SM,dl];rw[fZ _ _ _ _ ha.1.1];exact⟨by simp[ha.1.2],ha.1.2⟩
 |x::a,u::us,t,j+1,s,ha,hl,h=>by
  have b:a[j]? =some (some s):=by simpa using h
  cases x with
  |none=>
   have:=dM a us t j s ha (by simpa using hl) b;simpa[dl]using this
  |some d=>
   simp only[cD,Q9]at ha;have:=dM a us (t.setIfInBounds d u) j s (by simpa using ha.2) (by simpa using hl) b;simpa[dl]using this
def kE:∀(a:List (Option Nat)) (us:List Value) (t:Array Value) (d:List Deferred) (i:Nat) (o:Option Nat) (v:Value),cD t.size a=true->us.length=a.length->a[i]? =some o->
  (⟨dl t (a.zip us),d⟩:Act).put o v=⟨dl t (a.zip (us.set i v)),d⟩
 |[],_,_,_,i,o,v,_,_,h=>by simp at h
 |x::a,[],t,d,i,o,v,ha,hl,h=>by simp at hl
 |x::a,u::us,t,d,0,o,v,ha,hl,h=>by
  simp only[RY,Ro]at h;subst h;cases x with
  |none=>rfl
  |some s=>
   simp only[cD,Q9,Sk]at ha;simp only[SM,dl,Tb,Act.put];rw[uw _ _ _ _ _ ha.1.1,set_set]
 |x::a,u::us,t,d,i+1,o,v,ha,hl,h=>by
  have b:a[i]? =some o:=by simpa using h
  cases x with
  |none=>
   simp only[SM,dl,T2];exact kE a us t d i o v ha (by simpa using hl) b
  |some s=>
   simp only[cD,Q9]at ha;simp only[SM,dl,T2];exact kE a us _ d i o v (by simpa using ha.2) (by simpa using hl) b
def dG(T:Nat->Value):Operand->Value
 | .tmp s=>T s
 | .const v=>v
 | .global g=>.pointer (some ⟨g,0,none⟩)
 | .func f=>.func (.func f) #[] #[]
def zB(a:Act):a.eval=dG λs=>a.tmps.getD s undef:=by
 funext x;cases x<;>rfl
def OpRuns(P:Program)(o:Oper)(T:Nat->Value)(W:World)(K:Value->World->Prop):Prop:=
 match (execOp (dG T) o).run P W with
 | .ok (.value v) W'=>K v W'
 | .ok .skip W'=>K undef W'
 | .ok (.enter f args) W'=>Calls P f args W' λe W''=>∃v,e=.returned v/\K v W''
 |_=>False
def aE{P:Program}{o:Oper}{T:Nat->Value}{W W':World}{K:Value->World->Prop}{v:Value}(h:(execOp (dG T) o).run P W=.ok (.value v) W')(a:K v W'):OpRuns P o T W K:=by
 unfold OpRuns;rw[h];exact a
def cW{P:Program}{o:Oper}{T:Nat->Value}{W:World}{K:Value->World->Prop}{f:FuncId}{args:Array Value}(h:(execOp (dG T) o).run P W=.ok (.enter f args) W)(b:Calls P f args W λe a=>∃v,e=.returned v/\K v a):OpRuns P o T W K:=by
 unfold OpRuns;rw[h];exact b
def OpRuns.wp{P:Program}{o:Oper}{a:Act}{W:World}{K:Value->World->Prop}{Q:Exit->Act->World->Prop}(h:OpRuns P o (λs=>a.tmps.getD s undef) W K):o.wp P a W (λb W'=>∃v,b=a.put o.dst v/\K v W') Q:=by
 unfold OpRuns at h;unfold Oper.wp;rw[zB];generalize (execOp (dG λs=>a.tmps.getD s undef) o).run P W=r at h;cases r with
 |ok n w'=>
  cases n<;>simp only[Oper.upon]at h⊢<;>
   first
    |exact⟨_,Z,h⟩
    |exact Calls.mono h (λe f ⟨v,c,d⟩=>by subst c;exact⟨v,Z,d⟩)
    |exact h.elim
 |halt x w'=>cases x<;>exact h.elim
def reach(ops:Array Oper):Nat->Nat->Nat->Bool
 |0,j,i=>j==i
 |n+1,j,i=>j==i||((ops[j]?).map λo=>o.after.any λe=>Region.binds .any e&&reach ops n e.on i).getD false
def Closed.reach{ops:Array Oper}{L:Array Bool}(h:Closed ops L):∀(n j i:Nat),reach ops n j i=true->L.getD j false=true->L.getD i false=true
 |0,j,i,a,hl=>by
  simp only[Go.Proofs.YtfoejfohbkmmeaaGreatDoor.reach,beq_iff_eq]at a;subst a;exact hl
 |n+1,j,i,a,hl=>by
  simp only[Go.Proofs.YtfoejfohbkmmeaaGreatDoor.reach,Sm,beq_iff_eq]at a;rcases a with rfl|a
  ·exact hl
  cases c:ops[j]? with
  |none=>simp[c]at a
  |some o=>
   simp only[c,Sr,RH]at a;obtain⟨e,d,b⟩:=Array.any_eq_true'.1 a;simp only[Q9]at b;exact Closed.reach h n e.on i b.2 (h j o c hl e d b.1)
structure MonoAt (R:Nat->Value->World->Prop) (cons:Nat->Option Nat) (WI:World->Prop) (init:List Value) (L:Array Bool) (us:List Value) (W:World):Prop where
 len:us.length=init.length
 fact:∀j,L.getD j false=true->(∀c,cons j=some c->L.getD c false=false)->R j (us.getD j undef) W
 old:∀j,L.getD j false=false->us.getD j undef=init.getD j undef
 wi:WI W
def Fd(ops:Array Oper)(cons:Nat->Option Nat)(n i j:Nat):Bool:=
 match cons j with
 |none=>true
 |some c=>reach ops n c i
structure Given (ops:Array Oper) (dsts:List (Option Nat)) (t:Array Value) (R:Nat->Value->World->Prop) (cons:Nat->Option Nat) (WI:World->Prop) (i:Nat) (T:Nat->Value) (W:World):Prop where
 keep:∀s,dsts.contains (some s)=false->T s=t.getD s undef
 fact:∀n j s,(j !=i&&reach ops n i j&&Fd ops cons n i j&&dsts[j]? ==some (some s))=true->R j (T s) W
 old:∀n j s,(reach ops n j i&&dsts[j]? ==some (some s))=true->T s=t.getD s undef
 wi:WI W
def ql(ops:Array Oper)(dsts:List (Option Nat))(R:Nat->Value->World->Prop)(cons:Nat->Option Nat)(i:Nat):Option (Nat×Bool)->Prop
 |none=>True
 |some (j,b)=>∃n s,(j !=i&&reach ops n i j&&cons j==none&&dsts[j]? ==some (some s))=true/\∀v W,R j v W->v=.bool b
def Steps(P:Program)(ops:Array Oper)(dsts:List (Option Nat))(t:Array Value)(R:Nat->Value->World->Prop)(cons:Nat->Option Nat)(WI:World->Prop)(Ext:Nat->World->World->Prop):Nat->List Oper->Prop
 |_,[]=>True
 |i,o::l=>(ql ops dsts R cons i o.guard/\∀(T:Nat->Value) (W:World),Given ops dsts t R cons WI i T W->OpRuns P o T W λv W'=>R i v W'/\Ext i W W')/\Steps P ops dsts t R cons WI Ext (i+1) l
def Steps.at{P:Program}{ops:Array Oper}{a:List (Option Nat)}{t:Array Value}{R:Nat->Value->World->Prop}{cons:Nat->Option Nat}{c:World->Prop}{b:Nat->World->World->Prop}:∀(l:List Oper) (n:Nat),Steps P ops a t R cons c b n l->∀(k:Nat) (o:Oper),l[k]? =some o->
  ql ops a R cons (n+k) o.guard/\∀(T:Nat->Value) (W:World),Given ops a t R cons c (n+k) T W->OpRuns P o T W λv W'=>R (n+k) v W'/\b (n+k) W W'
 |[],_,_,k,o,h=>by simp at h
 |x::l,n,hs,0,o,h=>by
  simp only[RY,Ro]at h;subst h;exact hs.1
 |x::l,n,hs,k+1,o,h=>by
  have:=Steps.at l (n+1) hs.2 k o (by simpa using h);rw[show n+1+k=n+(k+1) by omega]at this;exact this
def ux{P:Program}{id:Nat}{ops:Array Oper}{Q:Exit->Act->World->Prop}{a:Act}{w:World}(d:List (Option Nat))(R:Nat->Value->World->Prop)(cons:Nat->Option Nat)(y:World->Prop)(z:Nat->World->World->Prop)
  (hm:P.follows .mixedOrders=true) (T:fY ops=true) (V:ops.toList.map (·.dst)=d) (r:cD a.tmps.size d=true)
  (E:∀i W W',y W->z i W W'->y W') (A:∀i j v W W',cons j≠some i->y W->R j v W->z i W W'->R j v W') (h0:y w.drew)
  (B:Steps P ops d a.tmps R cons y z 0 ops.toList)
  (D:∀(us:List Value) (W:World),us.length=d.length->(∀j,j<ops.size->cons j=none->R j (us.getD j undef) W)->y W->Q .normal ⟨dl a.tmps (d.zip us),a.defers⟩ W):(Code.region id ops true).wp P Q a w:=by
 have a5:d.length=ops.size:=by rw[<-V];simp
 refine iy (λL M W=>∃us,M=⟨dl a.tmps (d.zip us),a.defers⟩/\L.size=ops.size/\Closed ops L/\MonoAt R cons y (ja a.tmps d) L us W) hm T ⟨ja a.tmps d,?_,F,i8 ops,⟨Z,λj h=>absurd h mO,λ_ _=>rfl,h0⟩⟩ ?_ ?_
 ·rw[kr]
 ·rintro L M W i o N h2 C h4 ⟨us,rfl,_,U,m⟩;have hi:i<ops.size:=(RQ.1 C).1;have X:d[i]? =some o.dst:=by
   rw[<-V,RK];simp only[SC,C,Sr]
  have k:us.length=d.length:=by rw[m.len,fc]
  have J:L.getD i false=false:=getD_both h2;have K:∀n j,j≠i->reach ops n i j=true->L.getD j false=true:=λn j h x=>by
   have q:=U.step C h4;have:=q.reach n i j x (fI O);rwa[dB (λe=>h e.symm)]at this
  have I:∀n j,reach ops n j i=true->L.getD j false=false:=λn j x=>by
   cases hl:L.getD j false with
   |false=>rfl
   |true=>
    have:=U.reach n j i x hl;rw[J]at this;cases this
  have G:Given ops d a.tmps R cons y i (λs=>(dl a.tmps (d.zip us)).getD s undef) W:=by
   refine⟨λs f=>fZ d us _ s f,λn j s f=>?_,λn j s f=>?_,m.wi⟩
   ·simp only[Q9,bne_iff_ne,beq_iff_eq]at f;obtain⟨⟨⟨h,x⟩,u⟩,f⟩:=f;show R j ((dl a.tmps (d.zip us)).getD s undef) W
    rw[(dM d us _ j s r k f).1];refine m.fact j (K n j h x) λc g=>?_
    rw[Fd,g]at u;exact I n c u
   simp only[Q9,beq_iff_eq]at f;obtain⟨x,f⟩:=f;show(dl a.tmps (d.zip us)).getD s undef=_
   rw[(dM d us _ j s r k f).1,m.old j (I n j x),lY _ _ _ _ f]
  have hS:=Steps.at ops.toList 0 B i o (by simpa using C);rw[R4]at hS;obtain⟨hg,t⟩:=hS;have t:=t _ W G;have hw:Region.wanted o (yielded ops (dl a.tmps (d.zip us)))=true:=by
   unfold Region.wanted;cases Y:o.guard with
   |none=>rfl
   |some p=>
    obtain⟨j,b⟩:=p;rw[Y]at hg;obtain⟨n,s,f,S⟩:=hg;simp only[Q9,bne_iff_ne,beq_iff_eq]at f;obtain⟨⟨⟨h,x⟩,u⟩,f⟩:=f;have hv:=S _ _ (m.fact j (K n j h x) λc g=>by rw[u]at g;cases g);rw[<-(dM d us _ j s r k f).1]at hv;have a0:=(dM d us a.tmps j s r k f).2;have a1:(ops[j]?).bind (·.dst)=some s:=by
     rw[<-V,RK,SC]at f;cases ho:ops[j]? with
     |none=>simp[ho]at f
     |some oj=>simpa[ho]using f
    have:(dl a.tmps (d.zip us))[s]? =some (.bool b):=by
     have hz:s<(dl a.tmps (d.zip us)).size:=by rw[ii];exact a0
     simp only[RU,RN hz,RH]at hv;rw[RN hz,hv]
    simp only[yielded,a1,Sp,this];cases b<;>rfl
  simp only[wpList];rw[if_pos hw];refine .inl<|Oper.wp_mono ?_ t.wp;rintro a4 a3 ⟨v,e,S,hE⟩;refine⟨us.set i v,?_,by simpa using N,U.step C h4,⟨by simpa using m.len,λj h g=>?_,λj h=>?_,E _ _ _ m.wi hE⟩⟩
  ·rw[e];exact kE d us _ _ i _ v r k X
  ·by_cases l:i=j
   ·subst l;have:(us.set i v).getD i undef=v:=by simp[List.getD,show i<us.length by omega]
    rw[this];exact S
   rw[dB l]at h;have:(us.set i v).getD j undef=us.getD j undef:=by simp[List.getD,l]
   rw[this];refine A i j _ _ _ (λe=>?_) m.wi (m.fact j h λc q=>?_) hE
   ·have:=g i e;rw[fI O]at this;cases this
   have:=g c q;by_cases H:i=c
   ·subst H;exact J
   rwa[dB H]at this
  by_cases l:i=j
  ·subst l;rw[fI O]at h;cases h
  rw[dB l]at h;have:(us.set i v).getD j undef=us.getD j undef:=by simp[List.getD,l]
  rw[this];exact m.old j h
 rintro L M W N ⟨us,rfl,a2,_,m⟩;refine D us W (by rw[m.len,fc]) (λj h g=>m.fact j (N j h) λc q=>by rw[g]at q;cases q) m.wi
end Go.Proofs.YtfoejfohbkmmeaaGreatDoor
namespace Go.Proofs.YtfoejfohbkmmeaaGreatDoor
open Go.RowKit
def fP(F:List (Value->World->Prop))(j:Nat):Value->World->Prop:=F.getD j λ_ _=>True
inductive Stab (w:World):List (Value->World->Prop)->Prop
 |nil:Stab w []
 |cons {f:Value->World->Prop} {l:List (Value->World->Prop)} (h:∀v W W',Below w.heap.size w W->f v W->Below W.heap.size W W'->f v W') (hs:Stab w l):Stab w (f::l)
def Stab.eq{w:World}{x:Value}{l:List (Value->World->Prop)}(a:Stab w l):Stab w ((λv _=>v=x)::l):=.cons (λ_ _ _ _ h _=>h) a
def Stab.get{w:World}{l:List (Value->World->Prop)}(h:Stab w l):∀j v W W',Below w.heap.size w W->fP l j v W->Below W.heap.size W W'->fP l j v W':=by
 induction h with
 |nil=>intro j v W W' _ _ _;simp[fP]
 |cons h hs ih=>
  intro j v W W' c b a;cases j with
  |zero=>exact h v W W' c b a
  |succ j=>exact ih j v W W' c b a
def Steps.nil{P:Program}{ops:Array Oper}{a:List (Option Nat)}{t:Array Value}{R:Nat->Value->World->Prop}{cons:Nat->Option Nat}{c:World->Prop}{b:Nat->World->World->Prop}{i:Nat}:Steps P ops a t R cons c b i []:=trivial
def Steps.cons{P:Program}{ops:Array Oper}{a:List (Option Nat)}{t:Array Value}{R:Nat->Value->World->Prop}{cons:Nat->Option Nat}{c:World->Prop}{b:Nat->World->World->Prop}{i:Nat}{o:Oper}{l:List Oper}
  (d:ql ops a R cons i o.guard) (h:∀(T:Nat->Value) (W:World),Given ops a t R cons c i T W->OpRuns P o T W λv W'=>R i v W'/\b i W W') (e:Steps P ops a t R cons c b (i+1) l):Steps P ops a t R cons c b i (o::l):=⟨⟨d,h⟩,e⟩
def tN{P:Program}{id:Nat}{l:List Oper}{Q:Exit->Act->World->Prop}{a:Act}{w:World}(b:List (Option Nat))(F:List (Value->World->Prop))
  (q:P.follows .mixedOrders=true) (g:fY l.toArray=true) (o:l.map (·.dst)=b) (h:cD a.tmps.size b=true) (i:Stab w F)
  (c:Steps P l.toArray b a.tmps (fP F) (λ_=>none) (Below w.heap.size w) (λ_ W W'=>Below W.heap.size W W') 0 l)
  (d:∀(us:List Value) (W:World),us.length=b.length->(∀j,j<l.length->fP F j (us.getD j undef) W)->Below w.heap.size w W->Q .normal ⟨dl a.tmps (b.zip us),a.defers⟩ W):(Code.region id l.toArray true).wp P Q a w:=
 ux b (fP F) (λ_=>none) (Below w.heap.size w) (λ_ W W'=>Below W.heap.size W W') q g (by simpa using o) h
  (λ_ W W' e f=>e.trans (f.mono e.size)) (λ_ j v W W' _ r n m=>i.get j v W W' r n m) (Below.refl _ _).drew c
  (λus W e f k=>d us W e (λj p=>f j (by simpa using p) Z) k)
def cG{n:Nat}{us:List Value}(h:us.length=n+1):∃y l,us=y::l/\l.length=n:=by
 cases us with
 |nil=>simp at h
 |cons y l=>exact⟨y,l,Z,by simpa using h⟩
def Fe{us:List Value}(h:us.length=0):us=[]:=Rj h
