import Derived.Test.YtfoejfohbkmmeaaGreatDoorP00
import Derived.Lib.AtoiErrMem
import Derived.Test.YtfoejfohbkmmeaaGreatDoorCards
import Derived.Test.YtfoejfohbkmmeaaGreatDoorTie
import Derived.ProofKit
import Derived.OpenShut
import Derived.Deep.DeepHandedRow
import Derived.Lib.LaidTab
import Derived.Lib.SmallJoins
import Derived.Stop.LaidErr
import Derived.Lay
import Derived.SevenTiedAt
import Derived.Maps.AppendAt
import Derived.Lib.AppendStr
import Derived.OwnWalk
import Derived.Deep.Slices
import Derived.Orders
import Derived.StillTail
import Derived.Tactics
set_option maxRecDepth 100000
namespace Go.Proofs.YtfoejfohbkmmeaaGreatDoor
open Go.RowKit
theorem zF(w:World)(k:Nat)(a:Array Obj):Below w.heap.size w (Go.Sort.grow (w.drewN k) a):=
 ⟨Z,Z,Z,by simp[Go.Sort.grow],fun i b=>by simp[Go.Sort.grow,World.drewN,Od b]⟩
theorem tX(n:Int)(w:World)(f: -9223372036854775808<=n)(g:n<=9223372036854775807)(d:Env w):
  Calls Tryz.prog 105 #[.int .i64 n,.int .i64 10] w fun e w'=>e=.returned (.string ⟨(Lib.itoa n).toArray⟩)/\Below w.heap.size w w':=
 (Tryz.strconv_FormatInt_10 n f g w d.pow10).mono fun e w' ⟨c,k,a,b⟩=>⟨c,by subst b;exact zF w k a⟩
theorem qD(s:ByteArray)(v:Int)(w:World)(c:s.size<=281474976710656)(h:Lib.parseIntB 64 s.data.toList=.ok v):
  Calls Tryz.prog 142 #[.string s,.int .i64 10,.int .i64 64] w fun e w'=>e=.returned (.tuple #[.int .i64 v,.nilIface])/\Below w.heap.size w w':=
 (Tryz.strconv_ParseInt_10_at64_ok s (by omega) v h w).mono fun e w' ⟨b,a⟩=>⟨b,by
  rcases a with rfl|⟨t,rfl⟩
  ·exact Below.refl _ _
  exact Lib.bytesWorld_below _ _ _⟩
def Hf(w:World)(e:Ending)(w':World):Prop:=∃(v:Int) (N:Nat),e=.returned (.tuple #[.int .i64 v,.iface 233 (.pointer (some ⟨N,0,none⟩))])/\Below w.heap.size w w'
theorem vI(s:ByteArray)(w:World)(f:s.size<=281474976710656)(h:∀v,Lib.parseIntB 64 s.data.toList≠ .ok v)(g:Env w):
  Calls Tryz.prog 142 #[.string s,.int .i64 10,.int .i64 64] w (Hf w):=by
 obtain⟨i,p,j⟩:=g.errSyntax;obtain⟨d,k,l⟩:=g.errRange;cases a:Lib.parseIntB 64 s.data.toList with
 |ok v=>exact absurd a (h v)
 |_=>
  first
   |exact(Tryz.strconv_ParseInt_10_at64_range_var s f a d k w l).mono fun e w' ⟨N,b,_,_,c⟩=>⟨_,N,b,c⟩
   |exact(Any.strconv_ParseInt_10_at64_syntax_var Tryz.laysC174 s f a i p w j).mono fun e w' ⟨N,b,_,_,c⟩=>⟨_,N,b,c⟩
theorem eW(s p:ByteArray)(w:World):
  Calls Tryz.prog 77 #[.string s,.string p] w fun e w'=>e=.returned (.bool (Lib.hasPrefix s.data.toList p.data.toList))/\w=w':=
 (Tryz.strings_HasPrefix s p w).mono fun _ _ ⟨a,b⟩=>⟨a,b.symm⟩
theorem g7(s old new:ByteArray)(w:World)(g:s.size<=4294967280)(a:1<=old.size)(c:new.size<=2)(d:Env w):
  Calls Tryz.prog 106 #[.string s,.string old,.string new] w fun e w'=>e=.returned (.string ⟨(Lib.replaceAll s.data.toList old.data.toList new.data.toList).toArray⟩)/\Below w.heap.size w w':=by
 obtain⟨m,b⟩:=d.maxLen;have f:=Lib.countB_le old a s.size s (L4 _);exact Tryz.strings_ReplaceAll s old new m w (by omega) b a (by
  have:Lib.countB s old*new.size<=s.size*2:=NY f c;omega)
end Go.Proofs.YtfoejfohbkmmeaaGreatDoor
namespace Go.Proofs.YtfoejfohbkmmeaaGreatDoor
open Go.ChangeShapes Go.WideShapes Go.ChangeAt Go.RowKit
theorem own:ownKnob Tryz.prog.godebug=none:=by kernel_rfl
theorem Hg:laidOutB Tryz.prog=true:=by kernel_rfl
abbrev uh:List (String×DataW Unit):=Rows.rowioLinesRow.laid
theorem zG:(Tryz.prog.globals[1]?).map (·.type)=some 241:=by kernel_rfl
theorem rO:(Tryz.prog.globals[4]?).map (·.type)=some 163:=by kernel_rfl
theorem tY:(Tryz.prog.globals[5]?).map (·.type)=some 163:=by kernel_rfl
theorem zH:Tryz.prog.cellsOf 241=20:=by kernel_rfl
theorem EB:Tryz.prog.cellsOf 89=1:=by kernel_rfl
theorem EC{n:String}{g:Nat}{k:String}{d:DataW Unit}{r:List (String×DataW Unit)}{W:World}(h:laidMet Tryz.prog ((n,.iface k d)::r) W)(j:Tryz.prog.globalNamed n=some g)
  (l:(Tryz.prog.globals[g]?).map (·.type)=some 163):∃m p,W.var? Tryz.prog n=some #[.iface m p]:=by
 obtain⟨ps,⟨s,o,cs,f,p,q,b,c,a,i,_,_⟩,_⟩:=h;obtain rfl:=MW (j.symm.trans b);obtain rfl:=MW (l.symm.trans c);obtain⟨_,u,v,e,_⟩:=iface_of_trod Tryz.underlying163 i;exact⟨u,v,by rw[a];congr 1;exact Array.toList_inj.1 e⟩
theorem Jm{W:World}(a:laidMetH Tryz.prog uh W)(b:W.ShapedOpen Tryz.prog):Env W:=by
 have a:laidMet Tryz.prog uh W:=by rwa[MakeChecks.laidMetH_plain _ _ _ (by kernel_rfl)]at a
 have c:=a.tail.tail;have d:=c.tail.tail;refine⟨Tryz.laysM155.s1_3 W b,Lib.tabIs_of_head zD zG Tryz.underlying241 Tryz.underlying89 EB zH c,EC d.tail nQ rO,EC d pU tY⟩
theorem ED(a:Os)(args:Array Value):laidMet Tryz.prog uh ((World.laidAll Tryz.prog a uh).forCall (fun _ _=>0) ⟨#[],args,[]⟩).memory:=
 laidMet_laidAll _ (by kernel_rfl) (by kernel_rfl)
section
variable {H:Type} {enc:TypeId×Value->H}
theorem tZ{P:Program}(m:laidOutB P=true){W W':World}(k:Below W.heap.size W W')(ts:List TypeId):∀(vs:List Value) (e:List (DataW H)) (p:List MemPlace),(ts.all fun t=>P.readableRec t&&decide (t<P.types.size))=true->
  DataW.TrodAll enc P W 0 (fun _=>true) true ts vs e p->(∀x∈p,x.block<W.heap.size)->DataW.TrodAll enc P W' 0 (fun b=>decide (b<W.heap.size)) true ts vs e p:=by
 induction ts with
 |nil=>
  intro vs e p _ h _;obtain⟨rfl,rfl,rfl⟩:=trodAll_nil h;exact trodAll_mk0
 |cons t ts ih=>
  intro vs e p c h a;obtain⟨v,i,d,g,o,n,rfl,rfl,rfl,j,l⟩:=trodAll_cons h;simp only[Ny,L8,decide_eq_true_eq]at c;exact trodAll_cons_mk (Below.trod m c.1.1 c.1.2 j k fun x f=>a x (Om _ f)) (ih _ _ _ (by simpa using c.2) l fun x f=>a x (Pr _ f))
theorem EE{f:Func}{s:ChangeSpec}{W W':World}{args:Array Value}{b d:List (DataW H)}{a:List MemPlace}
  (g:DataW.Whole enc Tryz.prog f.params.toList s.vars false W args.toList b d a) (l:s.vars=[]) (c:f.resultTypes=#[4]) (j:(f.params.toList.all fun t=>Tryz.prog.readableRec t&&decide (t<Tryz.prog.types.size))=true)
  (v:(s.fn H (b++d)).results=[.lit (.bool true)]) (r:(s.fn H (b++d)).args=b) (u:(s.fn H (b++d)).vars=[]) (m:Below W.heap.size W W'):
  s.post enc Tryz.prog f false true false false W args (.bool true) W':=by
 have k:=fun x i=>g.lt x i
 have e:=g;obtain⟨p,q,o,n,rfl,_,_⟩:=g;rw[l]at n;obtain⟨rfl,rfl⟩:=trodVars_none n;refine⟨b,[],p++[],[],p,[],e,?_,?_,?_,m.frame _,fun h=>by cases h⟩
 ·rw[v,c];exact trodAll_mk1 (shut_bool Tryz.underlying4 _)
 ·rw[r];exact tZ Hg m _ _ _ _ j o fun x i=>k x (by simpa using i)
 rw[u,l];rfl
theorem zI{C:Checked}{k:Os}{f:FuncId}{l:Func}{s:OpenSpec}{c:List PathCond}{b:Bool}{d:List (String×DataW Unit)}(w0:World)(args:Array Value)(h:w0.os=k)
  (j:(w0.forCall (fun _ _=>0) ⟨#[],args,[]⟩).Shaped C.prog) (e:Input.okWideB C.prog (w0.forCall (fun _ _=>0) ⟨#[],args,[]⟩) f ⟨#[],args,[]⟩=true)
  (g:s.preRow enc C.prog l c b d (w0.forCall (fun _ _=>0) ⟨#[],args,[]⟩).memory args):
  ∃(w:World) (a:Tape) (i:Input),w.os=k/\(w.forCall a i).Shaped C.prog/\i.vars=[]/\Input.okWide C.prog (w.forCall a i) .any w.heap.size f i/\
   s.preRow enc C.prog l c b d (w.forCall a i).memory i.args/\({}:Assume).holds C.prog (lone (Frame.enter C.prog f i.args .normal) [] (w.forCall a i)):=
 ⟨w0,fun _ _=>0,⟨#[],args,[]⟩,h,j,(Input.okWide_of_okWideB (base:=0) e).1,(Input.okWide_of_okWideB e).2,g,by
  simp only[Assume.holds];exact⟨by simp,by simp,fun _=>Modest.zero,by simp,by simp⟩⟩
end
end Go.Proofs.YtfoejfohbkmmeaaGreatDoor
namespace Go.Proofs.YtfoejfohbkmmeaaGreatDoor
open Go.ChangeShapes Go.WideShapes Go.ChangeAt Go.RowKit Go.Joins
end Go.Proofs.YtfoejfohbkmmeaaGreatDoor
namespace Go.Proofs.YtfoejfohbkmmeaaGreatDoor
open Go.RowKit
theorem ri(w:World)(t:TypeId)(cs:Array Value):
  ∃W,w.alloc (.cells cs t)=W/\Below w.heap.size w W/\IsBlk W w.heap.size t cs/\W.heap.size=w.heap.size+1:=
 ⟨_,Z,(Below.refl _ _).alloc (L4 _) _,fp _ _ _,by simp⟩
theorem t6(w:World)(t u:TypeId)(cs a:Array Value):
  ∃W,(w.alloc (.cells cs t)).alloc (.cells a u)=W/\Below w.heap.size w W/\IsBlk W w.heap.size t cs/\IsBlk W (w.heap.size+1) u a/\W.heap.size=w.heap.size+2:=by
 refine⟨_,Z,((Below.refl _ _).alloc (L4 _) _).alloc (by simp) _,(fp _ _ _).alloc _,?_,by simp⟩;have:=fp (w.alloc (.cells cs t)) u a;simpa using this
theorem aE{B:Nat}{w W W':World}(h:Below B w W)(a:Below W.heap.size W W')(b:B<=W.heap.size):Below B w W':=h.trans (a.mono b)
def At(w:World)(B:Nat)(A:Option Addr)(xs:List Value):Prop:=
 0<xs.length->∃b off,A=some ⟨b,off,none⟩/\b<B/\∀(j:Nat) u,xs[j]? =some u->w.cell? ⟨b,off+j,none⟩=some u
theorem At.keep{w w':World}{B:Nat}{A:Option Addr}{xs:List Value}(h:At w B A xs)(f:∀p:Addr,p.block<B->w'.cell? p=w.cell? p):At w' B A xs:=fun c=>by
 obtain⟨b,off,e,a,g⟩:=h c;exact⟨b,off,e,a,fun j u d=>(f ⟨b,off+j,none⟩ a).trans (g j u d)⟩
theorem At.below{w w':World}{B:Nat}{A:Option Addr}{xs:List Value}(h:At w B A xs)(a:Below B w w'):At w' B A xs:=h.keep fun _ b=>a.cell b
theorem At.more{w:World}{B a:Nat}{A:Option Addr}{xs:List Value}(h:At w B A xs)(g:B<=a):At w a A xs:=fun c=>by
 obtain⟨b,off,e,f,d⟩:=h c;exact⟨b,off,e,by omega,d⟩
theorem At.nil(w:World)(B:Nat)(A:Option Addr):At w B A []:=fun h=>absurd h (by simp)
theorem C1{w:World}{base:Nat}{e:TypeId}{size n c:Nat}{A:Option Addr}{xs:List Value}(h:w.ownsRow base e size (.slice A n c) n xs):At w w.heap.size A xs:=fun b=>by
 rcases h.2 with⟨a,l⟩|⟨g,f,cur,a,_,k,_⟩
 ·have:=h.1;rw[l]at this;simp at this;subst this;simp at b
 injection a with d
 subst d;refine⟨g,0,Z,(MD.1 k).1,fun j u i=>?_⟩;have:=h.cells (g:=g) Z j u i;rwa[show(⟨g,0,none⟩:Addr).add j=⟨g,0+j,none⟩from by unfold Addr.add;split<;>simp_all]at this
structure V where
 t:Int
 n:Int
 s:ByteArray
def V.cells(v:V):List Value:=[.int .i64 v.t,.int .i64 v.n,.string v.s]
def fN(l:List V):List Value:=l.flatMap V.cells
theorem kt:∀l:List V,(fN l).length=3*l.length
 |[]=>rfl
 |v::l=>by
  have:=kt l;simp only[fN,Pg,Mb,L9,V.cells,Mg]at this⊢;omega
theorem ui:∀(l:List V) (i:Nat) (v:V),l[i]? =some v->(fN l)[3*i]? =some (.int .i64 v.t)/\(fN l)[3*i+1]? =some (.int .i64 v.n)/\(fN l)[3*i+2]? =some (.string v.s)
 |[],i,v,h=>by simp at h
 |u::l,0,v,h=>by simp at h;subst h;simp[fN,V.cells]
 |u::l,i+1,v,h=>by
  have a:=ui l i v (by simpa using h);have e:∀j,(fN (u::l))[j+3]? =(fN l)[j]? :=fun j=>by simp[fN,V.cells]
  refine⟨?_,?_,?_⟩
  ·rw[show 3*(i+1)=3*i+3 by omega,e];exact a.1
  ·rw[show 3*(i+1)+1=3*i+1+3 by omega,e];exact a.2.1
  rw[show 3*(i+1)+2=3*i+2+3 by omega,e];exact a.2.2
theorem At.val{w:World}{B:Nat}{A:Option Addr}{l:List V}{i:Nat}(h:At w B A (fN l))(j:i<l.length):
  ∃b off,A=some ⟨b,off,none⟩/\b<B/\w.cell? ⟨b,off+i*3,none⟩=some (.int .i64 l[i].t)/\w.cell? ⟨b,off+i*3+1,none⟩=some (.int .i64 l[i].n)/\w.cell? ⟨b,off+i*3+2,none⟩=some (.string l[i].s):=by
 obtain⟨b,off,e,f,a⟩:=h (by rw[kt];omega);obtain⟨d,g,c⟩:=ui l i l[i] (L3 j);refine⟨b,off,e,f,?_,?_,?_⟩
 ·rw[Mt];exact a _ _ d
 ·rw[Mt];exact a _ _ g
 rw[Mt];exact a _ _ c
def bE(l:List UInt8):List Value:=l.map fun c=>.int .u8 c.toNat
theorem fI(l:List UInt8):(bE l).length=l.length:=by simp[bE]
end Go.Proofs.YtfoejfohbkmmeaaGreatDoor
namespace Go.Proofs.YtfoejfohbkmmeaaGreatDoor
open Go.ChangeShapes Go.WideShapes Go.ChangeAt Go.RowKit Go.Joins Go.Deep
open Lib renaming hid→J
section
variable {H:Type} {enc:TypeId×Value->H} {W:World} {b0 base:Nat} {spare:Nat->Bool} {held:Bool}
instance:Inhabited V:=⟨⟨0,0,⟨#[]⟩⟩⟩
theorem uj{n:Nat}(h:n<=maxLen):n<=9223372036854775807:=by unfold maxLen at h;omega
theorem Hh{x:Int}(h:(Lit.int .u8 x).wf=true):0<=x/\x<=255:=by simpa[Lit.wf,IntKind.min,IntKind.max,IntKind.signed,IntKind.bits]using h
theorem uk:Tryz.prog.cellsOf 5=1:=by kernel_rfl
end
theorem C3:Tryz.prog.cellsOf 3=1:=by kernel_rfl
def lq(l:List Int):List Value:=l.map fun x=>.int .i64 x
theorem zJ{H:Type}{enc:TypeId×Value->H}{W:World}{M base:Nat}{i:Nat->Bool}{m:Bool}{v:Value}{d:DataW H}{p:List MemPlace}
  (G:Value.okWide Tryz.prog W .any M 23 v) (h:DataW.Trod enc Tryz.prog W base i m 23 v d p):
  ∃(A:Option Addr) (l:List Int) (c:Nat),v=.slice A l.length c/\At W W.heap.size A (lq l)/\l.length<=c/\c<=9223372036854775807/\(A=none->c=0):=by
 obtain⟨O,len,q,rfl⟩:=okWide_slice Tryz.underlying23 G;obtain⟨z,E⟩:=h;rcases open_ints Tryz.underlying23 Tryz.underlying3 C3 E with⟨g,_⟩|⟨a,t,B,k,g,_,I,K,F,_,f,L⟩
 ·simp[Value.cells]at g;obtain⟨rfl,rfl,rfl⟩:=g;exact⟨none,[],0,Z,At.nil _ _ _,by simp,by simp,fun _=>rfl⟩
 simp[Value.cells]at g;obtain⟨rfl,rfl,rfl⟩:=g;have N:len<=k.length:=by rw[F];split<;>omega
 have e:(k.take len).length=len:=by simp;omega
 have r:(lq (k.take len)).length=len:=by unfold lq;rw[L5,e]
 refine⟨some a,k.take len,q,by rw[e],fun D=>?_,by rw[e];exact I,uj K,fun e=>by cases e⟩;rw[r]at D;have s:=f 0 (by omega);have y:a.spot=none:=by
  have:=World.cell?_spot s;simpa[Addr.add]using this
 refine⟨a.block,a.off,by cases a;simp_all,?_,fun j u x=>?_⟩
 ·have:=World.block_lt_of_cell? _ _ s;simpa[block_add]using this
 have J:j<len:=by
  have:=(L6.1 x).1;rwa[r]at this
 have w:=f j (by omega);have C:a.add j=⟨a.block,a.off+j,none⟩:=by
  obtain⟨b,o,P⟩:=a;simp only at y;subst y;exact add_plain b o j
 rw[C]at w;rw[w,<-x];have n:j<k.length:=by omega
 simp only[lq,MN,MU,J,if_true,L3 n,Nq,List.getD,MG]
end Go.Proofs.YtfoejfohbkmmeaaGreatDoor
namespace Go.Proofs.YtfoejfohbkmmeaaGreatDoor
open Lib renaming hid→J
def vJ(listed:Array Bool)(o:Oper):Prop:=∀e∈o.after,Region.binds .any e=true->listed.getD e.on false=true
theorem Hi{P:Program}{o:Oper}{a:Act}{w:World}{K:Act->World->Prop}{Q:Exit->Act->World->Prop}(h:o.wp P a w K (Exit.then K Q)):o.wp P a w K Q:=by
 unfold Oper.wp at*;generalize (execOp a.eval o).run P w=r at*;cases r with
 |ok n w'=>
  cases n<;>simp only[Oper.upon]at h⊢<;>
   first
    |exact h
    |exact Calls.mono h (fun e b c=>by cases e<;>exact c)
 |halt x w'=>cases x<;>simp only[Oper.upon]at h⊢<;>exact h
theorem vL{P:Program}{ops:Array Oper}{i:Nat}{o:Oper}{a:Act}{w:World}{K:Act->World->Prop}{Q:Exit->Act->World->Prop}(b:ops[i]? =some o)
  (h:wpList P ops (Exit.then K Q) [o] a w):wpOp P ops Q i K a w:=by
 unfold wpOp;simp only[b];simp only[wpList]at h;split
 ·rename_i hw;rw[if_pos hw]at h;rcases h with h|h
  ·exact .inl (Hi h)
  exact .inr h
 rename_i hw;rw[if_neg hw]at h;exact h
def mj(listed:Array Bool):Nat:=listed.toList.count false
theorem oG{a:Array Bool}{i:Nat}(h:a.getD i true=false):mj (a.setIfInBounds i true)+1=mj a:=by
 have e:i<a.size:=by
  rcases MA i a.size with d|d
  ·exact d
  simp[OM d]at h
 have c:a.toList[i]? =some false:=by
  simp[e]at h⊢;exact h
 unfold mj;rw[Nr];obtain⟨l⟩:=a;simp only at c⊢;clear h e;induction l generalizing i with
 |nil=>simp at c
 |cons b l ih=>
  cases i with
  |zero=>simp at c;subst c;simp
  |succ i=>
   have:=ih (i:=i) (by simpa using c);cases b<;>simp[Oz]<;>omega
def e8(ops:Array Oper):Bool:=(List.range ops.size).all fun i=>((ops[i]?).map fun o=>o.after.all fun e=> !Region.binds .any e||decide (e.on<i)).getD true
theorem rP{ops:Array Oper}{a:Array Bool}(g:e8 ops=true)(f:a.size=ops.size)(l:Region.ready .any ops a=[]):∀(k i:Nat),i<=k->i<ops.size->a.getD i false=true:=by
 intro k;induction k with
 |zero=>
  intro i m b;obtain rfl:i=0:=by omega
  cases c:a.getD 0 true with
  |true=>simp[f,b]at c⊢;exact c
  |false=>
   have d:(0:Nat)∈Region.ready .any ops a:=mem_ready.2 ⟨c,ops[0],MC b,fun e h j=>by
    have:=Mh.1 g 0 (N6.2 b);rw[MC b]at this;simp only[Nq,MG,Pq,MP,decide_eq_true_eq]at this;have:=(this e h).resolve_left (by rw[j];decide);omega⟩
   rw[l]at d;cases d
 |succ k ih=>
  intro i m b;cases c:a.getD i true with
  |true=>simp[f,b]at c⊢;exact c
  |false=>
   have d:i∈Region.ready .any ops a:=mem_ready.2 ⟨c,ops[i],MC b,fun e h j=>by
    have:=Mh.1 g i (N6.2 b);rw[MC b]at this;simp only[Nq,MG,Pq,MP,decide_eq_true_eq]at this;have:=(this e h).resolve_left (by rw[j];decide);exact ih e.on (by omega) (by omega)⟩
   rw[l]at d;cases d
theorem C4{P:Program}{ops:Array Oper}{Q:Exit->Act->World->Prop}(I:Array Bool->Act->World->Prop)(h:e8 ops=true)
  (f:∀(b:Array Bool) (a:Act) (w:World) (i:Nat) (o:Oper),b.size=ops.size->b.getD i true=false->ops[i]? =some o->vJ b o->I b a w->wpList P ops (Exit.then (I (b.setIfInBounds i true)) Q) [o] a w)
  (e:∀(b:Array Bool) (a:Act) (w:World),(∀i,i<ops.size->b.getD i false=true)->I b a w->Q .normal a w):
  ∀(c:Nat) (b:Array Bool) (a:Act) (w:World),b.size=ops.size->mj b<=c->I b a w->wpAny P .any ops Q c b a w:=by
 intro c;induction c with
 |zero=>
  intro b a w d r n;have g:Region.ready .any ops b=[]:=by
   cases g:Region.ready .any ops b with
   |nil=>rfl
   |cons i l=>
    have q:=(mem_ready.1 (show i∈Region.ready .any ops b by rw[g];exact Ml ..)).1;have:=oG q;omega
  exact⟨g,e b a w (fun i j=>rP h d g i i (L4 _) j) n⟩
 |succ c ih=>
  intro b a w d r n;refine⟨fun g=>e b a w (fun i j=>rP h d g i i (L4 _) j) n,fun i j=>?_⟩;obtain⟨k,o,p,m⟩:=mem_ready.1 j;have s:=vL p (f b a w i o d k p m n);refine wpOp_mono (fun t w' u=>ih _ t w' (by simpa using d) ?_ u) s;have:=oG k;omega
theorem fJ{P:Program}{id:Nat}{ops:Array Oper}{Q:Exit->Act->World->Prop}{a:Act}{w:World}(I:Array Bool->Act->World->Prop)(f:P.follows .mixedOrders=true)(e:e8 ops=true)
  (g:I (Array.replicate ops.size false) a w.drew)
  (c:∀(b:Array Bool) (a:Act) (w:World) (i:Nat) (o:Oper),b.size=ops.size->b.getD i true=false->ops[i]? =some o->vJ b o->I b a w->wpList P ops (Exit.then (I (b.setIfInBounds i true)) Q) [o] a w)
  (d:∀(b:Array Bool) (a:Act) (w:World),(∀i,i<ops.size->b.getD i false=true)->I b a w->Q .normal a w):(Code.region id ops true).wp P Q a w:=
 wp_region_any f (C4 I e c d ops.size _ a _ (by simp) (by unfold mj;simp) g)
theorem EF(t:Array Value)(i:Nat)(d:Value):t.setIfInBounds i (t.getD i d)=t:=by
 rcases MA i t.size with h|h
 ·apply Pb;rw[Nr];apply PL;intro j;rw[OP];split
  ·rename_i e;subst e;simp[h]
  rfl
 simp[Array.setIfInBounds,Nat.not_lt.2 h]
theorem dX{L:Array Bool}{i:Nat}(h:i<L.size):(L.setIfInBounds i true).getD i false=true:=by simp[h]
theorem cl{L:Array Bool}{i j:Nat}(h:i≠j):(L.setIfInBounds i true).getD j false=L.getD j false:=getD_set_ne false h
theorem j9{n j:Nat}:¬(Array.replicate n false).getD j false=true:=by
 rcases MA j n with h|h<;>simp[h]
def Closed(ops:Array Oper)(L:Array Bool):Prop:=∀(j:Nat) (o:Oper),ops[j]? =some o->L.getD j false=true->vJ L o
theorem gi(ops:Array Oper):Closed ops (Array.replicate ops.size false):=fun _ _ _ h=>absurd h j9
theorem Closed.step{ops:Array Oper}{L:Array Bool}{i:Nat}{o:Oper}(h:Closed ops L)(l:ops[i]? =some o)(k:vJ L o):Closed ops (L.setIfInBounds i true):=by
 intro j f g d;by_cases a:i=j
 ·subst a;obtain rfl:o=f:=MW (l.symm.trans g);exact fun e b c=>getD_set_true (k e b c)
 rw[cl a]at d;exact fun e b c=>getD_set_true (h j f g d e b c)
def cj(t:Array Value):List (Option Nat×Value)->Array Value
 |[]=>t
 |(some s,v)::l=>cj (t.setIfInBounds s v) l
 |(none,_)::l=>cj t l
def b4(n:Nat):List (Option Nat)->Bool
 |[]=>true
 |none::l=>b4 n l
 |some s::l=> !l.contains (some s)&&decide (s<n)&&b4 n l
def gC(t:Array Value):List (Option Nat)->List Value
 |[]=>[]
 |some s::l=>t.getD s undef::gC t l
 |none::l=>undef::gC t l
theorem dK(t:Array Value):∀l,(gC t l).length=l.length
 |[]=>rfl
 |some _::l=>by simp[gC,dK t l]
 |none::l=>by simp[gC,dK t l]
theorem jD(t:Array Value):∀(l:List (Option Nat)) (j s:Nat),l[j]? =some (some s)->(gC t l).getD j undef=t.getD s undef
 |[],j,s,h=>by simp at h
 |x::l,0,s,h=>by
  simp at h;subst h;rfl
 |x::l,j+1,s,h=>by
  have:=jD t l j s (by simpa using h);cases x<;>simpa[gC]using this
theorem iB(t:Array Value):∀l:List (Option Nat),cj t (l.zip (gC t l))=t
 |[]=>rfl
 |some s::l=>by simp only[gC,Nz,cj,EF];exact iB t l
 |none::l=>by simp only[gC,Nz,cj];exact iB t l
theorem fb:∀(l:List (Option Nat×Value)) (t:Array Value),(cj t l).size=t.size
 |[],_=>rfl
 |(some s,v)::l,t=>by simp only[cj,fb l];simp
 |(none,_)::l,t=>by simp only[cj,fb l]
theorem set_comm(t:Array Value)(i j:Nat)(u v:Value)(h:i≠j):(t.setIfInBounds i u).setIfInBounds j v=(t.setIfInBounds j v).setIfInBounds i u:=by
 apply Pb;simp only[Nr];exact List.set_comm _ _ h
theorem set_set(t:Array Value)(i:Nat)(u v:Value):(t.setIfInBounds i u).setIfInBounds i v=t.setIfInBounds i v:=by
 apply Pb;simp
theorem rQ:∀(a:List (Option Nat)) (us:List Value) (t:Array Value) (s:Nat) (v:Value),a.contains (some s)=false->(cj t (a.zip us)).setIfInBounds s v=cj (t.setIfInBounds s v) (a.zip us)
 |[],_,_,_,_,_=>by simp[cj]
 |_::_,[],_,_,_,_=>by simp[cj]
 |none::a,u::us,t,s,v,h=>by
  simp only[Nz,cj];exact rQ a us t s v (by simpa using h)
 |some d::a,u::us,t,s,v,h=>by
  simp only[Nz,cj];simp only[OI,Mo]at h;have b:d≠s:=by
   have:=h.1;intro e;subst e;simp at this
  rw[rQ a us _ s v h.2,set_comm _ _ _ _ _ b]
theorem ez:∀(a:List (Option Nat)) (us:List Value) (t:Array Value) (s:Nat),a.contains (some s)=false->(cj t (a.zip us)).getD s undef=t.getD s undef
 |[],_,_,_,_=>by simp[cj]
 |_::_,[],_,_,_=>by simp[cj]
 |none::a,u::us,t,s,h=>by
  simp only[Nz,cj];exact ez a us t s (by simpa using h)
 |some d::a,u::us,t,s,h=>by
  simp only[Nz,cj];simp only[OI,Mo]at h;have b:d≠s:=by
   have:=h.1;intro e;subst e;simp at this
  rw[ez a us _ s h.2];simp[b]
theorem co:∀(a:List (Option Nat)) (us:List Value) (t:Array Value) (j s:Nat),b4 t.size a=true->us.length=a.length->a[j]? =some (some s)->(cj t (a.zip us)).getD s undef=us.getD j undef/\s<t.size
 |[],_,_,j,s,_,_,h=>by simp at h
 |x::a,[],t,j,s,ha,hl,h=>by simp at hl
 |x::a,u::us,t,0,s,ha,hl,h=>by
  simp only[MV,MK]at h;subst h;simp only[b4,L8,Ng,decide_eq_true_eq]at ha;simp only[Nz,cj];rw[ez _ _ _ _ ha.1.1];exact⟨by simp[ha.1.2],ha.1.2⟩
 |x::a,u::us,t,j+1,s,ha,hl,h=>by
  have b:a[j]? =some (some s):=by simpa using h
  cases x with
  |none=>
   have:=co a us t j s ha (by simpa using hl) b;simpa[cj]using this
  |some d=>
   simp only[b4,L8]at ha;have:=co a us (t.setIfInBounds d u) j s (by simpa using ha.2) (by simpa using hl) b;simpa[cj]using this
theorem iX:∀(a:List (Option Nat)) (us:List Value) (t:Array Value) (d:List Deferred) (i:Nat) (o:Option Nat) (v:Value),b4 t.size a=true->us.length=a.length->a[i]? =some o->
  (⟨cj t (a.zip us),d⟩:Act).put o v=⟨cj t (a.zip (us.set i v)),d⟩
 |[],_,_,_,i,o,v,_,_,h=>by simp at h
 |x::a,[],t,d,i,o,v,ha,hl,h=>by simp at hl
 |x::a,u::us,t,d,0,o,v,ha,hl,h=>by
  simp only[MV,MK]at h;subst h;cases x with
  |none=>rfl
  |some s=>
   simp only[b4,L8,Ng]at ha;simp only[Nz,cj,NO,Act.put];rw[rQ _ _ _ _ _ ha.1.1,set_set]
 |x::a,u::us,t,d,i+1,o,v,ha,hl,h=>by
  have b:a[i]? =some o:=by simpa using h
  cases x with
  |none=>
   simp only[Nz,cj,Oz];exact iX a us t d i o v ha (by simpa using hl) b
  |some s=>
   simp only[b4,L8]at ha;simp only[Nz,cj,Oz];exact iX a us _ d i o v (by simpa using ha.2) (by simpa using hl) b
def dU(T:Nat->Value):Operand->Value
 | .tmp s=>T s
 | .const v=>v
 | .global g=>.pointer (some ⟨g,0,none⟩)
 | .func f=>.func (.func f) #[] #[]
theorem vM(a:Act):a.eval=dU fun s=>a.tmps.getD s undef:=by
 funext x;cases x<;>rfl
def OpRuns(P:Program)(o:Oper)(T:Nat->Value)(W:World)(K:Value->World->Prop):Prop:=
 match (execOp (dU T) o).run P W with
 | .ok (.value v) W'=>K v W'
 | .ok .skip W'=>K undef W'
 | .ok (.enter f args) W'=>Calls P f args W' fun e W''=>∃v,e=.returned v/\K v W''
 |_=>False
theorem aC{P:Program}{o:Oper}{T:Nat->Value}{W W':World}{K:Value->World->Prop}{v:Value}(h:(execOp (dU T) o).run P W=.ok (.value v) W')(a:K v W'):OpRuns P o T W K:=by
 unfold OpRuns;rw[h];exact a
theorem cP{P:Program}{o:Oper}{T:Nat->Value}{W:World}{K:Value->World->Prop}{f:FuncId}{args:Array Value}(h:(execOp (dU T) o).run P W=.ok (.enter f args) W)(b:Calls P f args W fun e a=>∃v,e=.returned v/\K v a):OpRuns P o T W K:=by
 unfold OpRuns;rw[h];exact b
theorem OpRuns.wp{P:Program}{o:Oper}{a:Act}{W:World}{K:Value->World->Prop}{Q:Exit->Act->World->Prop}(h:OpRuns P o (fun s=>a.tmps.getD s undef) W K):o.wp P a W (fun f W'=>∃v,f=a.put o.dst v/\K v W') Q:=by
 unfold OpRuns at h;unfold Oper.wp;rw[vM];generalize (execOp (dU fun s=>a.tmps.getD s undef) o).run P W=r at h;cases r with
 |ok n w'=>
  cases n<;>simp only[Oper.upon]at h⊢<;>
   first
    |exact⟨_,Z,h⟩
    |exact Calls.mono h (fun e c ⟨v,b,d⟩=>by subst b;exact⟨v,Z,d⟩)
    |exact h.elim
 |halt x w'=>cases x<;>exact h.elim
def reach(ops:Array Oper):Nat->Nat->Nat->Bool
 |0,j,i=>j==i
 |n+1,j,i=>j==i||((ops[j]?).map fun o=>o.after.any fun e=>Region.binds .any e&&reach ops n e.on i).getD false
theorem Closed.reach{ops:Array Oper}{L:Array Bool}(h:Closed ops L):∀(n j i:Nat),reach ops n j i=true->L.getD j false=true->L.getD i false=true
 |0,j,i,a,hl=>by
  simp only[Go.Proofs.YtfoejfohbkmmeaaGreatDoor.reach,beq_iff_eq]at a;subst a;exact hl
 |n+1,j,i,a,hl=>by
  simp only[Go.Proofs.YtfoejfohbkmmeaaGreatDoor.reach,MP,beq_iff_eq]at a;rcases a with rfl|a
  ·exact hl
  cases b:ops[j]? with
  |none=>simp[b]at a
  |some o=>
   simp only[b,Nq,MG]at a;obtain⟨e,d,c⟩:=Array.any_eq_true'.1 a;simp only[L8]at c;exact Closed.reach h n e.on i c.2 (h j o b hl e d c.1)
structure MonoAt (R:Nat->Value->World->Prop) (cons:Nat->Option Nat) (WI:World->Prop) (init:List Value) (L:Array Bool) (us:List Value) (W:World):Prop where
 len:us.length=init.length
 fact:∀j,L.getD j false=true->(∀c,cons j=some c->L.getD c false=false)->R j (us.getD j undef) W
 old:∀j,L.getD j false=false->us.getD j undef=init.getD j undef
 wi:WI W
def BD(ops:Array Oper)(cons:Nat->Option Nat)(n i j:Nat):Bool:=
 match cons j with
 |none=>true
 |some c=>reach ops n c i
structure Given (ops:Array Oper) (dsts:List (Option Nat)) (t:Array Value) (R:Nat->Value->World->Prop) (cons:Nat->Option Nat) (WI:World->Prop) (i:Nat) (T:Nat->Value) (W:World):Prop where
 keep:∀s,dsts.contains (some s)=false->T s=t.getD s undef
 fact:∀n j s,(j !=i&&reach ops n i j&&BD ops cons n i j&&dsts[j]? ==some (some s))=true->R j (T s) W
 old:∀n j s,(reach ops n j i&&dsts[j]? ==some (some s))=true->T s=t.getD s undef
 wi:WI W
def oH(ops:Array Oper)(dsts:List (Option Nat))(R:Nat->Value->World->Prop)(cons:Nat->Option Nat)(i:Nat):Option (Nat×Bool)->Prop
 |none=>True
 |some (j,b)=>∃n s,(j !=i&&reach ops n i j&&cons j==none&&dsts[j]? ==some (some s))=true/\∀v W,R j v W->v=.bool b
def Steps(P:Program)(ops:Array Oper)(dsts:List (Option Nat))(t:Array Value)(R:Nat->Value->World->Prop)(cons:Nat->Option Nat)(WI:World->Prop)(Ext:Nat->World->World->Prop):Nat->List Oper->Prop
 |_,[]=>True
 |i,o::l=>(oH ops dsts R cons i o.guard/\∀(T:Nat->Value) (W:World),Given ops dsts t R cons WI i T W->OpRuns P o T W fun v W'=>R i v W'/\Ext i W W')/\Steps P ops dsts t R cons WI Ext (i+1) l
theorem Steps.at{P:Program}{ops:Array Oper}{a:List (Option Nat)}{t:Array Value}{R:Nat->Value->World->Prop}{cons:Nat->Option Nat}{c:World->Prop}{b:Nat->World->World->Prop}:∀(l:List Oper) (n:Nat),Steps P ops a t R cons c b n l->∀(k:Nat) (o:Oper),l[k]? =some o->
  oH ops a R cons (n+k) o.guard/\∀(T:Nat->Value) (W:World),Given ops a t R cons c (n+k) T W->OpRuns P o T W fun v W'=>R (n+k) v W'/\b (n+k) W W'
 |[],_,_,k,o,h=>by simp at h
 |x::l,n,hs,0,o,h=>by
  simp only[MV,MK]at h;subst h;exact hs.1
 |x::l,n,hs,k+1,o,h=>by
  have:=Steps.at l (n+1) hs.2 k o (by simpa using h);rw[show n+1+k=n+(k+1) by omega]at this;exact this
theorem rR{P:Program}{id:Nat}{ops:Array Oper}{Q:Exit->Act->World->Prop}{a:Act}{w:World}(d:List (Option Nat))(R:Nat->Value->World->Prop)(cons:Nat->Option Nat)(y:World->Prop)(z:Nat->World->World->Prop)
  (hm:P.follows .mixedOrders=true) (S:e8 ops=true) (K:ops.toList.map (·.dst)=d) (t:b4 a.tmps.size d=true)
  (C:∀i W W',y W->z i W W'->y W') (A:∀i j v W W',cons j≠some i->y W->R j v W->z i W W'->R j v W') (h0:y w.drew)
  (B:Steps P ops d a.tmps R cons y z 0 ops.toList)
  (H:∀(us:List Value) (W:World),us.length=d.length->(∀j,j<ops.size->cons j=none->R j (us.getD j undef) W)->y W->Q .normal ⟨cj a.tmps (d.zip us),a.defers⟩ W):(Code.region id ops true).wp P Q a w:=by
 have a4:d.length=ops.size:=by rw[<-K];simp
 refine fJ (fun L U W=>∃us,U=⟨cj a.tmps (d.zip us),a.defers⟩/\L.size=ops.size/\Closed ops L/\MonoAt R cons y (gC a.tmps d) L us W) hm S ⟨gC a.tmps d,?_,by simp,gi ops,⟨Z,fun j k=>absurd k j9,fun _ _=>rfl,h0⟩⟩ ?_ ?_
 ·rw[iB]
 ·rintro L U W i o N h2 I h4 ⟨us,rfl,_,X,m⟩;have hi:i<ops.size:=(MD.1 I).1;have O:d[i]? =some o.dst:=by
   rw[<-K,MN];simp only[Nj,I,Nq]
  have h:us.length=d.length:=by rw[m.len,dK]
  have F:L.getD i false=false:=getD_both h2;have E:∀n j,j≠i->reach ops n i j=true->L.getD j false=true:=fun n j k x=>by
   have q:=X.step I h4;have:=q.reach n i j x (dX (by omega));rwa[cl (fun e=>k e.symm)]at this
  have J:∀n j,reach ops n j i=true->L.getD j false=false:=fun n j x=>by
   cases hl:L.getD j false with
   |false=>rfl
   |true=>
    have:=X.reach n j i x hl;rw[F]at this;cases this
  have G:Given ops d a.tmps R cons y i (fun s=>(cj a.tmps (d.zip us)).getD s undef) W:=by
   refine⟨fun s f=>ez d us _ s f,fun n j s f=>?_,fun n j s f=>?_,m.wi⟩
   ·simp only[L8,bne_iff_ne,beq_iff_eq]at f;obtain⟨⟨⟨k,x⟩,u⟩,f⟩:=f;show R j ((cj a.tmps (d.zip us)).getD s undef) W
    rw[(co d us _ j s t h f).1];refine m.fact j (E n j k x) fun c g=>?_
    rw[BD,g]at u;exact J n c u
   simp only[L8,beq_iff_eq]at f;obtain⟨x,f⟩:=f;show(cj a.tmps (d.zip us)).getD s undef=_
   rw[(co d us _ j s t h f).1,m.old j (J n j x),jD _ _ _ _ f]
  have hS:=Steps.at ops.toList 0 B i o (by simpa using I);rw[MT]at hS;obtain⟨hg,r⟩:=hS;have r:=r _ W G;have hw:Region.wanted o (yielded ops (cj a.tmps (d.zip us)))=true:=by
   unfold Region.wanted;cases a0:o.guard with
   |none=>rfl
   |some p=>
    obtain⟨j,b⟩:=p;rw[a0]at hg;obtain⟨n,s,f,V⟩:=hg;simp only[L8,bne_iff_ne,beq_iff_eq]at f;obtain⟨⟨⟨k,x⟩,u⟩,f⟩:=f;have M:=V _ _ (m.fact j (E n j k x) fun c g=>by rw[u]at g;cases g);rw[<-(co d us _ j s t h f).1]at M;have Y:=(co d us a.tmps j s t h f).2;have T:(ops[j]?).bind (·.dst)=some s:=by
     rw[<-K,MN,Nj]at f;cases ho:ops[j]? with
     |none=>simp[ho]at f
     |some oj=>simpa[ho]using f
    have:(cj a.tmps (d.zip us))[s]? =some (.bool b):=by
     have hz:s<(cj a.tmps (d.zip us)).size:=by rw[fb];exact Y
     simp only[MO,MC hz,MG]at M;rw[MC hz,M]
    simp only[yielded,T,M9,this];cases b<;>rfl
  simp only[wpList];rw[if_pos hw];refine .inl<|Oper.wp_mono ?_ r.wp;rintro a3 a2 ⟨v,e,V,hE⟩;refine⟨us.set i v,?_,by simpa using N,X.step I h4,⟨by simpa using m.len,fun j k g=>?_,fun j k=>?_,C _ _ _ m.wi hE⟩⟩
  ·rw[e];exact iX d us _ _ i _ v t h O
  ·by_cases l:i=j
   ·subst l;have:(us.set i v).getD i undef=v:=by simp[List.getD,show i<us.length by omega]
    rw[this];exact V
   rw[cl l]at k;have:(us.set i v).getD j undef=us.getD j undef:=by simp[List.getD,l]
   rw[this];refine A i j _ _ _ (fun e=>?_) m.wi (m.fact j k fun c q=>?_) hE
   ·have:=g i e;rw[dX (by omega)]at this;cases this
   have:=g c q;by_cases D:i=c
   ·subst D;exact F
   rwa[cl D]at this
  by_cases l:i=j
  ·subst l;rw[dX (by omega)]at k;cases k
  rw[cl l]at k;have:(us.set i v).getD j undef=us.getD j undef:=by simp[List.getD,l]
  rw[this];exact m.old j k
 rintro L U W N ⟨us,rfl,a1,_,m⟩;refine H us W (by rw[m.len,dK]) (fun j k g=>m.fact j (N j k) fun c q=>by rw[g]at q;cases q) m.wi
end Go.Proofs.YtfoejfohbkmmeaaGreatDoor
namespace Go.Proofs.YtfoejfohbkmmeaaGreatDoor
open Go.RowKit
def eL(F:List (Value->World->Prop))(j:Nat):Value->World->Prop:=F.getD j fun _ _=>True
inductive Stab (w:World):List (Value->World->Prop)->Prop
 |nil:Stab w []
 |cons {f:Value->World->Prop} {l:List (Value->World->Prop)} (h:∀v W W',Below w.heap.size w W->f v W->Below W.heap.size W W'->f v W') (hs:Stab w l):Stab w (f::l)
theorem Stab.eq{w:World}{x:Value}{l:List (Value->World->Prop)}(a:Stab w l):Stab w ((fun v _=>v=x)::l):=.cons (fun _ _ _ _ h _=>h) a
theorem Stab.get{w:World}{l:List (Value->World->Prop)}(h:Stab w l):∀j v W W',Below w.heap.size w W->eL l j v W->Below W.heap.size W W'->eL l j v W':=by
 induction h with
 |nil=>intro j v W W' _ _ _;simp[eL]
 |cons h hs ih=>
  intro j v W W' a c b;cases j with
  |zero=>exact h v W W' a c b
  |succ j=>exact ih j v W W' a c b
theorem Steps.nil{P:Program}{ops:Array Oper}{a:List (Option Nat)}{t:Array Value}{R:Nat->Value->World->Prop}{cons:Nat->Option Nat}{c:World->Prop}{b:Nat->World->World->Prop}{i:Nat}:Steps P ops a t R cons c b i []:=trivial
theorem Steps.cons{P:Program}{ops:Array Oper}{a:List (Option Nat)}{t:Array Value}{R:Nat->Value->World->Prop}{cons:Nat->Option Nat}{c:World->Prop}{b:Nat->World->World->Prop}{i:Nat}{o:Oper}{l:List Oper}
  (e:oH ops a R cons i o.guard) (h:∀(T:Nat->Value) (W:World),Given ops a t R cons c i T W->OpRuns P o T W fun v W'=>R i v W'/\b i W W') (d:Steps P ops a t R cons c b (i+1) l):Steps P ops a t R cons c b i (o::l):=⟨⟨e,h⟩,d⟩
theorem jh{P:Program}{id:Nat}{l:List Oper}{Q:Exit->Act->World->Prop}{a:Act}{w:World}(b:List (Option Nat))(F:List (Value->World->Prop))
  (m:P.follows .mixedOrders=true) (i:e8 l.toArray=true) (k:l.map (·.dst)=b) (g:b4 a.tmps.size b=true) (h:Stab w F)
  (c:Steps P l.toArray b a.tmps (eL F) (fun _=>none) (Below w.heap.size w) (fun _ W W'=>Below W.heap.size W W') 0 l)
  (d:∀(us:List Value) (W:World),us.length=b.length->(∀j,j<l.length->eL F j (us.getD j undef) W)->Below w.heap.size w W->Q .normal ⟨cj a.tmps (b.zip us),a.defers⟩ W):(Code.region id l.toArray true).wp P Q a w:=
 rR b (eL F) (fun _=>none) (Below w.heap.size w) (fun _ W W'=>Below W.heap.size W W') m i (by simpa using k) g
  (fun _ W W' e f=>e.trans (f.mono e.size)) (fun _ j v W W' _ n q p=>h.get j v W W' n q p) (Below.refl _ _).drew c
  (fun us W e f o=>d us W e (fun j r=>f j (by simpa using r) Z) o)
theorem dL{n:Nat}{us:List Value}(h:us.length=n+1):∃y l,us=y::l/\l.length=n:=by
 cases us with
 |nil=>simp at h
 |cons y l=>exact⟨y,l,Z,by simpa using h⟩
theorem vN{us:List Value}(h:us.length=0):us=[]:=Mr h
end Go.Proofs.YtfoejfohbkmmeaaGreatDoor
