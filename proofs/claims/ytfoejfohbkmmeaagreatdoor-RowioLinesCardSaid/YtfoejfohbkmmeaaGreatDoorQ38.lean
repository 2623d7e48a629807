import Derived.Test.YtfoejfohbkmmeaaGreatDoorQ37
import Derived.Test.YtfoejfohbkmmeaaGreatDoorQ22
import Derived.StillTailTactics
import Derived.IntWalk
import Derived.Test.YtfoejfohbkmmeaaGreatDoorQ00
import Derived.Test.YtfoejfohbkmmeaaGreatDoorQ36
import Derived.Test.YtfoejfohbkmmeaaGreatDoorQ10
import Derived.Test.YtfoejfohbkmmeaaGreatDoorQ07
namespace Go.Proofs.YtfoejfohbkmmeaaGreatDoor
open Go.RowKit
theorem yy(k:Nat):∀(u:Nat),u<10^k->0<k->(Lib.decDigits u).length<=k:=by
 induction k with
 |zero=>intro u _ h;exact absurd h (by omega)
 |succ k ih=>
  intro u a _;rw[Lib.decDigits];split
  ·simp
  rename_i h;have c:0<k:=by
   rcases M1 k with rfl|b
   ·simp at a;omega
   exact b
  have:=ih (u/10) (by rw[Nz (by decide)];rw[MM]at a;exact a) c;simp;omega
theorem F5(n:Int)(c: -9223372036854775808<=n)(b:n<=9223372036854775807):(Lib.itoa n).length<=21:=by
 have a:(10^20:Nat)=100000000000000000000:=by decide
 unfold Lib.itoa;split
 ·have:=yy 20 n.natAbs (by rw[a];omega) (by decide);simp;omega
 have:=yy 20 n.toNat (by rw[a];omega) (by decide);omega
theorem Ck{t n:Int}{b:ByteArray}(a:be t n b=true)(f: -9223372036854775808<=n)(h:n<=9223372036854775807):1<=(cB t n b).length/\(cB t n b).length<=130:=by
 by_cases d:t=1
 ·subst d;rw[show cB 1 n b=Lib.itoa n by simp[cB,a]];obtain⟨c,r,e,j⟩:=g8 n;have:=F5 n f h;rw[e]at this⊢;simp at this⊢;omega
 obtain⟨rfl,rfl,i,_⟩:=fT d a;rw[show cB 2 0 b=[39]++gG b.data.toList++[39] by simp[cB,a]];have:=iB b.data.toList;have g:b.data.toList.length=b.size:=by simp
 simp only[Mc,Mb,Mo];omega
def V.fmt(v:V):List UInt8:=cB v.t v.n v.s
def V.rng(v:V):Prop:= -9223372036854775808<=v.n/\v.n<=9223372036854775807
def V.zero:V:=⟨0,0,⟨#[]⟩⟩
def wt(s:ByteArray)(v:V):Prop:=v.ok=true/\v.rng/\s.data.toList=v.fmt
noncomputable def jD (s:ByteArray):Option V:=open Classical in if h:∃v:V,wt s v then some (Classical.choose h)else none
theorem qz{s:ByteArray}{v:V}(h:jD s=some v):wt s v:=by
 unfold jD at h;split at h
 ·next h1=>
  injection h with h
  rw[<-h];exact Classical.choose_spec h1
 cases h
theorem qA{s:ByteArray}(h:jD s=none)(v:V):¬wt s v:=fun a=>by
 unfold jD at h;split at h
 ·cases h
 next h1=>exact h1 ⟨v,a⟩
theorem Cl(v:V)(h:v.rng):Ct 46 [v.tree] (.sc (.string ⟨v.fmt.toArray⟩)):=Ct.sc ⟨_,Tryz.func46,Z,Z⟩ fun G w vs b _ a=>by
 obtain⟨u,rfl,c⟩:=cR a;rw[zW c];exact hH v.t v.n v.s w h.1 h.2 b
theorem yA(s:ByteArray)(v:V)(f:s.size<=4294967280)(h:jD s=some v):Ct 76 [sT s] (.tup [v.tree,iT 0]):=⟨⟨_,Tryz.func76,Z,Z⟩,fun G w vs g _ d=>by
 obtain⟨u,rfl,a⟩:=cR d;cases a;obtain⟨a,b,i⟩:=qz h;refine(xG v.t v.n v.s s w f a i b.1 b.2 g).mono ?_;rintro e w' ⟨rfl,c⟩;exact⟨_,Z,.tup [.agg #[.int .i64 v.t,.int .i64 v.n,.string v.s],.int .i64 0] _ (.agg [.int .i64 v.t,.int .i64 v.n,.string v.s] _ (.sc _ (.sc _ (.sc _ .nil))) (.sc _ .nil)) .nil,c⟩⟩
theorem yB(s:ByteArray)(i:s.size<=4294967280)(h:jD s=none):Ct 76 [sT s] (.tup [V.zero.tree,iT 2]):=⟨⟨_,Tryz.func76,Z,Z⟩,fun G w vs j _ g=>by
 obtain⟨u,rfl,a⟩:=cR g;cases a;refine(un s w i (fun t n d f b a e=>qA h ⟨t,n,d⟩ ⟨f,⟨b,a⟩,e⟩) j).mono ?_;rintro e w' ⟨rfl,c⟩;exact⟨_,Z,.tup [.agg #[.int .i64 0,.int .i64 0,.string ⟨#[]⟩],.int .i64 2] _ (.agg [.int .i64 0,.int .i64 0,.string ⟨#[]⟩] _ (.sc _ (.sc _ (.sc _ .nil))) (.sc _ .nil)) .nil,c⟩⟩
def jf(s:ByteArray):Tree:=.sc (.string s)
theorem uS(l:List ByteArray):Sized 1 (l.map jf):=Sized.map _ l fun _=>rfl
def cL(s:ByteArray):List ByteArray:=Lib.splitB ⟨#[10]⟩ 0 (Lib.countB s ⟨#[10]⟩) s
theorem F6(W:World)(G:Nat->Prop):∀l:List ByteArray,PT W G (l.map Value.string) (flat (l.map jf))
 |[]=>.nil
 |_::l=>.sc _ (F6 W G l)
theorem F9(s:ByteArray)(p:s.size<=1048576)(b:(cL s).length=Lib.countB s ⟨#[10]⟩+1)(o:Lib.countB s ⟨#[10]⟩<=1048576):Ct 28 [sT s,.sc (.string ⟨#[10]⟩)] (.sl ((cL s).map jf)):=⟨⟨_,Tryz.func28,Z,Z⟩,fun G w vs l n g=>by
 obtain⟨u,x,rfl,c,h⟩:=eL g;cases c;cases h;obtain⟨m,f⟩:=l.maxLen;refine(Tryz.strings_Split s ⟨#[10]⟩ m w (by omega) f (by decide)).mono ?_;rintro e w' ⟨rfl,rfl⟩;have d:Below w.heap.size w (w.alloc (.cells ((cL s).map Value.string).toArray 9)):=(Below.refl _ _).alloc (L5 _) _;refine⟨_,Z,?_,d⟩;have a:=dP w 9 ((cL s).map Value.string).toArray;rw[<-b];refine .sl _ 0 _ _ ((cL s).map Value.string) _ a.lt (fun k=>?_) (fun j u i=>?_) (by simp) (by simp) (by omega) (F6 _ _ _) .nil
 ·have:=(n _ k).1;omega
 rw[M0];exact(a.cell j).trans (by simpa using i)⟩
end Go.Proofs.YtfoejfohbkmmeaaGreatDoor
