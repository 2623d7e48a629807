import Derived.Test.YtfoejfohbkmmeaaGreatDoorP35
import Derived.Test.YtfoejfohbkmmeaaGreatDoorP00
import Derived.Test.YtfoejfohbkmmeaaGreatDoorP08
import Derived.Test.YtfoejfohbkmmeaaGreatDoorP06
import Derived.Test.YtfoejfohbkmmeaaGreatDoorP29
import Derived.Laws.RangeAny
import Derived.Lib.MapLaws
import Derived.Shelf.Strings.IndexAnyAll
import Derived.Laws.Runes
import Derived.Shelf.Small.Utf8
import Derived.WalkMore
import Derived.BigQuiet
import Derived.Laws.Strings3
set_option maxRecDepth 1000000
set_option maxHeartbeats 8000000
namespace Go.Proofs.YtfoejfohbkmmeaaGreatDoor
open Go.RowKit
theorem yX(k:Nat):∀(u:Nat),u<10^k->0<k->(Lib.decDigits u).length<=k:=by
 induction k with
 |zero=>intro u _ h;exact absurd h (by omega)
 |succ k ih=>
  intro u a _;rw[Lib.decDigits];split
  ·simp
  rename_i h;have c:0<k:=by
   rcases M1 k with rfl|b
   ·simp at a;omega
   exact b
  have:=ih (u/10) (by rw[Nt (by decide)];rw[MH]at a;exact a) c;simp;omega
theorem Gz(n:Int)(b: -9223372036854775808<=n)(c:n<=9223372036854775807):(Lib.itoa n).length<=21:=by
 have a:(10^20:Nat)=100000000000000000000:=by decide
 unfold Lib.itoa;split
 ·have:=yX 20 n.natAbs (by rw[a];omega) (by decide);simp;omega
 have:=yX 20 n.toNat (by rw[a];omega) (by decide);omega
theorem CJ{t n:Int}{b:ByteArray}(a:bF t n b=true)(g: -9223372036854775808<=n)(i:n<=9223372036854775807):1<=(cY t n b).length/\(cY t n b).length<=130:=by
 by_cases d:t=1
 ·subst d;rw[show cY 1 n b=Lib.itoa n by simp[cY,a]];obtain⟨c,r,e,j⟩:=iE n;have:=Gz n g i;rw[e]at this⊢;simp at this⊢;omega
 obtain⟨rfl,rfl,h,_⟩:=go d a;rw[show cY 2 0 b=[39]++gB b.data.toList++[39] by simp[cY,a]];have:=iS b.data.toList;have f:b.data.toList.length=b.size:=by simp
 simp only[Mb,L9,Mg];omega
theorem u9{s:ByteArray}{c:UInt8}{r:List UInt8}(h:s.data.toList=c::r)(a:0<s.size):s[0]=c:=by
 have:s.data.toList[0]'(by rw[h];simp)=c:=by simp only[h];rfl
 exact this
theorem yY(t n:Int)(f s:ByteArray)(w:World)(a:bF t n f=true)(g:s.data.toList=cY t n f)(k: -9223372036854775808<=n)(m:n<=9223372036854775807):
  Calls Tryz.prog 89 #[.string s] w fun e w'=>e=.returned (.tuple #[.agg #[.int .i64 t,.int .i64 n,.string f],.bool true])/\Below w.heap.size w w':=by
 have u:=CJ a k m;have q:s.size=(cY t n f).length:=by rw[<-g];simp
 have d:0<s.size:=by omega
 by_cases l:t=1
 ·subst l;obtain rfl:=fU a;have b:s.data.toList=Lib.itoa n:=by rw[g];simp[cY,a]
  obtain⟨c,r,e,o⟩:=iE n;refine(pK s w n d (by omega) ?_ (by rw[b];exact Ec n k m)).mono ?_
  ·rw[u9 (by rw[b,e]) d];exact fun j=>o (PZ j)
  rintro e w' ⟨i,_,h⟩;exact⟨i g.symm,h⟩
 obtain⟨rfl,rfl,p,_⟩:=go l a;have b:s.data.toList=39::(gB f.data.toList++[39]):=by rw[g];simp[cY,a]
 refine(pJ s f w d (by omega) ?_ (by rw[b];exact CI _)).mono ?_
 ·rw[u9 b d];rfl
 rintro e w' ⟨i,_,h⟩;exact⟨i g.symm,h⟩
theorem wW(s:ByteArray)(w:World)(m:s.size<=4294967280)(h:∀(t n:Int) (b:ByteArray),bF t n b=true-> -9223372036854775808<=n->n<=9223372036854775807->s.data.toList≠cY t n b):
  Calls Tryz.prog 89 #[.string s] w fun e w'=>e=.returned (.tuple #[.agg #[.int .i64 0,.int .i64 0,.string ⟨#[]⟩],.bool false])/\Below w.heap.size w w':=by
 by_cases d:130<s.size\/s.size=0
 ·exact tq s w d (by omega)
 have c:0<s.size:=by omega
 have a:s.data.toList.length=s.size:=by simp
 have key:∀(t n:Int) (b:ByteArray),-9223372036854775808<=n->n<=9223372036854775807->cY t n b≠s.data.toList:=by
  intro t n b k l e;cases j:bF t n b
  ·rw[show cY t n b=[] by simp[cY,j]]at e;rw[<-e]at a;simp at a;omega
  exact h t n b j k l e.symm
 by_cases i:s[0].toNat=39
 ·refine(pJ s ⟨(CH (s.data.toList.drop 1)).toArray⟩ w c (by omega) i (by simp)).mono ?_;rintro e w' ⟨_,g,f⟩;exact⟨g (key _ _ _ (by omega) (by omega)),f⟩
 refine(pK s w (yW s.data.toList) c (by omega) i Z).mono ?_;rintro e w' ⟨_,g,f⟩;exact⟨g (key _ _ _ (oq _).1 (oq _).2),f⟩
def V.fmt(v:V):List UInt8:=cY v.t v.n v.s
def V.rng(v:V):Prop:= -9223372036854775808<=v.n/\v.n<=9223372036854775807
def V.zero:V:=⟨0,0,⟨#[]⟩⟩
def wX(s:ByteArray)(v:V):Prop:=v.ok=true/\v.rng/\s.data.toList=v.fmt
noncomputable def fP (s:ByteArray):Option V:=open Classical in if h:∃v:V,wX s v then some (Classical.choose h)else none
theorem je{s:ByteArray}{v:V}(h:fP s=some v):wX s v:=by
 unfold fP at h;split at h
 ·next h1=>
  injection h with h
  rw[<-h];exact Classical.choose_spec h1
 cases h
theorem mJ{s:ByteArray}(h:fP s=none)(v:V):¬wX s v:=fun a=>by
 unfold fP at h;split at h
 ·cases h
 next h1=>exact h1 ⟨v,a⟩
theorem CK(v:V)(h:v.rng):Ct 46 [v.tree] (.sc (.string ⟨v.fmt.toArray⟩)):=Ct.sc ⟨_,Tryz.func46,Z,Z⟩ fun G w vs c _ a=>by
 obtain⟨u,rfl,b⟩:=dp a;rw[wH b];exact jY v.t v.n v.s w h.1 h.2 c
theorem yZ(s:ByteArray)(v:V)(d:s.size<=4294967280)(h:fP s=some v):Ct 76 [sT s] (.tup [v.tree,iT 0]):=⟨⟨_,Tryz.func76,Z,Z⟩,fun G w vs f _ c=>by
 obtain⟨u,rfl,a⟩:=dp c;cases a;obtain⟨a,b,i⟩:=je h;refine(FB v.t v.n v.s s w d a i b.1 b.2 f).mono ?_;rintro e w' ⟨rfl,g⟩;exact⟨_,Z,.tup [.agg #[.int .i64 v.t,.int .i64 v.n,.string v.s],.int .i64 0] _ (.agg [.int .i64 v.t,.int .i64 v.n,.string v.s] _ (.sc _ (.sc _ (.sc _ .nil))) (.sc _ .nil)) .nil,g⟩⟩
theorem y9(s:ByteArray)(c:s.size<=4294967280)(h:fP s=none):Ct 76 [sT s] (.tup [V.zero.tree,iT 2]):=⟨⟨_,Tryz.func76,Z,Z⟩,fun G w vs f _ b=>by
 obtain⟨u,rfl,a⟩:=dp b;cases a;refine(Dy s w c (fun t n d g i a e=>mJ h ⟨t,n,d⟩ ⟨g,⟨i,a⟩,e⟩) f).mono ?_;rintro e w' ⟨rfl,j⟩;exact⟨_,Z,.tup [.agg #[.int .i64 0,.int .i64 0,.string ⟨#[]⟩],.int .i64 2] _ (.agg [.int .i64 0,.int .i64 0,.string ⟨#[]⟩] _ (.sc _ (.sc _ (.sc _ .nil))) (.sc _ .nil)) .nil,j⟩⟩
def bG(s:ByteArray):Tree:=.sc (.string s)
theorem fM(l:List ByteArray):Sized 1 (l.map bG):=Sized.map _ l fun _=>rfl
def dq(s:ByteArray):List ByteArray:=Lib.splitB ⟨#[10]⟩ 0 (Lib.countB s ⟨#[10]⟩) s
theorem GA(W:World)(G:Nat->Prop):∀l:List ByteArray,PT W G (l.map Value.string) (flat (l.map bG))
 |[]=>.nil
 |_::l=>.sc _ (GA W G l)
theorem GB(s:ByteArray)(o:s.size<=1048576)(l:(dq s).length=Lib.countB s ⟨#[10]⟩+1)(p:Lib.countB s ⟨#[10]⟩<=1048576):Ct 28 [sT s,.sc (.string ⟨#[10]⟩)] (.sl ((dq s).map bG)):=⟨⟨_,Tryz.func28,Z,Z⟩,fun G w vs h d b=>by
 obtain⟨u,x,rfl,n,f⟩:=d5 b;cases n;cases f;obtain⟨m,c⟩:=h.maxLen;refine(Tryz.strings_Split s ⟨#[10]⟩ m w (by omega) c (by decide)).mono ?_;rintro e w' ⟨rfl,rfl⟩;have k:Below w.heap.size w (w.alloc (.cells ((dq s).map Value.string).toArray 9)):=(Below.refl _ _).alloc (L4 _) _;refine⟨_,Z,?_,k⟩;have a:=fp w 9 ((dq s).map Value.string).toArray;rw[<-l];refine .sl _ 0 _ _ ((dq s).map Value.string) _ a.lt (fun i=>?_) (fun j u g=>?_) (by simp) (by simp) (by omega) (GA _ _ _) .nil
 ·have:=(d _ i).1;omega
 rw[MT];exact(a.cell j).trans (by simpa using g)⟩
end Go.Proofs.YtfoejfohbkmmeaaGreatDoor
namespace Go.Proofs.YtfoejfohbkmmeaaGreatDoor
open Go.RowKit Go.Lib
open Lib renaming hid→J
theorem wY(r:Int)(w:World):Calls Tryz.prog 238 #[.int .i32 r] w fun e w'=>e=.returned (.bool (Lib.validRune r))/\w'=w:=Any.utf8_ValidRune (ρ:=Tryz.lays153_ren) {Tryz.lays153 with} r w
theorem wZ(s:ByteArray)(c:Int)(w:World):Calls Tryz.prog 237 #[.string s,.int .u8 c] w fun e w'=>e=.returned (.int .i64 (Lib.indexByte s.data.toList c.toNat.toUInt8))/\w'=w:=Any.strings_IndexByte (ρ:=Tryz.lays153_ren) {Tryz.lays153 with} s c w
theorem Lb{s:ByteArray}(a:∀b∈s.data.toList,b.toNat<128){i:Nat}(h:i<s.size):(s[i]'h).toNat<128:=a _ (L7 (Lib.data_getElem? s i h))
theorem GC(s:ByteArray)(m:s.size=2)(h:∀b∈s.data.toList,b.toNat<128)(w:World):
  Calls Tryz.prog 202 #[.string s,.int .i32 65533] w fun e w'=>e=.returned (.int .i64 (-1))/\Below w.heap.size w w':=by
 go_enter Tryz.func202,Tryz.ntmps202
 go_wp2
 go_loopg [5,6] 2 (fun g _ _ j=>∃i:Nat,i+g=2/\j=w.iter s i)
 case atStart=>exact⟨0,by omega,Z⟩
 case round=>
  obtain⟨i,k,rfl⟩:=hrel;cases gk with
  |zero=>
   obtain rfl:i=2:=by omega
   have c:=fun ty=>run_next_end (P:=Tryz.prog) w s 2 ty (by omega)
   go_wp2
   go_ret
   exact⟨Z,(Below.refl _ _).alloc (L4 _) _⟩
  |succ g=>
   have f:i<s.size:=by omega
   obtain⟨x,d⟩:∃x:UInt8,s[i]'f=x:=⟨_,rfl⟩;have a:x.toNat<128:=by rw[<-d];exact Lb h f
   have c:=fun ty=>run_next_ascii (P:=Tryz.prog) w s i ty f (by rw[d];exact a)
   rw[d]at c;have l:(((x.toNat:Int))==65533)=false:=beq_eq_false_iff_ne.2 (by omega)
   go_wp2
   go_roundg g
   case measure=>omega
   case rel=>exact⟨i+1,by omega,Z⟩
theorem IQ(s:ByteArray)(M:s.size=2)(n:∀b∈s.data.toList,b.toNat<128)(r:Int)(w:World)(z:128<=r)(v:r≠65533)(d:Utf8.valid r=true):
  Calls Tryz.prog 202 #[.string s,.int .i32 r] w fun e w'=>e=.returned (.int .i64 (-1))/\Below w.heap.size w w':=by
 have F:¬r<128:=by omega
 have I:(0:Int)<=r:=by omega
 have S:(r==65533)=false:=beq_eq_false_iff_ne.2 v;obtain⟨J,N,m⟩:=encode_facts r d z;rw[validRune_eq]at d;have h:Lib.validRune r=true:=d;have f:=fun w=>run_convert_int_string (P:=Tryz.prog) w 21 9 .i32 r Z Z
 obtain⟨u,K⟩:∃u,Utf8.encode r=u:=⟨_,rfl⟩;rw[K]at J N m f
 go_enter Tryz.func202,Tryz.ntmps202
 go_wp2_with (fail)
 refine(wY r _).mono ?_;rintro e w' ⟨rfl,t⟩;rw[t,h]
 go_wp2
 go_step3
 go_wp2
 go_loopg [9,10,11,12] 1 (fun g Q j _ _ G=>Q=.int .i64 ((u.size:Int)-1)/\j=.int .i64 0/\G=w)
 case atStart=>exact⟨Z,Z,Z⟩
 case round=>
  obtain⟨rfl,rfl,rfl⟩:=hrel;by_cases l:u.size=2
  ·have k:((u.size:Int)-1)=1:=by omega
   obtain⟨x,p⟩:∃x:UInt8,s[1]'(by omega)=x:=⟨_,rfl⟩;obtain⟨y,O⟩:∃y:UInt8,u[1]'(by omega)=y:=⟨_,rfl⟩;have o:x.toNat<128:=by rw[<-p];exact Lb n (by omega)
   have A:128<=y.toNat:=by
    have:=m (by omega);rw[<-O];have e:u.size-1=1:=by omega
    simpa only[e]using this
   have D:(((x.toNat:Nat):Int)==((y.toNat:Nat):Int))=false:=beq_eq_false_iff_ne.2 (by omega);rw[k]
   go_wp2
   go_step3
   go_wp2
   go_quiet (fail)
   go_wp2
   have E:(s.extract 2 2).data.toList=[]:=by rw[P6];simp
   have B:∀w:World,(Instr.slice 9 (.string s) (some (.int .i64 2)) none none).run Tryz.prog w=.ok (.string (s.extract 2 2)) w:=fun w=>by
    rw[run_slice_string_from_if w 9 s .i64 2 Tryz.underlying9,if_pos ⟨by decide,by omega⟩,M];rfl
   have H:IntKind.i64.wrap 2=2:=by decide
   refine wp_region_quiet_lit (by kernel_rfl) (by kernel_rfl) ?_;repeat (go_big_quiet_step (fail))
   go_big_quiet_want
   go_big_quiet_op
   refine⟨.int .i64 (-1),fun a=>(wZ _ _ _).mono fun e w' ⟨q,l⟩=>⟨q,a,l⟩,?_⟩
   go_big_quiet_on
   repeat (go_big_quiet_step (fail))
   refine wpQuiet_nil ?_;intro _ i;obtain⟨L,c⟩:=i;subst c
   go_wp2
   rw[Exit.noGoto_ret];simp only[Exit.inBlock,Exit.then];rw[Exit.noGoto_ret]
   go_ret
   exact⟨Z,bh (Below.refl _ _)⟩
  have R:decide ((u.size:Int)-1<(s.size:Int))=false:=decide_eq_false (by omega);have C:¬((u.size:Int)-1<(s.size:Int)):=by omega
  go_wp2
  go_ret
  exact⟨Z,Below.refl _ _⟩
theorem GD(s:ByteArray)(c:s.size=2)(a:∀b∈s.data.toList,b.toNat<128)(r:Nat)(w:World)(f:128<=r)(d:Utf8.valid r=true):
  Calls Tryz.prog 202 #[.string s,.int .i32 r] w fun e w'=>e=.returned (.int .i64 (-1))/\Below w.heap.size w w':=by
 by_cases h:r=65533
 ·subst h;exact GC s c a w
 exact IQ s c a r w (by omega) (by omega) d
theorem Ed(s:ByteArray)(a:Nat)(h:a<s.size)(d:128<=(s[a]'h).toNat):Utf8.valid ((Utf8.decode s a).1:Nat)=true/\a+(Utf8.decode s a).2<=s.size/\∀j,j<(Utf8.decode s a).2->128<=(s.get! (a+j)).toNat:=by
 have m:s.get! a=s[a]'h:=get_at s a h;rw[<-m]at d;have p:=(s.get! a).toNat_lt;rw[decode_at,Go.validRune_eq];unfold Go.validRune;rcases decodeN_shape (s.size-a) (s.get! a).toNat (s.get! (a+1)).toNat (s.get! (a+2)).toNat (s.get! (a+3)).toNat with⟨c,e⟩|⟨i,g,k,f,e⟩|⟨i,g,k,l,f,cs,e⟩|⟨i,g,k,l,o,f,n,e⟩|e
 ·omega
 ·rw[e];refine⟨decide_eq_true (by simp only;omega),by simp only;omega,fun j b=>?_⟩;simp only at b;rcases(by omega:j=0\/j=1)with rfl|rfl
  ·exact d
  omega
 ·rw[e];refine⟨decide_eq_true (by simp only;omega),by simp only;omega,fun j b=>?_⟩;simp only at b;rcases(by omega:j=0\/j=1\/j=2)with rfl|rfl|rfl
  ·exact d
  ·omega
  omega
 ·rw[e];refine⟨decide_eq_true (by simp only;omega),by simp only;omega,fun j b=>?_⟩;simp only at b;rcases(by omega:j=0\/j=1\/j=2\/j=3)with rfl|rfl|rfl|rfl
  ·exact d
  ·omega
  ·omega
  omega
 rw[e];refine⟨decide_eq_true (by simp only;omega),by simp only;omega,fun j b=>?_⟩;simp only at b;obtain rfl:j=0:=by omega
 exact d
theorem Bg{s c:ByteArray}{i k:Nat}(h:NoAny s.data.toList c.data.toList i)(o:i+k<=s.size)(g:∀j,j<k->128<=(s.get! (i+j)).toNat)(m:∀b∈c.data.toList,b.toNat<128):NoAny s.data.toList c.data.toList (i+k):=fun j b p e=>by
 by_cases n:j<i
 ·exact h j b n e
 have d:=g (j-i) (by omega);rw[show i+(j-i)=j by omega]at d;have a:s.data.toList[j]? =some (s[j]'(by omega)):=Lib.data_getElem? s j (by omega);have f:s.get! j=s[j]'(by omega):=get_at s j (by omega);rw[e]at a;injection a with a
 rw[f,<-a]at d;rw[<-Bool.not_eq_true];intro l;have:=m b (MM.1 l);omega
def jC(w:World)(k:Nat)(s:ByteArray)(p:Nat):World:={w with heap:=w.heap.setIfInBounds k (.stringIter s p)}
theorem tv{w:World}{k:Nat}{s:ByteArray}{p:Nat}(h:k<w.heap.size):(jC w k s p).heap[k]? =some (.stringIter s p):=by
 unfold jC;rw[O0 h]
theorem kI{w:World}{k:Nat}{s:ByteArray}{p:Nat}:Below k w (jC w k s p):=⟨Z,Z,Z,by simp[jC],fun b a=>by unfold jC;rw[Pt (by omega)]⟩
theorem zb{P:Program}(w:World)(k:Nat)(s:ByteArray)(a:Nat)(ty:TypeId)(h:w.heap[k]? =some (.stringIter s a))(b:a<s.size):
  (Instr.next (.pointer (some ⟨k,0,none⟩)) true ty).run P w=.ok (.tuple #[.bool true,.int .i64 a,.int .i32 ((Utf8.decode s a).1:Nat)]) (jC w k s (a+(Utf8.decode s a).2)):=by
 simp only[Instr.next,getObj,setObj,Sem.run_bind,Sem.run,h,Result.andThen,b,if_true];simp[goInt,jC]
theorem ug{P:Program}(w:World)(k:Nat)(s:ByteArray)(a:Nat)(ty:TypeId)(h:w.heap[k]? =some (.stringIter s a))(b:¬a<s.size):
  (Instr.next (.pointer (some ⟨k,0,none⟩)) true ty).run P w=.ok (.tuple #[.bool false]) w:=by
 simp[Instr.next,getObj,Sem.run,h,b]
theorem Ee(s c:ByteArray)(V:c.size=2)(F:∀b∈c.data.toList,b.toNat<128)(h8:s.size<=8)(w:World):
  Calls Tryz.prog 140 #[.string s,.string c] w fun e w'=>e=.returned (.int .i64 (Lib.indexAny s.data.toList c.data.toList))/\Below w.heap.size w w':=by
 have Q:Aside (∀b∈c.data.toList,b.toNat<128):=F;clear F;have R:c.toList.isEmpty=false:=by
  rw[Lib.toList_data];cases h:c.data.toList with
  |nil=>have:=Lib.size_eq c;rw[h,Mg]at this;omega
  |cons _ _=>rfl
 have W:((c.size:Int)==1)=false:=beq_eq_false_iff_ne.2 (by omega);have L:decide ((8:Int)<(s.size:Int))=false:=decide_eq_false (by omega)
 go_enter Tryz.func140,Tryz.ntmps140
 go_wp2_with (go_at_call 203;refine(Any.strings_shouldUseASCIISet (ρ:=Tryz.lays153_ren) {Tryz.lays153 with} _ _).mono ?_;rintro e w' ⟨rfl,f⟩;rw[f,L])
 go_loopg [9,10] s.size (fun g _ _ U=>∃i:Nat,i+g=s.size/\U.heap[w.heap.size]? =some (.stringIter s i)/\Below w.heap.size w U/\Lib.NoAny s.data.toList c.data.toList i)
 case atStart=>exact⟨0,by omega,World.iter_heap _ _ _,(Below.refl _ _).alloc (L4 _) _,Lib.NoAny.zero _ _⟩
 case round=>
  obtain⟨i,Z,y,G,C⟩:=hrel;have K:Aside (Lib.NoAny s.data.toList c.data.toList i):=C;have J:Aside (Below w.heap.size w wr):=G;have T:Aside (wr.heap[w.heap.size]? =some (.stringIter s i)):=y;have A:w.heap.size<wr.heap.size:=(MD.1 y).1;clear C G y;by_cases o:i<s.size
  ·have p:=fun ty=>zb (P:=Tryz.prog) wr w.heap.size s i ty T.out o
   obtain⟨x,B⟩:∃x:UInt8,s[i]'o=x:=⟨_,rfl⟩;have q:s.data.toList[i]? =some x:=by rw[<-B];exact Lib.data_getElem? s i o
   by_cases z:x.toNat<128
   ·rw[decode_ascii s i o (by rw[B];exact z),B]at p;have S:Aside (s.data.toList[i]? =some x):=q;clear q B;have a:=Lib.contains_iff_indexByte c.data.toList x;have d:((x.toNat:Int)).toNat.toUInt8=x:=by simp
    cases l:c.data.toList.contains x
    ·rw[l]at a;have A:¬((0:Int)<=Lib.indexByte c.data.toList x):=of_decide_eq_false a.symm;clear a
     go_wp2_with (go_at_call 202;refine(Any.strings_IndexRune_ascii (ρ:=Tryz.lays153_ren) {Tryz.lays153 with} _ _ _ (by omega) (by omega)).mono ?_;rintro e w' ⟨rfl,f⟩;rw[f,d])
     go_roundg (s.size-(i+1))
     case measure=>omega
     case rel=>exact⟨i+1,by omega,tv (by omega),J.out.trans kI,K.out.succ S.out l⟩
    rw[l]at a;have Y:(0:Int)<=Lib.indexByte c.data.toList x:=of_decide_eq_true a.symm;clear a
    go_wp2_with (go_at_call 202;refine(Any.strings_IndexRune_ascii (ρ:=Tryz.lays153_ren) {Tryz.lays153 with} _ _ _ (by omega) (by omega)).mono ?_;rintro e w' ⟨rfl,f⟩;rw[f,d])
    go_ret
    exact⟨by rw[Lib.indexAny_hit K.out S.out l];rfl,J.out.trans kI⟩
   have u:128<=(s[i]'o).toNat:=by rw[B];omega
   obtain⟨E,M⟩:=decode_high s i o u;obtain⟨v,D,t⟩:=Ed s i o u;obtain⟨r,O⟩:∃r,(Utf8.decode s i).1=r:=⟨_,rfl⟩;obtain⟨k,N⟩:∃k,(Utf8.decode s i).2=k:=⟨_,rfl⟩;rw[O,N]at p;rw[O]at E v;rw[N]at M D t;have H5:Aside (∀j,j<k->128<=(s.get! (i+j)).toNat):=t;have X:Aside (Utf8.valid (r:Nat)=true):=v;clear v t u B q O N
   go_wp2_with (fail)
   refine(GD c V Q.out r _ E X.out).mono ?_;rintro e w' ⟨rfl,f⟩;have n:w'.heap[w.heap.size]? =some (.stringIter s (i+k)):=by rw[f.block _ (by simpa[jC]using A)];exact tv A
   have m:Below w.heap.size w w':=(J.out.trans kI).trans (f.mono (by simp[jC];omega));have I:Aside (w'.heap[w.heap.size]? =some (.stringIter s (i+k))):=n;have H:Aside (Below w.heap.size w w'):=m;clear n m f
   go_wp2
   go_roundg (s.size-(i+k))
   case measure=>omega
   case rel=>exact⟨i+k,by omega,I.out,H.out,Bg K.out D H5.out Q.out⟩
  obtain rfl:i=s.size:=by omega
  have p:=fun ty=>ug (P:=Tryz.prog) wr w.heap.size s s.size ty T.out o
  go_wp2
  go_ret
  exact⟨by rw[Lib.indexAny_none (by rw[<-Lib.size_eq];exact K.out)];rfl,J.out⟩
theorem w7(s:ByteArray)(h:s.size<=1048576):Ct 140 [sT s,.sc (.string ⟨#[44,58]⟩)] (iT (me s.data.toList)):=Ct.sc ⟨_,Tryz.func140,Z,Z⟩ fun G w vs _ _ d=>by
 obtain⟨u,x,rfl,c,b⟩:=d5 d;cases c;cases b;rw[<-u3];by_cases f:s.size<=8
 ·exact Ee s ⟨#[44,58]⟩ Z (by decide) f w
 have a:(Tryz.prog.info? (Tryz.lays153_ren.t 116)).map (fun i=>(i.zero,i.size))=some (some (.agg (Array.replicate 256 (.bool false))),256):=by kernel_rfl
 refine(Any.strings_IndexAny_long Tryz.lays153 (zero_of_info a).1 (zero_of_info a).2 s ⟨#[44,58]⟩ w (by decide) (by omega) (by omega) (by decide) (Kc (by decide))).mono fun e w' ⟨c,b⟩=>⟨c,?_⟩
 rw[b];exact((Below.refl _ _).alloc (L4 _) _).alloc (by simp) _
end Go.Proofs.YtfoejfohbkmmeaaGreatDoor
namespace Go.Proofs.YtfoejfohbkmmeaaGreatDoor
open Go.RowKit
def lj:List UInt8->Nat->Nat
 |[],i=>i
 |[_],i=>i+1
 |c::d::l,i=>if c.toNat≠39 then lj (d::l) (i+1)else if d.toNat≠39 then i+1 else lj l (i+2)
theorem w8:∀(n:Nat) (l:List UInt8) (i:Nat),l.length<=n->lj l i<=i+l.length
 |_,[],i,_=>by simp[lj]
 |_,[_],i,_=>by simp[lj]
 |0,_::_::_,i,h=>by simp at h
 |n+1,c::d::l,i,h=>by
  simp only[L9]at h;rw[lj];split
  ·have:=w8 n (d::l) (i+1) (by simp only[L9];omega);simp only[L9]at this⊢;omega
  split
  ·simp only[L9];omega
  have:=w8 n l (i+2) (by omega);simp only[L9];omega
def ot(s:ByteArray):Bool:=Lib.hasPrefix s.data.toList [39]
def jl(s:ByteArray):Nat:=if ot s then lj (s.data.toList.drop 1) 1 else if 0<=me s.data.toList then(me s.data.toList).toNat else s.size
theorem tw{s:ByteArray}(h:ot s=true):1<=s.size:=by
 unfold ot at h;rw[aL];cases e:s.data.toList with
 |nil=>rw[e]at h;simp[Lib.hasPrefix]at h
 |cons a l=>simp
theorem GE{l:List UInt8}(h:0<=me l):(me l).toNat<l.length:=by
 unfold me at h⊢;split at h
 ·next h1=>
  rw[if_pos h1];obtain⟨c,a,d⟩:=OF.1 h1;rw[Ou];have f:=(Oc (fun c:UInt8=> !(c==44||c==58)) (l:=l)).length_le;rcases MA (l.takeWhile fun c:UInt8=> !(c==44||c==58)).length l.length with b|b
  ·exact b
  have e:=(Oc (fun c:UInt8=> !(c==44||c==58)) (l:=l)).eq_of_length (by omega);rw[<-e]at a;have:=wT a;rw[d]at this;cases this
 exact absurd h (by decide)
theorem IR(s:ByteArray):jl s<=s.size:=by
 unfold jl;split
 ·next h=>
  have a:=tw h;have:=w8 _ (s.data.toList.drop 1) 1 (L4 _);rw[MQ,<-aL]at this;omega
 split
 ·next h=>have:=GE h;rw[<-aL]at this;omega
 exact L4 _
structure LR where
 vs:List V
 b:Bool
 N:Nat
 D:Nat
 ok:Bool
def LR.tree(x:LR):Tree:=.tup [.agg [.sl (x.vs.map V.tree),.sc (.bool x.b),aH x.N,aH x.D],.sc (.bool x.ok)]
noncomputable def iq:Nat->ByteArray->List V->Option (List V×ByteArray)
 |0,_,_=>none
 |n+1,s,acc=>match fP (s.extract 0 (jl s))with
  |none=>none
  |some v=>if Lib.hasPrefix (s.extract (jl s) s.size).data.toList [44]then iq n ((s.extract (jl s) s.size).extract 1 (s.extract (jl s) s.size).size) (acc++[v])else some (acc++[v],s.extract (jl s) s.size)
noncomputable def bW (s:ByteArray) (cert:Bool):LR:=
 match iq (s.size+1) s []with
 |none=>⟨[],false,0,0,false⟩
 |some (vs,r)=>
  if cert then⟨vs,decide ((1:Rat).num<0),(1:Rat).num.natAbs,(1:Rat).den,r.toList==(⟨#[]⟩:ByteArray).toList⟩
  else if(!Lib.hasPrefix r.data.toList [58])=true then⟨[],false,0,0,false⟩
  else if(cV (r.extract 1 r.size)).2=0 then⟨vs,decide ((cV (r.extract 1 r.size)).1.num<0),(cV (r.extract 1 r.size)).1.num.natAbs,(cV (r.extract 1 r.size)).1.den,true⟩
  else⟨vs,false,0,0,false⟩
theorem CL{x:Rat×Int}(h:x.2=0):uf x=.tup [dt x.1,iT 0]:=by unfold uf;rw[if_pos h,h]
theorem ze{x:Rat×Int}(h:x.2≠0):uf x=.tup [jX false 0 0,iT x.2]:=by unfold uf;rw[if_neg h];rfl
theorem ou{r:ByteArray}{c:UInt8}(h:Lib.hasPrefix r.data.toList [c]=true):1<=r.size:=by
 rw[aL];cases e:r.data.toList with
 |nil=>rw[e]at h;simp[Lib.hasPrefix]at h
 |cons a l=>simp
theorem GF:Ct 78 [iT 1,iT 1] (.tup [dt 1,iT 0]):=by
 have h:=Iw 1 1 (by decide) (by decide) (by decide) (by decide) (by decide);have e:dH ((decide ((1:Int)<0)) !=(decide ((1:Int)<0))) (1:Int).natAbs (1:Int).natAbs=1:=CB 1;rw[e]at h;exact h
theorem w9{s:ByteArray}{i:Nat}(h:i<s.size):lj (s.data.toList.drop i) i=if(bD s i).toNat≠39 then lj (s.data.toList.drop (i+1)) (i+1)else if i+1=s.size then i+1 else if(bD s (i+1)).toNat≠39 then i+1 else lj (s.data.toList.drop (i+2)) (i+2):=by
 have b:i<s.data.toList.length:=by rw[<-aL];exact h
 have e:s.data.toList[i]=bD s i:=by have:=bN h;rw[L3 b]at this;exact MW this
 by_cases c:i+1=s.size
 ·rw[Mc b,e,Md (i:=i+1) (by rw[<-aL];omega),lj,lj,if_pos c];split<;>rfl
 have d:i+1<s.size:=by omega
 have a:i+1<s.data.toList.length:=by rw[<-aL];exact d
 have f:s.data.toList[i+1]=bD s (i+1):=by have:=bN d;rw[L3 a]at this;exact MW this
 rw[Mc b,e,Mc a,f,lj,if_neg c]
theorem GH{s:ByteArray}{i:Nat}(h:i=s.size):lj (s.data.toList.drop i) i=s.size:=by
 subst h;rw[Md (by rw[<-aL];omega)];rfl
theorem Bh:(Tryz.prog.info? 61).map (·.size)=some 1:=by kernel_rfl
theorem IS(s:ByteArray)(v:s.size<=1048576):Ct 75 [sT s] (nI (jl s)):=by
 refine Ct.of (n:=43) Tryz.func75 Z Z Z Z Z fun w0 G0=>?_
 refine ab<|aj 1 Z<|ab<|ab<|ae<|aa 1 Z<|af Z Z Z (ak Z (lW s ⟨#[39]⟩) Z Z)<|af (t:=bT (!(ot s))) Z Z Z (dm Z Z Zy)<|ag<|aF Z (fun f=>?_) (fun f=>?_)
 ·have m:ot s=false:=by simpa using f
  refine ab<|ab<|ae<|aa 1 Z<|af Z Z Z (ak Z (w7 s v) Z Z)<|aa 1 Z<|ag<|ab<|ae<|aa 1 Z<|af (t:=bT (decide ((me s.data.toList)≥0))) Z Z Z (ai Z Z Z Zy)<|ag<|aD Z (fun e=>?_) (fun e=>?_)
  ·refine ab<|aj 2 Z<|aw<|⟨.inr Z,_,.cons Z .nil,d8 (by unfold jl;rw[if_neg (by rw[m];exact MF),if_pos e,Int.toNat_of_nonneg e]),Z⟩
  refine am<|ab<|ae<|aa 1 Z<|af (t:=nI s.size) Z Z Z (cW Z aJ Z)<|aa 1 Z<|ag<|aw<|⟨.inr Z,_,.cons Z .nil,Gw (k:=.i64) (by unfold jl;rw[if_neg (by rw[m];exact MF),if_neg e]),Z⟩
 have m:ot s=true:=by simpa using f
 have q:=tw m;refine am<|ab<|ab<|aj 1 Z<|aB<|aR (fun r u=>∃(i:Nat),(i<=s.size/\lj (s.data.toList.drop i) i=lj (s.data.toList.drop 1) 1)/\r=s.size-i/\u=⟨43,[(0,sT s),(4,nI i)],[],[]⟩) 0 0 ⟨1,⟨q,Z⟩,Z,Z⟩ .rf ?_;rintro r u ⟨i,⟨w,a⟩,rfl,rfl⟩;refine ab<|ab<|ae<|aa 2 Z<|af (t:=nI s.size) Z Z Z (cW Z aJ Z)<|af (t:=bT (decide (i<s.size))) Z Z Z (ah (ai Z Z Z Zy) (ar (gA i s.size)))<|ag<|aD Z (fun o=>?_) (fun o=>?_)
 ·have b:=o;refine am<|ab<|aB<|ab<|ab<|ae<|aa 2 Z<|af (t:=.sc (.int .u8 (((bD s i).toNat:Nat):Int))) Z Z Z (ce Z aJ Z Z Z (bN b))<|af (t:=bT (decide ((bD s i).toNat≠39))) Z Z Z (ah (ai Z Z Z Zy) (ar (tV ((bD s i).toNat) 39)))<|ag<|aD Z (fun c=>?_) (fun c=>?_)
  ·refine aT<|ae<|aa 1 Z<|af (t:=nI (i+1)) Z Z Z (ah (ai Z Z Z Zy) (bi (by omega)))<|aa 1 Z<|ag<|⟨_,_,?_,⟨i+1,?_,Z,Z⟩,.rf⟩
   ·omega
   refine⟨by omega,?_⟩;rw[<-a,w9 b,if_pos c]
  refine am<|ab<|ab<|ae<|aa 1 Z<|af (t:=nI (i+1)) Z Z Z (ah (ai Z Z Z Zy) (bi (by omega)))<|aa 1 Z<|af (t:=nI s.size) Z Z Z (cW Z aJ Z)<|af (t:=bT (decide (i+1=s.size))) Z Z Z (ah (ai Z Z Z Zy) (ar (jF (i+1) s.size)))<|aa 1 Z<|aq (t:=sT s) Z Z Z Z (fun d=>au Z Z)<|aq (t:=nI i) Z Z Z Z (fun d=>au Z Z)<|aq (t:=nI (i+1)) Z Z Z Z (fun d=>ah (ai Z (if_pos d) Z (fun _=>rfl)) (bi (by omega)))<|aq (t:=.sc (.int .u8 (((bD s (i+1)).toNat:Nat):Int))) Z Z Z Z (fun d=>ce Z aJ (if_pos d) (if_pos d) Z (bN (by have:=of_decide_eq_false d;omega)))<|aq (t:=bT (decide ((bD s (i+1)).toNat≠39))) Z Z Z Z (fun d=>ah (ai Z (if_pos d) Z (fun _=>rfl)) (ar (tV ((bD s (i+1)).toNat) 39)))<|af (t:=bT ((decide (i+1=s.size))||(decide ((bD s (i+1)).toNat≠39)))) Z Z Z (aK Z Z (fun p=>(ar (by rw[p];rfl))) (fun p=>(if_pos p).trans (ar (by rw[p];rfl))))<|ag<|aF Z (fun j=>?_) (fun j=>?_)
  ·refine ab<|ae<|aa 1 rfl<|af (t:=nI (i+1)) rfl rfl rfl (ah (ai rfl rfl rfl Zy) (bi (by omega)))<|aa 1 rfl<|ag<|aw<|⟨.inr rfl,_,.cons rfl .nil,Gw (k:=.i64) (by unfold jl;rw[if_pos m,<-a,w9 b,if_neg c];rcases Qk.1 j with h|h;rw[if_pos (of_decide_eq_true h)];rw[if_pos (of_decide_eq_true h)];split<;>rfl),rfl⟩
  obtain⟨g,l⟩:=Mo.1 j;replace g:=of_decide_eq_false g;replace l:=of_decide_eq_false l;refine am<|ae<|aa 1 Z<|af (t:=nI (i+1)) Z Z Z (ah (ai Z Z Z Zy) (bi (by omega)))<|aa 1 Z<|ag<|ae<|aa 1 Z<|af (t:=nI ((i+1)+1)) Z Z Z (ah (ai Z Z Z Zy) (bi (by omega)))<|aa 1 Z<|ag<|⟨_,_,?_,⟨(i+1)+1,?_,Z,Z⟩,.rf⟩
  ·omega
  refine⟨by omega,?_⟩;rw[<-a,w9 b,if_neg c,if_neg g,if_neg l]
 refine aT<|ab<|ae<|aa 1 Z<|af (t:=nI s.size) Z Z Z (cW Z aJ Z)<|aa 1 Z<|ag<|aw<|⟨.inr Z,_,.cons Z .nil,Gw (k:=.i64) (by unfold jl;rw[if_pos m,<-a,GH (by omega)]),Z⟩
theorem IT(s:ByteArray)(cert:Bool)(F:s.size<=1048576):Ct 29 [sT s,bT cert] ((bW s cert).tree):=by
 refine Ct.of (n:=62) Tryz.func29 Z Z Z Z Z fun w0 G0=>?_
 refine ab<|aj 2 Z<|ab<|ae<|wh (cs:=[.sc (.slice none 0 0),bT false,.sc (.slice none 0 0),.sc (.slice none 0 0)]) (b:=1) (bs':=[(67,[.sl [],bT false,.sl [],.sl []]),(67,[.sc (.slice none 0 0),bT false,.sc (.slice none 0 0),.sc (.slice none 0 0)])]) Z Z Z Z fV Z Z Z Z<|ag<|ab<|aB<|kO 1 0 77 3 (bs':=[(67,[.sl [],bT false,.sl [],.sl []]),(67,[.own 0,bT false,.sc (.slice none 0 0),.sc (.slice none 0 0)])]) (rs':=[some ⟨77,3,[],false⟩]) Z Z Z Z<|aR (fun A B=>∃(u:ByteArray) (d:List V) (n:Nat),(u.size<n/\d.length+u.size<=s.size/\iq n u d=iq (s.size+1) s [])/\A=u.size+1/\B=⟨62,[(0,sT u),(1,bT cert),(4,.box 0 0),(6,.box 1 0)],[(67,[.sl [],bT false,.sl [],.sl []]),(67,[.own 0,bT false,.sc (.slice none 0 0),.sc (.slice none 0 0)])],[some ⟨77,3,d.map V.tree,false⟩]⟩) 2 1 ⟨s,[],s.size+1,⟨by omega,by simp,Z⟩,Z,Z⟩ .rf ?_;rintro A B ⟨u,d,n,⟨D,y,a⟩,rfl,rfl⟩;obtain⟨m,rfl⟩:∃m,n=m+1:=⟨n-1,by omega⟩;have E:=IR u;refine aB<|ab<|ae<|aa 1 Z<|af Z Z Z (ak Z (IS u (by omega)) Z Z)<|aa 1 Z<|ag<|ab ?_;rcases j:fP (u.extract 0 (jl u))with _|v
 ·rw[iq,j]at a;dsimp only at a;refine ae<|aa 2 Z<|af (t:=sT (u.extract 0 (jl u))) Z Z Z (cJ (l:=0) (h:=(jl u)) Z aJ Z Z ⟨_,Z⟩ (by omega) (by omega))<|af Z Z Z (ak Z (y9 _ (by simp only[Mn];omega) j) Z Z)<|aa 6 Z<|ag<|ab<|ab<|ae<|aa 1 Z<|af (t:=bT (decide (2≠0))) Z Z Z (ah (ai Z Z Z Zy) (ar (tV 2 0)))<|ag<|aD Z (fun o=>?_) (fun o=>?_)
  ·refine ab<|aj 3 Z<|aw<|⟨.inr Z,_,.cons ⟨_,_,_,_,Z,Z,.inl ⟨_,di,Z,Z⟩⟩ (.cons Z .nil),by unfold bW;rw[<-a];rfl,Z⟩
  exact absurd (by decide) o
 rw[iq,j]at a;dsimp only at a;refine ae<|aa 2 Z<|af (t:=sT (u.extract 0 (jl u))) Z Z Z (cJ (l:=0) (h:=(jl u)) Z aJ Z Z ⟨_,Z⟩ (by omega) (by omega))<|af Z Z Z (ak Z (yZ _ v (by simp only[Mn];omega) j) Z Z)<|aa 6 Z<|ag<|ab<|ab<|ae<|aa 1 Z<|af (t:=bT (decide (0≠0))) Z Z Z (ah (ai Z Z Z Zy) (ar (tV 0 0)))<|ag<|aD Z (fun q=>?_) (fun q=>?_)
 ·exact absurd Z q
 refine am<|ab<|ae<|aa 3 rfl<|af (t:=.sl [.agg [iT v.t,iT v.n,sT v.s]]) rfl rfl rfl (aQ rfl bq fx rfl (by decide) (by decide) rfl rfl rfl rfl rfl)<|cg (bs':=[(67,[.sl [],bT false,.sl [],.sl []]),(67,[.any,bT false,.sc (.slice none 0 0),.sc (.slice none 0 0)]),(77,[iT v.t,iT v.n,sT v.s])]) (rs':=[some ⟨77,3,(d++[v]).map V.tree,false⟩]) rfl rfl rfl rfl gR rfl rfl rfl rfl (by intro e z;simp only[Mi,Nf,or_false]at z;subst z;rfl) (AllC.lit rfl) (AllC.lit rfl) (by simp only[L5,L9,Mg];omega) rfl rfl rfl (by rw[MX];rfl)<|aa 2 rfl<|ag<|ab ?_;obtain⟨r,x⟩:∃r,u.extract (jl u) u.size=r:=⟨_,rfl⟩;have C:r.size=u.size-jl u:=by rw[<-x];simp only[Mn];omega
 rw[x]at a;refine ae<|aa 2 Z<|af (t:=sT r) Z Z Z (ah (cJ (l:=(jl u)) (h:=u.size) Z aJ Z ⟨_,Z⟩ Z (by omega) (by omega)) (gd x))<|aa 1 Z<|ag<|ab<|ab<|ae<|aa 1 Z<|af Z Z Z (ak Z (lW r ⟨#[44]⟩) Z Z)<|af (t:=bT (!(Lib.hasPrefix r.data.toList [44]))) Z Z Z (dm Z Z Zy)<|ag<|aF Z (fun k=>?_) (fun k=>?_)
 ·have i:Lib.hasPrefix r.data.toList [44]=false:=by simpa using k
  rw[if_neg (by rw[i];exact MF)]at a;refine aT<|ab<|ab<|ek 0 (bs':=[(67,[.sl [],bT false,.sl [],.sl []]),(67,[.sl ((d++[v]).map V.tree),bT false,.sc (.slice none 0 0),.sc (.slice none 0 0)]),(77,[iT v.t,iT v.n,sT v.s])]) (rs':=[none]) Z Z Z Z<|aj 1 Z<|aF Z (fun g=>?_) (fun g=>?_)
  ·refine ab<|ae<|af Z Z Z (ak Z GF Z Z)<|aa 5 Z<|ag<|ab<|ae<|aa 2 Z<|af (t:=bT (r.toList==(⟨#[]⟩:ByteArray).toList)) Z Z Z (ah (ai Z Z Z Zy) (ar Z))<|aa 2 Z<|ag<|aw<|⟨.inr Z,_,.cons ⟨_,_,_,_,Z,Z,.inl ⟨_,di,Z,Z⟩⟩ (.cons Z .nil),by unfold bW;rw[<-a];dsimp only;rw[if_pos g];rfl,Z⟩
  refine am<|ab<|ab<|ae<|aa 1 Z<|af Z Z Z (ak Z (lW r ⟨#[58]⟩) Z Z)<|af (t:=bT (!(Lib.hasPrefix r.data.toList [58]))) Z Z Z (dm Z Z Zy)<|ag<|aF Z (fun f=>?_) (fun f=>?_)
  ·refine ab<|aj 3 Z<|aw<|⟨.inr Z,_,.cons ⟨_,_,_,_,Z,Z,.inl ⟨_,di,Z,Z⟩⟩ (.cons Z .nil),by unfold bW;rw[<-a];dsimp only;rw[if_neg (by rw[g];exact MF),if_pos f];rfl,Z⟩
  have w:1<=r.size:=ou (c:=58) (by simpa using f);refine am<|ab ?_;by_cases p:(cV (r.extract 1 r.size)).2=0
  ·refine ae<|aa 1 Z<|af (t:=sT (r.extract 1 r.size)) Z Z Z (cJ (l:=1) (h:=r.size) Z aJ Z ⟨_,Z⟩ Z (by omega) (by omega))<|af (t:=.tup [.agg [bT (decide (((cV (r.extract 1 r.size)).1).num<0)),aH (((cV (r.extract 1 r.size)).1).num.natAbs),aH (((cV (r.extract 1 r.size)).1).den)],iT 0]) Z Z Z (ak Z (by have h:=yU (r.extract 1 r.size) (by simp only[Mn];omega);rw[CL p]at h;exact h) Z Z)<|aa 6 Z<|ag<|ab<|aj 3 Z<|ab<|ae<|aa 2 Z<|af (t:=bT (decide (0=0))) Z Z Z (ah (ai Z Z Z Zy) (ar (jF 0 0)))<|aa 2 Z<|ag<|aw<|⟨.inr Z,_,.cons ⟨_,_,_,_,Z,Z,.inl ⟨_,di,Z,Z⟩⟩ (.cons Z .nil),by unfold bW;rw[<-a];dsimp only;rw[if_neg (by rw[g];exact MF),if_neg (by rw[f];exact MF),if_pos p];rfl,Z⟩
  refine ae<|aa 1 Z<|af (t:=sT (r.extract 1 r.size)) Z Z Z (cJ (l:=1) (h:=r.size) Z aJ Z ⟨_,Z⟩ Z (by omega) (by omega))<|af (t:=.tup [.agg [bT false,aH 0,aH 0],iT ((cV (r.extract 1 r.size)).2)]) Z Z Z (ak Z (by have h:=yU (r.extract 1 r.size) (by simp only[Mn];omega);rw[ze p]at h;exact h) Z Z)<|aa 6 Z<|ag<|ab<|aj 3 Z<|ab<|ae<|aa 2 Z<|af (t:=bT (((cV (r.extract 1 r.size)).2)==0)) Z Z Z (ai Z Z Z Zy)<|aa 2 Z<|ag<|aw<|⟨.inr Z,_,.cons ⟨_,_,_,_,Z,Z,.inl ⟨_,di,Z,Z⟩⟩ (.cons Z .nil),by unfold bW;rw[<-a];dsimp only;rw[if_neg (by rw[g];exact MF),if_neg (by rw[f];exact MF),if_neg p,beq_eq_false_iff_ne.2 p];rfl,Z⟩
 have i:Lib.hasPrefix r.data.toList [44]=true:=by simpa using k
 have w:=ou i;rw[if_pos i]at a;refine am<|ae<|aa 1 Z<|af (t:=sT (r.extract 1 r.size)) Z Z Z (cJ (l:=1) (h:=r.size) Z aJ Z ⟨_,Z⟩ Z (by omega) (by omega))<|aa 1 Z<|ag<|⟨_,_,?_,⟨r.extract 1 r.size,d++[v],m,?_,Z,Z⟩,.rf⟩
 ·simp only[Mn];omega
 refine⟨by simp only[Mn];omega,by simp only[Mn,Mb,L9,Mg];omega,a⟩
end Go.Proofs.YtfoejfohbkmmeaaGreatDoor
