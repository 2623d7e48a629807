import Derived.Test.YtpinhcdcnaaihaaGreatDoorA00
import Derived.Maps.AppendAt
import Derived.Lib.AppendStr
import Derived.OwnWalk
import Derived.Deep.Slices
import Derived.Orders
import Derived.StillTail
import Derived.Tactics
namespace Go.Proofs.YtpinhcdcnaaihaaGreatDoor
open Go.RowKit
theorem blk1 (w : World) (t : TypeId) (cs : Array Value) :
    ∃ W, w.alloc (.cells cs t) = W ∧ Below w.heap.size w W ∧ IsBlk W w.heap.size t cs ∧ W.heap.size = w.heap.size + 1 :=
  ⟨_, rfl, (Below.refl _ _).alloc (Nat.le_refl _) _, IsBlk.made _ _ _, by simp⟩
theorem blk2 (w : World) (t u : TypeId) (cs ds : Array Value) :
    ∃ W, (w.alloc (.cells cs t)).alloc (.cells ds u) = W ∧ Below w.heap.size w W ∧ IsBlk W w.heap.size t cs ∧ IsBlk W (w.heap.size + 1) u ds ∧ W.heap.size = w.heap.size + 2 := by
  refine ⟨_, rfl, ((Below.refl _ _).alloc (Nat.le_refl _) _).alloc (by simp) _, (IsBlk.made _ _ _).alloc _, ?_, by simp⟩
  have := IsBlk.made (w.alloc (.cells cs t)) u ds
  simpa using this
theorem below_then {B : Nat} {w W W' : World} (h : Below B w W) (h' : Below W.heap.size W W') (hB : B ≤ W.heap.size) : Below B w W' := h.trans (h'.mono hB)
end Go.Proofs.YtpinhcdcnaaihaaGreatDoor
namespace Go.Proofs.YtpinhcdcnaaihaaGreatDoor
open Go.RowKit
def At (w : World) (B : Nat) (A : Option Addr) (xs : List Value) : Prop :=
  0 < xs.length → ∃ b off, A = some ⟨b, off, none⟩ ∧ b < B ∧ ∀ (j : Nat) u, xs[j]? = some u → w.cell? ⟨b, off + j, none⟩ = some u
theorem At.keep {w w' : World} {B : Nat} {A : Option Addr} {xs : List Value} (h : At w B A xs) (hk : ∀ p : Addr, p.block < B → w'.cell? p = w.cell? p) : At w' B A xs := by grind [At]
theorem At.below {w w' : World} {B : Nat} {A : Option Addr} {xs : List Value} (h : At w B A xs) (hb : Below B w w') : At w' B A xs := h.keep fun _ hp => hb.cell hp
theorem At.more {w : World} {B B' : Nat} {A : Option Addr} {xs : List Value} (h : At w B A xs) (hB : B ≤ B') : At w B' A xs := by grind [At]
theorem At.nil (w : World) (B : Nat) (A : Option Addr) : At w B A [] := fun h => absurd h (by simp)
theorem At.of_own {w : World} {base : Nat} {e : TypeId} {size n c : Nat} {A : Option Addr} {xs : List Value} (h : w.ownsRow base e size (.slice A n c) n xs) : At w w.heap.size A xs := fun hp => by
  rcases h.2 with ⟨hv, hn⟩ | ⟨g, cap, cur, hv, _, hg, _⟩
  · have := h.1; rw [hn] at this; simp at this; subst this; simp at hp
  · injection hv with hA
    subst hA
    refine ⟨g, 0, rfl, (Array.getElem?_eq_some_iff.1 hg).1, fun j u hu => ?_⟩
    have := h.cells (g := g) rfl j u hu
    rwa [show (⟨g, 0, none⟩ : Addr).add j = ⟨g, 0 + j, none⟩ from by unfold Addr.add; split <;> simp_all] at this
structure V where
  t : Int
  n : Int
  s : ByteArray
def cellsB (l : List UInt8) : List Value := l.map fun c => .int .u8 c.toNat
theorem cellsB_length (l : List UInt8) : (cellsB l).length = l.length := by simp [cellsB]
end Go.Proofs.YtpinhcdcnaaihaaGreatDoor
namespace Go.Proofs.YtpinhcdcnaaihaaGreatDoor
open Go.ChangeShapes Go.WideShapes Go.ChangeAt Go.RowKit Go.Joins Go.Deep
section
variable {H : Type} {enc : TypeId × Value → H} {W : World} {b0 base : Nat} {spare : Nat → Bool} {held : Bool}
instance : Inhabited V := ⟨⟨0, 0, ⟨#[]⟩⟩⟩
theorem len_le_of {n : Nat} (h : n ≤ maxLen) : n ≤ 9223372036854775807 := by unfold maxLen at h; omega
theorem cellsByte : Tryz.prog.cellsOf 5 = 1 := by kernel_rfl
end
end Go.Proofs.YtpinhcdcnaaihaaGreatDoor
namespace Go.Proofs.YtpinhcdcnaaihaaGreatDoor
open Go.ChangeShapes Go.WideShapes Go.ChangeAt Go.RowKit Go.Joins Go.Deep
theorem cellsIntZ : Tryz.prog.cellsOf 3 = 1 := by kernel_rfl
def cellsZ (l : List Int) : List Value := l.map fun x => .int .i64 x
end Go.Proofs.YtpinhcdcnaaihaaGreatDoor
namespace Go.Proofs.YtpinhcdcnaaihaaGreatDoor
open Go.ChangeShapes Go.WideShapes Go.ChangeAt Go.RowKit Go.Joins Go.Deep
theorem int_wf {x : Int} (h : (Lit.int .i64 x).wf = true) : -9223372036854775808 ≤ x ∧ x ≤ 9223372036854775807 := by simpa [Lit.wf, IntKind.min, IntKind.max, IntKind.signed, IntKind.bits] using h
set_option maxRecDepth 100000 in
theorem open_intsR {H : Type} {enc : TypeId × Value → H} {W : World} {b0 base : Nat} {spare : Nat → Bool} {held : Bool} {v : Value} {d : DataW H} {p : List MemPlace}
    (hv : Value.okWide Tryz.prog W .any b0 22 v) (h : DataW.Trod enc Tryz.prog W base spare held 22 v d p) :
    ∃ (A : Option Addr) (l : List Int) (c : Nat), v = .slice A l.length c ∧ At W W.heap.size A (cellsZ l) ∧ l.length ≤ c ∧ c ≤ 9223372036854775807 ∧ (A = none → c = 0) ∧ ∀ e ∈ l, -9223372036854775808 ≤ e ∧ e ≤ 9223372036854775807 := by
  obtain ⟨a0, len, cap, rfl⟩ := okWide_slice Tryz.underlying22 hv
  obtain ⟨fuel, hf⟩ := h
  rcases open_ints Tryz.underlying22 Tryz.underlying3 cellsIntZ hf with ⟨hcs, _⟩ | ⟨a, len', cap', zs, hcs, _, hl, hm, hz, _, hcell, hwz⟩
  · simp [Value.cells] at hcs
    obtain ⟨rfl, rfl, rfl⟩ := hcs
    exact ⟨none, [], 0, rfl, At.nil _ _ _, by simp, by simp, fun _ => rfl, fun e he => by cases he⟩
  · simp [Value.cells] at hcs
    obtain ⟨rfl, rfl, rfl⟩ := hcs
    have hlz : len ≤ zs.length := by rw [hz]; split <;> omega
    have e : (zs.take len).length = len := by simp; omega
    have e' : (cellsZ (zs.take len)).length = len := by unfold cellsZ; rw [List.length_map, e]
    refine ⟨some a, zs.take len, cap, by rw [e], fun hp => ?_, by rw [e]; exact hl, len_le_of hm, (fun e => by cases e), fun e he => int_wf (hwz e (List.mem_of_mem_take he))⟩
    rw [e'] at hp
    have h0 := hcell 0 (by omega)
    have hs : a.spot = none := by
      have := World.cell?_spot h0
      simpa [Addr.add] using this
    refine ⟨a.block, a.off, by cases a; simp_all, ?_, fun j u hu => ?_⟩
    · have := World.block_lt_of_cell? _ _ h0
      simpa [block_add] using this
    · have hj : j < len := by
        have := (List.getElem?_eq_some_iff.1 hu).1
        rwa [e'] at this
      have hc := hcell j (by omega)
      have ha : a.add j = ⟨a.block, a.off + j, none⟩ := by
        obtain ⟨b, o, sp⟩ := a
        simp only at hs
        subst hs
        exact add_plain b o j
      rw [ha] at hc
      rw [hc, ← hu]
      have hjz : j < zs.length := by omega
      simp only [cellsZ, List.getElem?_map, List.getElem?_take, hj, if_true, List.getElem?_eq_getElem hjz, Option.map_some, List.getD, Option.getD_some]
end Go.Proofs.YtpinhcdcnaaihaaGreatDoor
namespace Go.Proofs.YtpinhcdcnaaihaaGreatDoor
def Waited (listed : Array Bool) (o : Oper) : Prop := ∀ e ∈ o.after, Region.binds .any e = true → listed.getD e.on false = true
theorem wp_then {P : Program} {o : Oper} {a : Act} {w : World} {K : Act → World → Prop} {Q : Exit → Act → World → Prop} (h : o.wp P a w K (Exit.then K Q)) : o.wp P a w K Q := by
  unfold Oper.wp at *
  generalize (execOp a.eval o).run P w = r at *
  cases r with
  | ok n w' =>
    cases n <;> simp only [Oper.upon] at h ⊢ <;>
      first
        | exact h
        | exact Calls.mono h (fun e w'' he => by cases e <;> exact he)
  | halt x w' => cases x <;> simp only [Oper.upon] at h ⊢ <;> exact h
theorem wpOp_of_list {P : Program} {ops : Array Oper} {i : Nat} {o : Oper} {a : Act} {w : World} {K : Act → World → Prop} {Q : Exit → Act → World → Prop} (ho : ops[i]? = some o)
    (h : wpList P ops (Exit.then K Q) [o] a w) : wpOp P ops Q i K a w := by
  unfold wpOp
  simp only [ho]
  simp only [wpList] at h
  split
  · rename_i hw
    rw [if_pos hw] at h
    rcases h with h | h
    · exact .inl (wp_then h)
    · exact .inr h
  · rename_i hw
    rw [if_neg hw] at h
    exact h
def unlisted (listed : Array Bool) : Nat := listed.toList.count false
theorem unlisted_set {listed : Array Bool} {i : Nat} (h : listed.getD i true = false) : unlisted (listed.setIfInBounds i true) + 1 = unlisted listed := by
  have hi : i < listed.size := by
    rcases Nat.lt_or_ge i listed.size with h' | h'
    · exact h'
    · simp [Array.getElem?_eq_none h'] at h
  have hv : listed.toList[i]? = some false := by
    simp [hi] at h ⊢; exact h
  unfold unlisted
  rw [Array.toList_setIfInBounds]
  obtain ⟨l⟩ := listed
  simp only at hv ⊢
  clear h hi
  induction l generalizing i with
  | nil => simp at hv
  | cons b l ih =>
    cases i with
    | zero => simp at hv; subst hv; simp
    | succ i =>
      have := ih (i := i) (by simpa using hv)
      cases b <;> simp [List.set_cons_succ] <;> omega
def acyclic (ops : Array Oper) : Bool := (List.range ops.size).all fun i => ((ops[i]?).map fun o => o.after.all fun e => !Region.binds .any e || decide (e.on < i)).getD true
theorem all_listed {ops : Array Oper} {listed : Array Bool} (hac : acyclic ops = true) (hsz : listed.size = ops.size) (hr : Region.ready .any ops listed = []) : ∀ (k i : Nat), i ≤ k → i < ops.size → listed.getD i false = true := by
  intro k
  induction k with
  | zero =>
    intro i hi hlt
    obtain rfl : i = 0 := by omega
    cases hv : listed.getD 0 true with
    | true => simp [hsz, hlt] at hv ⊢; exact hv
    | false =>
      have hm : (0 : Nat) ∈ Region.ready .any ops listed := mem_ready.2 ⟨hv, ops[0], Array.getElem?_eq_getElem hlt, fun e he hb => by
        have := List.all_eq_true.1 hac 0 (List.mem_range.2 hlt)
        rw [Array.getElem?_eq_getElem hlt] at this
        simp only [Option.map_some, Option.getD_some, Array.all_eq_true_iff_forall_mem, Bool.or_eq_true, decide_eq_true_eq] at this
        have := (this e he).resolve_left (by rw [hb]; decide)
        omega⟩
      rw [hr] at hm; cases hm
  | succ k ih =>
    intro i hi hlt
    cases hv : listed.getD i true with
    | true => simp [hsz, hlt] at hv ⊢; exact hv
    | false =>
      have hm : i ∈ Region.ready .any ops listed := mem_ready.2 ⟨hv, ops[i], Array.getElem?_eq_getElem hlt, fun e he hb => by
        have := List.all_eq_true.1 hac i (List.mem_range.2 hlt)
        rw [Array.getElem?_eq_getElem hlt] at this
        simp only [Option.map_some, Option.getD_some, Array.all_eq_true_iff_forall_mem, Bool.or_eq_true, decide_eq_true_eq] at this
        have := (this e he).resolve_left (by rw [hb]; decide)
        exact ih e.on (by omega) (by omega)⟩
      rw [hr] at hm; cases hm
theorem wpAny_inv {P : Program} {ops : Array Oper} {Q : Exit → Act → World → Prop} (I : Array Bool → Act → World → Prop) (hac : acyclic ops = true)
    (hstep : ∀ (listed : Array Bool) (a : Act) (w : World) (i : Nat) (o : Oper), listed.size = ops.size → listed.getD i true = false → ops[i]? = some o → Waited listed o → I listed a w → wpList P ops (Exit.then (I (listed.setIfInBounds i true)) Q) [o] a w)
    (hend : ∀ (listed : Array Bool) (a : Act) (w : World), (∀ i, i < ops.size → listed.getD i false = true) → I listed a w → Q .normal a w) :
    ∀ (fuel : Nat) (listed : Array Bool) (a : Act) (w : World), listed.size = ops.size → unlisted listed ≤ fuel → I listed a w → wpAny P .any ops Q fuel listed a w := by
  intro fuel
  induction fuel with
  | zero =>
    intro listed a w hsz hf hI
    have hr : Region.ready .any ops listed = [] := by
      cases hr : Region.ready .any ops listed with
      | nil => rfl
      | cons i l =>
        have hm := (mem_ready.1 (show i ∈ Region.ready .any ops listed by rw [hr]; exact List.mem_cons_self ..)).1
        have := unlisted_set hm
        omega
    exact ⟨hr, hend listed a w (fun i hi => all_listed hac hsz hr i i (Nat.le_refl _) hi) hI⟩
  | succ fuel ih =>
    intro listed a w hsz hf hI
    refine ⟨fun hr => hend listed a w (fun i hi => all_listed hac hsz hr i i (Nat.le_refl _) hi) hI, fun i hi => ?_⟩
    obtain ⟨hun, o, ho, hall⟩ := mem_ready.1 hi
    have h1 := wpOp_of_list ho (hstep listed a w i o hsz hun ho hall hI)
    refine wpOp_mono (fun a' w' h' => ih _ a' w' (by simpa using hsz) ?_ h') h1
    have := unlisted_set hun
    omega
theorem wp_region_inv {P : Program} {id : Nat} {ops : Array Oper} {Q : Exit → Act → World → Prop} {a : Act} {w : World} (I : Array Bool → Act → World → Prop) (hm : P.follows .mixedOrders = true) (hac : acyclic ops = true)
    (h0 : I (Array.replicate ops.size false) a w.drew)
    (hstep : ∀ (listed : Array Bool) (a : Act) (w : World) (i : Nat) (o : Oper), listed.size = ops.size → listed.getD i true = false → ops[i]? = some o → Waited listed o → I listed a w → wpList P ops (Exit.then (I (listed.setIfInBounds i true)) Q) [o] a w)
    (hend : ∀ (listed : Array Bool) (a : Act) (w : World), (∀ i, i < ops.size → listed.getD i false = true) → I listed a w → Q .normal a w) : (Code.region id ops true).wp P Q a w :=
  wp_region_any hm (wpAny_inv I hac hstep hend ops.size _ a _ (by simp) (by unfold unlisted; simp) h0)
theorem set_same (t : Array Value) (i : Nat) (d : Value) : t.setIfInBounds i (t.getD i d) = t := by
  rcases Nat.lt_or_ge i t.size with h | h
  · apply Array.ext'
    rw [Array.toList_setIfInBounds]
    apply List.ext_getElem?
    intro j
    rw [List.getElem?_set]
    split
    · rename_i e
      subst e
      simp [h]
    · rfl
  · simp [Array.setIfInBounds, Nat.not_lt.2 h]
theorem on_self {L : Array Bool} {i : Nat} (h : i < L.size) : (L.setIfInBounds i true).getD i false = true := by simp [h]
theorem on_other {L : Array Bool} {i j : Nat} (h : i ≠ j) : (L.setIfInBounds i true).getD j false = L.getD j false := getD_set_ne false h
theorem on_none {n j : Nat} : ¬ (Array.replicate n false).getD j false = true := by
  rcases Nat.lt_or_ge j n with h | h <;> simp [h]
end Go.Proofs.YtpinhcdcnaaihaaGreatDoor
namespace Go.Proofs.YtpinhcdcnaaihaaGreatDoor
def Closed (ops : Array Oper) (L : Array Bool) : Prop := ∀ (j : Nat) (o : Oper), ops[j]? = some o → L.getD j false = true → Waited L o
theorem Closed.start (ops : Array Oper) : Closed ops (Array.replicate ops.size false) := fun _ _ _ h => absurd h on_none
theorem Closed.step {ops : Array Oper} {L : Array Bool} {i : Nat} {o : Oper} (h : Closed ops L) (ho : ops[i]? = some o) (hw : Waited L o) : Closed ops (L.setIfInBounds i true) := by
  intro j oj hj hl
  by_cases hij : i = j
  · subst hij
    obtain rfl : o = oj := Option.some.inj (ho.symm.trans hj)
    exact fun e he hb => getD_set_true (hw e he hb)
  · rw [on_other hij] at hl
    exact fun e he hb => getD_set_true (h j oj hj hl e he hb)
end Go.Proofs.YtpinhcdcnaaihaaGreatDoor
namespace Go.Proofs.YtpinhcdcnaaihaaGreatDoor
def updO (t : Array Value) : List (Option Nat × Value) → Array Value
  | [] => t
  | (some s, v) :: l => updO (t.setIfInBounds s v) l
  | (none, _) :: l => updO t l
def apartL (n : Nat) : List (Option Nat) → Bool
  | [] => true
  | none :: l => apartL n l
  | some s :: l => !l.contains (some s) && decide (s < n) && apartL n l
def initO (t : Array Value) : List (Option Nat) → List Value
  | [] => []
  | some s :: l => t.getD s undef :: initO t l
  | none :: l => undef :: initO t l
theorem initO_length (t : Array Value) : ∀ l, (initO t l).length = l.length
  | [] => rfl
  | some _ :: l => by simp [initO, initO_length t l]
  | none :: l => by simp [initO, initO_length t l]
theorem initO_get (t : Array Value) : ∀ (l : List (Option Nat)) (j s : Nat), l[j]? = some (some s) → (initO t l).getD j undef = t.getD s undef
  | [], j, s, h => by simp at h
  | x :: l, 0, s, h => by
    simp at h
    subst h
    rfl
  | x :: l, j + 1, s, h => by
    have := initO_get t l j s (by simpa using h)
    cases x <;> simpa [initO] using this
theorem updO_init (t : Array Value) : ∀ l : List (Option Nat), updO t (l.zip (initO t l)) = t
  | [] => rfl
  | some s :: l => by simp only [initO, List.zip_cons_cons, updO, set_same]; exact updO_init t l
  | none :: l => by simp only [initO, List.zip_cons_cons, updO]; exact updO_init t l
theorem updO_size : ∀ (l : List (Option Nat × Value)) (t : Array Value), (updO t l).size = t.size
  | [], _ => rfl
  | (some s, v) :: l, t => by simp only [updO, updO_size l]; simp
  | (none, _) :: l, t => by simp only [updO, updO_size l]
theorem set_comm (t : Array Value) (i j : Nat) (u v : Value) (h : i ≠ j) : (t.setIfInBounds i u).setIfInBounds j v = (t.setIfInBounds j v).setIfInBounds i u := by
  apply Array.ext'
  simp only [Array.toList_setIfInBounds]
  exact List.set_comm _ _ h
theorem set_set (t : Array Value) (i : Nat) (u v : Value) : (t.setIfInBounds i u).setIfInBounds i v = t.setIfInBounds i v := by
  apply Array.ext'
  simp
theorem updO_set : ∀ (ds : List (Option Nat)) (us : List Value) (t : Array Value) (s : Nat) (v : Value), ds.contains (some s) = false → (updO t (ds.zip us)).setIfInBounds s v = updO (t.setIfInBounds s v) (ds.zip us)
  | [], _, _, _, _, _ => by simp [updO]
  | _ :: _, [], _, _, _, _ => by simp [updO]
  | none :: ds, u :: us, t, s, v, h => by
    simp only [List.zip_cons_cons, updO]
    exact updO_set ds us t s v (by simpa using h)
  | some d :: ds, u :: us, t, s, v, h => by
    simp only [List.zip_cons_cons, updO]
    simp only [List.contains_cons, Bool.or_eq_false_iff] at h
    have hne : d ≠ s := by
      have := h.1
      intro e
      subst e
      simp at this
    rw [updO_set ds us _ s v h.2, set_comm _ _ _ _ _ hne]
theorem updO_keep : ∀ (ds : List (Option Nat)) (us : List Value) (t : Array Value) (s : Nat), ds.contains (some s) = false → (updO t (ds.zip us)).getD s undef = t.getD s undef
  | [], _, _, _, _ => by simp [updO]
  | _ :: _, [], _, _, _ => by simp [updO]
  | none :: ds, u :: us, t, s, h => by
    simp only [List.zip_cons_cons, updO]
    exact updO_keep ds us t s (by simpa using h)
  | some d :: ds, u :: us, t, s, h => by
    simp only [List.zip_cons_cons, updO]
    simp only [List.contains_cons, Bool.or_eq_false_iff] at h
    have hne : d ≠ s := by
      have := h.1
      intro e
      subst e
      simp at this
    rw [updO_keep ds us _ s h.2]
    simp [hne]
theorem updO_get : ∀ (ds : List (Option Nat)) (us : List Value) (t : Array Value) (j s : Nat), apartL t.size ds = true → us.length = ds.length → ds[j]? = some (some s) → (updO t (ds.zip us)).getD s undef = us.getD j undef ∧ s < t.size
  | [], _, _, j, s, _, _, h => by simp at h
  | x :: ds, [], t, j, s, ha, hl, h => by simp at hl
  | x :: ds, u :: us, t, 0, s, ha, hl, h => by
    simp only [List.getElem?_cons_zero, Option.some.injEq] at h
    subst h
    simp only [apartL, Bool.and_eq_true, Bool.not_eq_true', decide_eq_true_eq] at ha
    simp only [List.zip_cons_cons, updO]
    rw [updO_keep _ _ _ _ ha.1.1]
    exact ⟨by simp [ha.1.2], ha.1.2⟩
  | x :: ds, u :: us, t, j + 1, s, ha, hl, h => by
    have h' : ds[j]? = some (some s) := by simpa using h
    cases x with
    | none =>
      have := updO_get ds us t j s ha (by simpa using hl) h'
      simpa [updO] using this
    | some d =>
      simp only [apartL, Bool.and_eq_true] at ha
      have := updO_get ds us (t.setIfInBounds d u) j s (by simpa using ha.2) (by simpa using hl) h'
      simpa [updO] using this
theorem updO_put : ∀ (ds : List (Option Nat)) (us : List Value) (t : Array Value) (d : List Deferred) (i : Nat) (o : Option Nat) (v : Value), apartL t.size ds = true → us.length = ds.length → ds[i]? = some o →
    (⟨updO t (ds.zip us), d⟩ : Act).put o v = ⟨updO t (ds.zip (us.set i v)), d⟩
  | [], _, _, _, i, o, v, _, _, h => by simp at h
  | x :: ds, [], t, d, i, o, v, ha, hl, h => by simp at hl
  | x :: ds, u :: us, t, d, 0, o, v, ha, hl, h => by
    simp only [List.getElem?_cons_zero, Option.some.injEq] at h
    subst h
    cases x with
    | none => rfl
    | some s =>
      simp only [apartL, Bool.and_eq_true, Bool.not_eq_true'] at ha
      simp only [List.zip_cons_cons, updO, List.set_cons_zero, Act.put]
      rw [updO_set _ _ _ _ _ ha.1.1, set_set]
  | x :: ds, u :: us, t, d, i + 1, o, v, ha, hl, h => by
    have h' : ds[i]? = some o := by simpa using h
    cases x with
    | none =>
      simp only [List.zip_cons_cons, updO, List.set_cons_succ]
      exact updO_put ds us t d i o v ha (by simpa using hl) h'
    | some s =>
      simp only [apartL, Bool.and_eq_true] at ha
      simp only [List.zip_cons_cons, updO, List.set_cons_succ]
      exact updO_put ds us _ d i o v (by simpa using ha.2) (by simpa using hl) h'
def evT (T : Nat → Value) : Operand → Value
  | .tmp s => T s
  | .const v => v
  | .global g => .pointer (some ⟨g, 0, none⟩)
  | .func f => .func (.func f) #[] #[]
theorem evT_act (a : Act) : a.eval = evT fun s => a.tmps.getD s undef := by
  funext x
  cases x <;> rfl
def OpRuns (P : Program) (o : Oper) (T : Nat → Value) (W : World) (K : Value → World → Prop) : Prop :=
  match (execOp (evT T) o).run P W with
  | .ok (.value v) W' => K v W'
  | .ok .skip W' => K undef W'
  | .ok (.enter f args) W' => Calls P f args W' fun e W'' => ∃ v, e = .returned v ∧ K v W''
  | _ => False
theorem OpRuns.of_ok {P : Program} {o : Oper} {T : Nat → Value} {W W' : World} {K : Value → World → Prop} {v : Value} (h : (execOp (evT T) o).run P W = .ok (.value v) W') (hK : K v W') : OpRuns P o T W K := by
  unfold OpRuns; rw [h]; exact hK
theorem OpRuns.of_call {P : Program} {o : Oper} {T : Nat → Value} {W : World} {K : Value → World → Prop} {f : FuncId} {args : Array Value} (h : (execOp (evT T) o).run P W = .ok (.enter f args) W) (hK : Calls P f args W fun e W'' => ∃ v, e = .returned v ∧ K v W'') : OpRuns P o T W K := by
  unfold OpRuns; rw [h]; exact hK
theorem OpRuns.wp {P : Program} {o : Oper} {a : Act} {W : World} {K : Value → World → Prop} {Q : Exit → Act → World → Prop} (h : OpRuns P o (fun s => a.tmps.getD s undef) W K) : o.wp P a W (fun a' W' => ∃ v, a' = a.put o.dst v ∧ K v W') Q := by
  unfold OpRuns at h
  unfold Oper.wp
  rw [evT_act]
  generalize (execOp (evT fun s => a.tmps.getD s undef) o).run P W = r at h
  cases r with
  | ok n w' =>
    cases n <;> simp only [Oper.upon] at h ⊢ <;>
      first
        | exact ⟨_, rfl, h⟩
        | exact Calls.mono h (fun e w'' ⟨v, he, hk⟩ => by subst he; exact ⟨v, rfl, hk⟩)
        | exact h.elim
  | halt x w' => cases x <;> exact h.elim
def reach (ops : Array Oper) : Nat → Nat → Nat → Bool
  | 0, j, i => j == i
  | n + 1, j, i => j == i || ((ops[j]?).map fun o => o.after.any fun e => Region.binds .any e && reach ops n e.on i).getD false
theorem Closed.reach {ops : Array Oper} {L : Array Bool} (h : Closed ops L) : ∀ (n j i : Nat), reach ops n j i = true → L.getD j false = true → L.getD i false = true
  | 0, j, i, hr, hl => by
    simp only [Go.Proofs.YtpinhcdcnaaihaaGreatDoor.reach, beq_iff_eq] at hr
    subst hr; exact hl
  | n + 1, j, i, hr, hl => by
    simp only [Go.Proofs.YtpinhcdcnaaihaaGreatDoor.reach, Bool.or_eq_true, beq_iff_eq] at hr
    rcases hr with rfl | hr
    · exact hl
    · cases ho : ops[j]? with
      | none => simp [ho] at hr
      | some o =>
        simp only [ho, Option.map_some, Option.getD_some] at hr
        obtain ⟨e, he, hb⟩ := Array.any_eq_true'.1 hr
        simp only [Bool.and_eq_true] at hb
        exact Closed.reach h n e.on i hb.2 (h j o ho hl e he hb.1)
structure MonoAt (R : Nat → Value → World → Prop) (cons : Nat → Option Nat) (WI : World → Prop) (init : List Value) (L : Array Bool) (us : List Value) (W : World) : Prop where
  len : us.length = init.length
  fact : ∀ j, L.getD j false = true → (∀ c, cons j = some c → L.getD c false = false) → R j (us.getD j undef) W
  old : ∀ j, L.getD j false = false → us.getD j undef = init.getD j undef
  wi : WI W
def alive (ops : Array Oper) (cons : Nat → Option Nat) (n i j : Nat) : Bool :=
  match cons j with
  | none => true
  | some c => reach ops n c i
structure Given (ops : Array Oper) (dsts : List (Option Nat)) (t : Array Value) (R : Nat → Value → World → Prop) (cons : Nat → Option Nat) (WI : World → Prop) (i : Nat) (T : Nat → Value) (W : World) : Prop where
  keep : ∀ s, dsts.contains (some s) = false → T s = t.getD s undef
  fact : ∀ n j s, (j != i && reach ops n i j && alive ops cons n i j && dsts[j]? == some (some s)) = true → R j (T s) W
  old : ∀ n j s, (reach ops n j i && dsts[j]? == some (some s)) = true → T s = t.getD s undef
  wi : WI W
def GuardOk (ops : Array Oper) (dsts : List (Option Nat)) (R : Nat → Value → World → Prop) (cons : Nat → Option Nat) (i : Nat) : Option (Nat × Bool) → Prop
  | none => True
  | some (j, b) => ∃ n s, (j != i && reach ops n i j && cons j == none && dsts[j]? == some (some s)) = true ∧ ∀ v W, R j v W → v = .bool b
def Steps (P : Program) (ops : Array Oper) (dsts : List (Option Nat)) (t : Array Value) (R : Nat → Value → World → Prop) (cons : Nat → Option Nat) (WI : World → Prop) (Ext : Nat → World → World → Prop) : Nat → List Oper → Prop
  | _, [] => True
  | i, o :: l => (GuardOk ops dsts R cons i o.guard ∧ ∀ (T : Nat → Value) (W : World), Given ops dsts t R cons WI i T W → OpRuns P o T W fun v W' => R i v W' ∧ Ext i W W') ∧ Steps P ops dsts t R cons WI Ext (i + 1) l
theorem Steps.at {P : Program} {ops : Array Oper} {dsts : List (Option Nat)} {t : Array Value} {R : Nat → Value → World → Prop} {cons : Nat → Option Nat} {WI : World → Prop} {Ext : Nat → World → World → Prop} : ∀ (l : List Oper) (n : Nat), Steps P ops dsts t R cons WI Ext n l → ∀ (k : Nat) (o : Oper), l[k]? = some o →
    GuardOk ops dsts R cons (n + k) o.guard ∧ ∀ (T : Nat → Value) (W : World), Given ops dsts t R cons WI (n + k) T W → OpRuns P o T W fun v W' => R (n + k) v W' ∧ Ext (n + k) W W'
  | [], _, _, k, o, h => by simp at h
  | x :: l, n, hs, 0, o, h => by
    simp only [List.getElem?_cons_zero, Option.some.injEq] at h
    subst h
    exact hs.1
  | x :: l, n, hs, k + 1, o, h => by
    have := Steps.at l (n + 1) hs.2 k o (by simpa using h)
    rw [show n + 1 + k = n + (k + 1) by omega] at this
    exact this
theorem wp_region_mono {P : Program} {id : Nat} {ops : Array Oper} {Q : Exit → Act → World → Prop} {a : Act} {w : World} (dsts : List (Option Nat)) (R : Nat → Value → World → Prop) (cons : Nat → Option Nat) (WI : World → Prop) (Ext : Nat → World → World → Prop)
    (hm : P.follows .mixedOrders = true) (hac : acyclic ops = true) (hd : ops.toList.map (·.dst) = dsts) (hap : apartL a.tmps.size dsts = true)
    (hext : ∀ i W W', WI W → Ext i W W' → WI W') (hstab : ∀ i j v W W', cons j ≠ some i → WI W → R j v W → Ext i W W' → R j v W') (h0 : WI w.drew)
    (hstep : Steps P ops dsts a.tmps R cons WI Ext 0 ops.toList)
    (hend : ∀ (us : List Value) (W : World), us.length = dsts.length → (∀ j, j < ops.size → cons j = none → R j (us.getD j undef) W) → WI W → Q .normal ⟨updO a.tmps (dsts.zip us), a.defers⟩ W) : (Code.region id ops true).wp P Q a w := by
  have hsz : dsts.length = ops.size := by rw [← hd]; simp
  refine wp_region_inv (fun L a' W => ∃ us, a' = ⟨updO a.tmps (dsts.zip us), a.defers⟩ ∧ L.size = ops.size ∧ Closed ops L ∧ MonoAt R cons WI (initO a.tmps dsts) L us W) hm hac ⟨initO a.tmps dsts, ?_, by simp, Closed.start ops, ⟨rfl, fun j hj => absurd hj on_none, fun _ _ => rfl, h0⟩⟩ ?_ ?_
  · rw [updO_init]
  · rintro L a' W i o h1 h2 h3 h4 ⟨us, rfl, _, hc, hJ⟩
    have hi : i < ops.size := (Array.getElem?_eq_some_iff.1 h3).1
    have hdi : dsts[i]? = some o.dst := by
      rw [← hd, List.getElem?_map]
      simp only [Array.getElem?_toList, h3, Option.map_some]
    have hlen : us.length = dsts.length := by rw [hJ.len, initO_length]
    have hun : L.getD i false = false := getD_both h2
    have hup : ∀ n j, j ≠ i → reach ops n i j = true → L.getD j false = true := fun n j hj hr => by
      have hc' := hc.step h3 h4
      have := hc'.reach n i j hr (on_self (by omega))
      rwa [on_other (fun e => hj e.symm)] at this
    have hno : ∀ n j, reach ops n j i = true → L.getD j false = false := fun n j hr => by
      cases hl : L.getD j false with
      | false => rfl
      | true =>
        have := hc.reach n j i hr hl
        rw [hun] at this; cases this
    have G : Given ops dsts a.tmps R cons WI i (fun s => (updO a.tmps (dsts.zip us)).getD s undef) W := by
      refine ⟨fun s hs => updO_keep dsts us _ s hs, fun n j s hs => ?_, fun n j s hs => ?_, hJ.wi⟩
      · simp only [Bool.and_eq_true, bne_iff_ne, beq_iff_eq] at hs
        obtain ⟨⟨⟨hj, hr⟩, hal⟩, hs⟩ := hs
        show R j ((updO a.tmps (dsts.zip us)).getD s undef) W
        rw [(updO_get dsts us _ j s hap hlen hs).1]
        refine hJ.fact j (hup n j hj hr) fun c hcj => ?_
        rw [alive, hcj] at hal
        exact hno n c hal
      · simp only [Bool.and_eq_true, beq_iff_eq] at hs
        obtain ⟨hr, hs⟩ := hs
        show (updO a.tmps (dsts.zip us)).getD s undef = _
        rw [(updO_get dsts us _ j s hap hlen hs).1, hJ.old j (hno n j hr), initO_get _ _ _ _ hs]
    have hS := Steps.at ops.toList 0 hstep i o (by simpa using h3)
    rw [Nat.zero_add] at hS
    obtain ⟨hg, hrun⟩ := hS
    have hrun := hrun _ W G
    have hw : Region.wanted o (yielded ops (updO a.tmps (dsts.zip us))) = true := by
      unfold Region.wanted
      cases hgd : o.guard with
      | none => rfl
      | some p =>
        obtain ⟨j, b⟩ := p
        rw [hgd] at hg
        obtain ⟨n, s, hs, hR⟩ := hg
        simp only [Bool.and_eq_true, bne_iff_ne, beq_iff_eq] at hs
        obtain ⟨⟨⟨hj, hr⟩, hal⟩, hs⟩ := hs
        have hv := hR _ _ (hJ.fact j (hup n j hj hr) fun c hcj => by rw [hal] at hcj; cases hcj)
        rw [← (updO_get dsts us _ j s hap hlen hs).1] at hv
        have hlt := (updO_get dsts us a.tmps j s hap hlen hs).2
        have hsj : (ops[j]?).bind (·.dst) = some s := by
          rw [← hd, List.getElem?_map, Array.getElem?_toList] at hs
          cases ho : ops[j]? with
          | none => simp [ho] at hs
          | some oj => simpa [ho] using hs
        have : (updO a.tmps (dsts.zip us))[s]? = some (.bool b) := by
          have hz : s < (updO a.tmps (dsts.zip us)).size := by rw [updO_size]; exact hlt
          simp only [Array.getD_eq_getD_getElem?, Array.getElem?_eq_getElem hz, Option.getD_some] at hv
          rw [Array.getElem?_eq_getElem hz, hv]
        simp only [yielded, hsj, Option.bind_some, this]
        cases b <;> rfl
    simp only [wpList]
    rw [if_pos hw]
    refine .inl ?_
    refine Oper.wp_mono ?_ hrun.wp
    rintro a'' W'' ⟨v, e, hR, hE⟩
    refine ⟨us.set i v, ?_, by simpa using h1, hc.step h3 h4, ⟨by simpa using hJ.len, fun j hj hcj => ?_, fun j hj => ?_, hext _ _ _ hJ.wi hE⟩⟩
    · rw [e]; exact updO_put dsts us _ _ i _ v hap hlen hdi
    · by_cases hij : i = j
      · subst hij
        have : (us.set i v).getD i undef = v := by simp [List.getD, show i < us.length by omega]
        rw [this]; exact hR
      · rw [on_other hij] at hj
        have : (us.set i v).getD j undef = us.getD j undef := by simp [List.getD, hij]
        rw [this]
        refine hstab i j _ _ _ (fun e => ?_) hJ.wi (hJ.fact j hj fun c hc' => ?_) hE
        · have := hcj i e
          rw [on_self (by omega)] at this; cases this
        · have := hcj c hc'
          by_cases hic : i = c
          · subst hic; exact hun
          · rwa [on_other hic] at this
    · by_cases hij : i = j
      · subst hij
        rw [on_self (by omega)] at hj; cases hj
      · rw [on_other hij] at hj
        have : (us.set i v).getD j undef = us.getD j undef := by simp [List.getD, hij]
        rw [this]; exact hJ.old j hj
  · rintro L a' W h1 ⟨us, rfl, hsz', _, hJ⟩
    refine hend us W (by rw [hJ.len, initO_length]) (fun j hj hcj => hJ.fact j (h1 j hj) fun c hc' => by rw [hcj] at hc'; cases hc') hJ.wi
end Go.Proofs.YtpinhcdcnaaihaaGreatDoor
namespace Go.Proofs.YtpinhcdcnaaihaaGreatDoor
open Go.RowKit
def factOf (F : List (Value → World → Prop)) (j : Nat) : Value → World → Prop := F.getD j fun _ _ => True
inductive Stab (w : World) : List (Value → World → Prop) → Prop
  | nil : Stab w []
  | cons {f : Value → World → Prop} {l : List (Value → World → Prop)} (h : ∀ v W W', Below w.heap.size w W → f v W → Below W.heap.size W W' → f v W') (hs : Stab w l) : Stab w (f :: l)
theorem Stab.eq {w : World} {x : Value} {l : List (Value → World → Prop)} (hs : Stab w l) : Stab w ((fun v _ => v = x) :: l) := .cons (fun _ _ _ _ h _ => h) hs
theorem Stab.get {w : World} {l : List (Value → World → Prop)} (h : Stab w l) : ∀ j v W W', Below w.heap.size w W → factOf l j v W → Below W.heap.size W W' → factOf l j v W' := by
  induction h with
  | nil => intro j v W W' _ _ _; simp [factOf]
  | cons h hs ih =>
    intro j v W W' hw hf hb
    cases j with
    | zero => exact h v W W' hw hf hb
    | succ j => exact ih j v W W' hw hf hb
theorem Steps.nil {P : Program} {ops : Array Oper} {dsts : List (Option Nat)} {t : Array Value} {R : Nat → Value → World → Prop} {cons : Nat → Option Nat} {WI : World → Prop} {Ext : Nat → World → World → Prop} {i : Nat} : Steps P ops dsts t R cons WI Ext i [] := trivial
theorem Steps.cons {P : Program} {ops : Array Oper} {dsts : List (Option Nat)} {t : Array Value} {R : Nat → Value → World → Prop} {cons : Nat → Option Nat} {WI : World → Prop} {Ext : Nat → World → World → Prop} {i : Nat} {o : Oper} {l : List Oper}
    (hg : GuardOk ops dsts R cons i o.guard) (h : ∀ (T : Nat → Value) (W : World), Given ops dsts t R cons WI i T W → OpRuns P o T W fun v W' => R i v W' ∧ Ext i W W') (hs : Steps P ops dsts t R cons WI Ext (i + 1) l) : Steps P ops dsts t R cons WI Ext i (o :: l) := ⟨⟨hg, h⟩, hs⟩
theorem wp_region_below {P : Program} {id : Nat} {l : List Oper} {Q : Exit → Act → World → Prop} {a : Act} {w : World} (dsts : List (Option Nat)) (F : List (Value → World → Prop))
    (hm : P.follows .mixedOrders = true) (hac : acyclic l.toArray = true) (hd : l.map (·.dst) = dsts) (hap : apartL a.tmps.size dsts = true) (hst : Stab w F)
    (hstep : Steps P l.toArray dsts a.tmps (factOf F) (fun _ => none) (Below w.heap.size w) (fun _ W W' => Below W.heap.size W W') 0 l)
    (hend : ∀ (us : List Value) (W : World), us.length = dsts.length → (∀ j, j < l.length → factOf F j (us.getD j undef) W) → Below w.heap.size w W → Q .normal ⟨updO a.tmps (dsts.zip us), a.defers⟩ W) : (Code.region id l.toArray true).wp P Q a w :=
  wp_region_mono dsts (factOf F) (fun _ => none) (Below w.heap.size w) (fun _ W W' => Below W.heap.size W W') hm hac (by simpa using hd) hap
    (fun _ W W' h1 h2 => h1.trans (h2.mono h1.size)) (fun _ j v W W' _ hw hR hE => hst.get j v W W' hw hR hE) (Below.refl _ _).drew hstep
    (fun us W h1 h2 h3 => hend us W h1 (fun j hj => h2 j (by simpa using hj) rfl) h3)
theorem len_cons {n : Nat} {us : List Value} (h : us.length = n + 1) : ∃ y l, us = y :: l ∧ l.length = n := by
  cases us with
  | nil => simp at h
  | cons y l => exact ⟨y, l, rfl, by simpa using h⟩
theorem len_nil {us : List Value} (h : us.length = 0) : us = [] := List.eq_nil_of_length_eq_zero h
end Go.Proofs.YtpinhcdcnaaihaaGreatDoor
namespace Go.Proofs.YtpinhcdcnaaihaaGreatDoor
open Go.RowKit
theorem OpRuns.of_skip {P : Program} {o : Oper} {T : Nat → Value} {W W' : World} {K : Value → World → Prop} (h : (execOp (evT T) o).run P W = .ok .skip W') (hK : K undef W') : OpRuns P o T W K := by
  unfold OpRuns; rw [h]; exact hK
end Go.Proofs.YtpinhcdcnaaihaaGreatDoor
