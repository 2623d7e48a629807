/-
  A region that draws its order, by an invariant: if an invariant over 'which operations have come up' is kept by every operation that may come up, in whatever order, it holds behind the region. One obligation for each operation; the orders are not gone through.
-/
import Derived.Orders
import Derived.StillTail
import Derived.Tactics
namespace Go.Proofs.YtpjfkhbdhdolfaaDoor

/-- What an operation asks of the others: those that it waits for have come up. -/
def Waited (listed : Array Bool) (o : Oper) : Prop := ∀ e ∈ o.after, Region.binds .any e = true → listed.getD e.on false = true
theorem wp_then {P : Program} {o : Oper} {a : Act} {w : World} {K : Act → World → Prop} {Q : Exit → Act → World → Prop} (h : o.wp P a w K (Exit.then K Q)) : o.wp P a w K Q := by
  unfold Oper.wp at *
  generalize (execOp a.eval o).run P w = r at *
  cases r with
  | ok n w' =>
    cases n <;> simp only [Oper.upon] at h ⊢ <;>
      first
        | exact h
        | exact Calls.mono h (fun e w'' he => by cases e <;> exact he)
  | halt x w' => cases x <;> simp only [Oper.upon] at h ⊢ <;> exact h
theorem wpOp_of_list {P : Program} {ops : Array Oper} {i : Nat} {o : Oper} {a : Act} {w : World} {K : Act → World → Prop} {Q : Exit → Act → World → Prop} (ho : ops[i]? = some o)
    (h : wpList P ops (Exit.then K Q) [o] a w) : wpOp P ops Q i K a w := by
  unfold wpOp
  simp only [ho]
  simp only [wpList] at h
  split
  · rename_i hw
    rw [if_pos hw] at h
    rcases h with h | h
    · exact .inl (wp_then h)
    · exact .inr h
  · rename_i hw
    rw [if_neg hw] at h
    exact h
def unlisted (listed : Array Bool) : Nat := listed.toList.count false
theorem unlisted_set {listed : Array Bool} {i : Nat} (h : listed.getD i true = false) : unlisted (listed.setIfInBounds i true) + 1 = unlisted listed := by
  have hi : i < listed.size := by
    rcases Nat.lt_or_ge i listed.size with h' | h'
    · exact h'
    · simp [Array.getElem?_eq_none h'] at h
  have hv : listed.toList[i]? = some false := by
    simp [hi] at h ⊢; exact h
  unfold unlisted
  rw [Array.toList_setIfInBounds]
  obtain ⟨l⟩ := listed
  simp only at hv ⊢
  clear h hi
  induction l generalizing i with
  | nil => simp at hv
  | cons b l ih =>
    cases i with
    | zero => simp at hv; subst hv; simp
    | succ i =>
      have := ih (i := i) (by simpa using hv)
      cases b <;> simp [List.set_cons_succ] <;> omega
/-- No operation waits for itself or a later one. -/
def acyclic (ops : Array Oper) : Bool := (List.range ops.size).all fun i => ((ops[i]?).map fun o => o.after.all fun e => !Region.binds .any e || decide (e.on < i)).getD true
theorem all_listed {ops : Array Oper} {listed : Array Bool} (hac : acyclic ops = true) (hsz : listed.size = ops.size) (hr : Region.ready .any ops listed = []) : ∀ (k i : Nat), i ≤ k → i < ops.size → listed.getD i false = true := by
  intro k
  induction k with
  | zero =>
    intro i hi hlt
    obtain rfl : i = 0 := by omega
    cases hv : listed.getD 0 true with
    | true => simp [hsz, hlt] at hv ⊢; exact hv
    | false =>
      have hm : (0 : Nat) ∈ Region.ready .any ops listed := mem_ready.2 ⟨hv, ops[0], Array.getElem?_eq_getElem hlt, fun e he hb => by
        have := List.all_eq_true.1 hac 0 (List.mem_range.2 hlt)
        rw [Array.getElem?_eq_getElem hlt] at this
        simp only [Option.map_some, Option.getD_some, Array.all_eq_true_iff_forall_mem, Bool.or_eq_true, decide_eq_true_eq] at this
        have := (this e he).resolve_left (by rw [hb]; decide)
        omega⟩
      rw [hr] at hm; cases hm
  | succ k ih =>
    intro i hi hlt
    cases hv : listed.getD i true with
    | true => simp [hsz, hlt] at hv ⊢; exact hv
    | false =>
      have hm : i ∈ Region.ready .any ops listed := mem_ready.2 ⟨hv, ops[i], Array.getElem?_eq_getElem hlt, fun e he hb => by
        have := List.all_eq_true.1 hac i (List.mem_range.2 hlt)
        rw [Array.getElem?_eq_getElem hlt] at this
        simp only [Option.map_some, Option.getD_some, Array.all_eq_true_iff_forall_mem, Bool.or_eq_true, decide_eq_true_eq] at this
        have := (this e he).resolve_left (by rw [hb]; decide)
        exact ih e.on (by omega) (by omega)⟩
      rw [hr] at hm; cases hm
theorem wpAny_inv {P : Program} {ops : Array Oper} {Q : Exit → Act → World → Prop} (I : Array Bool → Act → World → Prop) (hac : acyclic ops = true)
    (hstep : ∀ (listed : Array Bool) (a : Act) (w : World) (i : Nat) (o : Oper), listed.size = ops.size → listed.getD i true = false → ops[i]? = some o → Waited listed o → I listed a w → wpList P ops (Exit.then (I (listed.setIfInBounds i true)) Q) [o] a w)
    (hend : ∀ (listed : Array Bool) (a : Act) (w : World), (∀ i, i < ops.size → listed.getD i false = true) → I listed a w → Q .normal a w) :
    ∀ (fuel : Nat) (listed : Array Bool) (a : Act) (w : World), listed.size = ops.size → unlisted listed ≤ fuel → I listed a w → wpAny P .any ops Q fuel listed a w := by
  intro fuel
  induction fuel with
  | zero =>
    intro listed a w hsz hf hI
    have hr : Region.ready .any ops listed = [] := by
      cases hr : Region.ready .any ops listed with
      | nil => rfl
      | cons i l =>
        have hm := (mem_ready.1 (show i ∈ Region.ready .any ops listed by rw [hr]; exact List.mem_cons_self ..)).1
        have := unlisted_set hm
        omega
    exact ⟨hr, hend listed a w (fun i hi => all_listed hac hsz hr i i (Nat.le_refl _) hi) hI⟩
  | succ fuel ih =>
    intro listed a w hsz hf hI
    refine ⟨fun hr => hend listed a w (fun i hi => all_listed hac hsz hr i i (Nat.le_refl _) hi) hI, fun i hi => ?_⟩
    obtain ⟨hun, o, ho, hall⟩ := mem_ready.1 hi
    have h1 := wpOp_of_list ho (hstep listed a w i o hsz hun ho hall hI)
    refine wpOp_mono (fun a' w' h' => ih _ a' w' (by simpa using hsz) ?_ h') h1
    have := unlisted_set hun
    omega
/-- THE LAW. -/
theorem wp_region_inv {P : Program} {id : Nat} {ops : Array Oper} {Q : Exit → Act → World → Prop} {a : Act} {w : World} (I : Array Bool → Act → World → Prop) (hm : P.follows .mixedOrders = true) (hac : acyclic ops = true)
    (h0 : I (Array.replicate ops.size false) a w.drew)
    (hstep : ∀ (listed : Array Bool) (a : Act) (w : World) (i : Nat) (o : Oper), listed.size = ops.size → listed.getD i true = false → ops[i]? = some o → Waited listed o → I listed a w → wpList P ops (Exit.then (I (listed.setIfInBounds i true)) Q) [o] a w)
    (hend : ∀ (listed : Array Bool) (a : Act) (w : World), (∀ i, i < ops.size → listed.getD i false = true) → I listed a w → Q .normal a w) : (Code.region id ops true).wp P Q a w :=
  wp_region_any hm (wpAny_inv I hac hstep hend ops.size _ a _ (by simp) (by unfold unlisted; simp) h0)

/-- The frame with new values in some slots. -/
def upd (t : Array Value) : List (Nat × Value) → Array Value
  | [] => t
  | p :: l => upd (t.setIfInBounds p.1 p.2) l
theorem set_same (t : Array Value) (i : Nat) (d : Value) : t.setIfInBounds i (t.getD i d) = t := by
  rcases Nat.lt_or_ge i t.size with h | h
  · apply Array.ext'
    rw [Array.toList_setIfInBounds]
    apply List.ext_getElem?
    intro j
    rw [List.getElem?_set]
    split
    · rename_i e
      subst e
      simp [h]
    · rfl
  · simp [Array.setIfInBounds, Nat.not_lt.2 h]
theorem upd_same (t : Array Value) (d : Value) : ∀ slots : List Nat, upd t (slots.zip (slots.map fun s => t.getD s d)) = t
  | [] => rfl
  | s :: l => by simp only [List.map_cons, List.zip_cons_cons, upd, set_same]; exact upd_same t d l
/-- Behind an operation: the frame has new values in the region's slots alone, and J holds. -/
def SlotPost (t : Array Value) (d : List Deferred) (slots : List Nat) (J : List Value → World → Prop) (a' : Act) (W' : World) : Prop := ∃ us', a' = ⟨upd t (slots.zip us'), d⟩ ∧ J us' W'
/-- THE LAW, by the slots that the region writes: J says of 'which have come up', of those slots' values and of the world what holds between any two operations. -/
theorem wp_region_slots {P : Program} {id : Nat} {ops : Array Oper} {Q : Exit → Act → World → Prop} {a : Act} {w : World} (slots : List Nat) (J : Array Bool → List Value → World → Prop) (hm : P.follows .mixedOrders = true) (hac : acyclic ops = true)
    (h0 : J (Array.replicate ops.size false) (slots.map fun s => a.tmps.getD s undef) w.drew)
    (hstep : ∀ (L : Array Bool) (us : List Value) (W : World) (i : Nat) (o : Oper), L.size = ops.size → L.getD i true = false → ops[i]? = some o → Waited L o → J L us W →
      wpList P ops (Exit.then (SlotPost a.tmps a.defers slots (J (L.setIfInBounds i true))) Q) [o] ⟨upd a.tmps (slots.zip us), a.defers⟩ W)
    (hend : ∀ (L : Array Bool) (us : List Value) (W : World), (∀ i, i < ops.size → L.getD i false = true) → J L us W → Q .normal ⟨upd a.tmps (slots.zip us), a.defers⟩ W) : (Code.region id ops true).wp P Q a w := by
  refine wp_region_inv (fun L a' W => ∃ us, a' = ⟨upd a.tmps (slots.zip us), a.defers⟩ ∧ J L us W) hm hac ⟨_, ?_, h0⟩ ?_ ?_
  · rw [upd_same]
  · rintro L a' W i o h1 h2 h3 h4 ⟨us, rfl, hJ⟩
    exact hstep L us W i o h1 h2 h3 h4 hJ
  · rintro L a' W h1 ⟨us, rfl, hJ⟩
    exact hend L us W h1 hJ
theorem on_self {L : Array Bool} {i : Nat} (h : i < L.size) : (L.setIfInBounds i true).getD i false = true := by simp [h]
theorem on_other {L : Array Bool} {i j : Nat} (h : i ≠ j) : (L.setIfInBounds i true).getD j false = L.getD j false := getD_set_ne false h
theorem on_none {n j : Nat} : ¬ (Array.replicate n false).getD j false = true := by
  rcases Nat.lt_or_ge j n with h | h <;> simp [h]
end Go.Proofs.YtpjfkhbdhdolfaaDoor
