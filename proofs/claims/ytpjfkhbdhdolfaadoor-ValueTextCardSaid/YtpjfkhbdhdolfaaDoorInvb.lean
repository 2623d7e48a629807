/-
  The law for a region that draws its order, once more: between any two operations, whatever has come up has all that it waits for behind it ('Closed').
-/
import Derived.Test.YtpjfkhbdhdolfaaDoorInv
import Derived.Test.YtpjfkhbdhdolfaaDoorMem
namespace Go.Proofs.YtpjfkhbdhdolfaaDoor

/-- Whatever has come up has all that it waits for behind it. -/
def Closed (ops : Array Oper) (L : Array Bool) : Prop := ∀ (j : Nat) (o : Oper), ops[j]? = some o → L.getD j false = true → Waited L o
theorem Closed.start (ops : Array Oper) : Closed ops (Array.replicate ops.size false) := fun _ _ _ h => absurd h on_none
theorem Closed.step {ops : Array Oper} {L : Array Bool} {i : Nat} {o : Oper} (h : Closed ops L) (ho : ops[i]? = some o) (hw : Waited L o) : Closed ops (L.setIfInBounds i true) := by
  intro j oj hj hl
  by_cases hij : i = j
  · subst hij
    obtain rfl : o = oj := Option.some.inj (ho.symm.trans hj)
    exact fun e he hb => getD_set_true (hw e he hb)
  · rw [on_other hij] at hl
    exact fun e he hb => getD_set_true (h j oj hj hl e he hb)
theorem Closed.waits {ops : Array Oper} {L : Array Bool} (h : Closed ops L) (j k : Nat) (hj : (match ops[j]? with | some o => o.after.any fun e => Region.binds .any e && e.on == k | none => false) = true) (hl : L.getD j false = true) : L.getD k false = true := by
  cases ho : ops[j]? with
  | none => simp [ho] at hj
  | some o =>
    simp only [ho] at hj
    obtain ⟨e, he, hb⟩ := Array.any_eq_true'.1 hj
    simp only [Bool.and_eq_true, beq_iff_eq] at hb
    rw [← hb.2]
    exact h j o ho hl e he hb.1
theorem wpList_imp {P : Program} {ops : Array Oper} {o : Oper} {a : Act} {w : World} {K K' : Act → World → Prop} {Q : Exit → Act → World → Prop} (hk : ∀ a w, K a w → K' a w) (h : wpList P ops (Exit.then K Q) [o] a w) : wpList P ops (Exit.then K' Q) [o] a w := by
  simp only [wpList] at h ⊢
  split
  · rename_i hw
    rw [if_pos hw] at h
    rcases h with h | h
    · refine .inl ?_
      unfold Oper.wp at *
      generalize (execOp a.eval o).run P w = r at *
      cases r with
      | ok n w' =>
        cases n <;> simp only [Oper.upon] at h ⊢ <;>
          first
            | exact hk _ _ h
            | exact Calls.mono h (fun e w'' he => by cases e <;> first | exact hk _ _ he | exact he)
            | exact Rows.mono h (fun _ _ he => hk _ _ he)
      | halt x w' => cases x <;> simp only [Oper.upon] at h ⊢ <;> exact h
    · exact .inr h
  · rename_i hw
    rw [if_neg hw] at h
    exact hk _ _ h
theorem wp_region_closed {P : Program} {id : Nat} {ops : Array Oper} {Q : Exit → Act → World → Prop} {a : Act} {w : World} (slots : List Nat) (J : Array Bool → List Value → World → Prop) (hm : P.follows .mixedOrders = true) (hac : acyclic ops = true)
    (h0 : J (Array.replicate ops.size false) (slots.map fun s => a.tmps.getD s undef) w.drew)
    (hstep : ∀ (L : Array Bool) (us : List Value) (W : World) (i : Nat) (o : Oper), Closed ops L → L.size = ops.size → L.getD i true = false → ops[i]? = some o → Waited L o → J L us W →
      wpList P ops (Exit.then (SlotPost a.tmps a.defers slots (J (L.setIfInBounds i true))) Q) [o] ⟨upd a.tmps (slots.zip us), a.defers⟩ W)
    (hend : ∀ (L : Array Bool) (us : List Value) (W : World), (∀ i, i < ops.size → L.getD i false = true) → J L us W → Q .normal ⟨upd a.tmps (slots.zip us), a.defers⟩ W) : (Code.region id ops true).wp P Q a w := by
  refine wp_region_inv (fun L a' W => ∃ us, a' = ⟨upd a.tmps (slots.zip us), a.defers⟩ ∧ Closed ops L ∧ J L us W) hm hac ⟨_, ?_, Closed.start ops, h0⟩ ?_ ?_
  · rw [upd_same]
  · rintro L a' W i o h1 h2 h3 h4 ⟨us, rfl, hc, hJ⟩
    have := hstep L us W i o hc h1 h2 h3 h4 hJ
    refine wpList_imp ?_ this
    rintro a'' W'' ⟨us', e, hJ'⟩
    exact ⟨us', e, hc.step h3 h4, hJ'⟩
  · rintro L a' W h1 ⟨us, rfl, _, hJ⟩
    exact hend L us W h1 hJ
theorem At.of_blk1 {w : World} {g : Nat} {t : TypeId} {d : UInt8} {c : Int} (h : IsBlk w g t #[.int .u8 c]) (hc : c = d.toNat) : At w w.heap.size (some ⟨g, 0, none⟩) (cellsB [d]) := fun _ => ⟨g, 0, rfl, h.lt, fun j u hu => by
  rw [Nat.zero_add, h.cell j]
  subst hc
  simpa [cellsB] using hu⟩
end Go.Proofs.YtpjfkhbdhdolfaaDoor
