/-
  More small laws on worlds: blocks that a call has just made.
-/
import Derived.Test.YtpjfkhbdhdolfaaDoorBase
namespace Go.Proofs.YtpjfkhbdhdolfaaDoor
open Go.RowKit

theorem blk1 (w : World) (t : TypeId) (cs : Array Value) :
    ∃ W, w.alloc (.cells cs t) = W ∧ Below w.heap.size w W ∧ IsBlk W w.heap.size t cs ∧ W.heap.size = w.heap.size + 1 :=
  ⟨_, rfl, (Below.refl _ _).alloc (Nat.le_refl _) _, IsBlk.made _ _ _, by simp⟩
theorem blk2 (w : World) (t u : TypeId) (cs ds : Array Value) :
    ∃ W, (w.alloc (.cells cs t)).alloc (.cells ds u) = W ∧ Below w.heap.size w W ∧ IsBlk W w.heap.size t cs ∧ IsBlk W (w.heap.size + 1) u ds ∧ W.heap.size = w.heap.size + 2 := by
  refine ⟨_, rfl, ((Below.refl _ _).alloc (Nat.le_refl _) _).alloc (by simp) _, (IsBlk.made _ _ _).alloc _, ?_, by simp⟩
  have := IsBlk.made (w.alloc (.cells cs t)) u ds
  simpa using this
theorem blk3 (w : World) (t u v : TypeId) (cs ds es : Array Value) :
    ∃ W, ((w.alloc (.cells cs t)).alloc (.cells ds u)).alloc (.cells es v) = W ∧ Below w.heap.size w W ∧ IsBlk W w.heap.size t cs ∧ IsBlk W (w.heap.size + 1) u ds ∧ IsBlk W (w.heap.size + 2) v es ∧ W.heap.size = w.heap.size + 3 := by
  obtain ⟨W, hW, hb, h1, h2, hz⟩ := blk2 w t u cs ds
  rw [hW]
  refine ⟨_, rfl, hb.alloc hb.size _, h1.alloc _, h2.alloc _, ?_, by simp [hz]⟩
  have := IsBlk.made W v es
  rwa [hz] at this
/-- A call that came behind: what was there still stands. -/
theorem below_then {B : Nat} {w W W' : World} (h : Below B w W) (h' : Below W.heap.size W W') (hB : B ≤ W.heap.size) : Below B w W' := h.trans (h'.mono hB)
end Go.Proofs.YtpjfkhbdhdolfaaDoor
