/-
  Small laws on worlds and calls that all of this seat's walks share: the state of the library's variables (Env) and that it outlives every call; boxed structs.
-/
import Derived.Test.YtpjfkhbdhdolfaaDoorProg
import Derived.WalkKit
import Derived.WalkLawsBesides
import Derived.WalkSpells
import Derived.Outline
import Derived.Lib.Hide
import Derived.Lib.LaidTab
import Derived.Lib.SmallJoins
import Derived.Shelf.Strconv.Itoa4
import Derived.Below
namespace Go.Proofs.YtpjfkhbdhdolfaaDoor
open Go.RowKit

theorem sameL {P : Program} {f : FuncId} {args : Array Value} {w : World} {v : Value} (h : Calls P f args w fun e w' => e = .returned v ∧ w = w') : Calls P f args w fun e w' => e = .returned v ∧ w' = w := h.mono fun _ _ ⟨a, b⟩ => ⟨a, b.symm⟩

/-- What the library's own variables hold, as far as this seat's calls read them. -/
structure Env (w : World) : Prop where
  maxLen : ∃ m, w.cell? ⟨0, 0, none⟩ = some (.int .i64 m)
  pow10 : Lib.TabIs Tryd.prog w "internal/strconv.uint64pow10" .u64 Lib.pow10Tab
  errSyntax : ∃ tp p, w.var? Tryd.prog "strconv.ErrSyntax" = some #[.iface tp p]
  errRange : ∃ tp p, w.var? Tryd.prog "strconv.ErrRange" = some #[.iface tp p]

theorem gMaxLen : Tryd.prog.globalNamed "internal/bytealg.MaxLen" = some 0 := by kernel_rfl
theorem gPow10 : Tryd.prog.globalNamed "internal/strconv.uint64pow10" = some 3 := by kernel_rfl
theorem gErrSyntax : Tryd.prog.globalNamed "strconv.ErrSyntax" = some 1 := by kernel_rfl
theorem gErrRange : Tryd.prog.globalNamed "strconv.ErrRange" = some 2 := by kernel_rfl

theorem var_lt {P : Program} {w : World} {n : String} {g : Nat} {cs : Array Value} (hg : P.globalNamed n = some g) (h : w.var? P n = some cs) : g < w.heap.size := by
  rcases Nat.lt_or_ge g w.heap.size with hlt | hge
  · exact hlt
  · simp [World.var?, hg, Array.getElem?_eq_none hge] at h
theorem Env.below {w w' : World} {B : Nat} (h : Env w) (hb : Below B w w') (hB : w.heap.size ≤ B) : Env w' := by
  obtain ⟨m, hm⟩ := h.maxLen
  obtain ⟨tp, p, h2⟩ := h.errSyntax
  obtain ⟨tp', p', h3⟩ := h.errRange
  have e1 := var_lt gErrSyntax h2
  have e2 := var_lt gErrRange h3
  have e4 := var_lt gPow10 h.pow10
  have e3 := World.block_lt_of_cell? _ _ hm
  exact ⟨⟨m, (hb.cell (p := ⟨0, 0, none⟩) (by simp at e3 ⊢; omega)).trans hm⟩, var?_below hb gPow10 (by omega) h.pow10, ⟨tp, p, var?_below hb gErrSyntax (by omega) h2⟩, ⟨tp', p', var?_below hb gErrRange (by omega) h3⟩⟩

/-- One boxed struct of three cells: what is known of the world behind it. -/
theorem box1 (w : World) (t : TypeId) (x0 x1 x2 : Value) :
    ∃ W, w.alloc (.cells #[x0, x1, x2] t) = W ∧ Below w.heap.size w W ∧ W.heap.size = w.heap.size + 1 ∧
      W.cell? ⟨w.heap.size, 0, none⟩ = some x0 ∧ W.cell? ⟨w.heap.size, 1, none⟩ = some x1 ∧ W.cell? ⟨w.heap.size, 2, none⟩ = some x2 := by
  refine ⟨_, rfl, (Below.refl _ _).alloc (Nat.le_refl _) _, by simp, ?_, ?_, ?_⟩ <;> simp [go_sem]
/-- Two boxed structs of three cells. -/
theorem box2 (w : World) (t : TypeId) (x0 x1 x2 y0 y1 y2 : Value) :
    ∃ W, (w.alloc (.cells #[x0, x1, x2] t)).alloc (.cells #[y0, y1, y2] t) = W ∧ Below w.heap.size w W ∧ W.heap.size = w.heap.size + 2 ∧
      W.cell? ⟨w.heap.size, 0, none⟩ = some x0 ∧ W.cell? ⟨w.heap.size, 1, none⟩ = some x1 ∧ W.cell? ⟨w.heap.size, 2, none⟩ = some x2 ∧
      W.cell? ⟨w.heap.size + 1, 0, none⟩ = some y0 ∧ W.cell? ⟨w.heap.size + 1, 1, none⟩ = some y1 ∧ W.cell? ⟨w.heap.size + 1, 2, none⟩ = some y2 := by
  refine ⟨_, rfl, ((Below.refl _ _).alloc (Nat.le_refl _) _).alloc (by simp) _, by simp, ?_, ?_, ?_, ?_, ?_, ?_⟩ <;> simp [go_sem]

/-- Block g is just these cells, none of them frozen. -/
def IsBlk (w : World) (g : Nat) (t : TypeId) (cs : Array Value) : Prop := w.heap[g]? = some (.cells cs t (0, 0))
theorem IsBlk.lt {w : World} {g : Nat} {t : TypeId} {cs : Array Value} (h : IsBlk w g t cs) : g < w.heap.size := (Array.getElem?_eq_some_iff.1 h).1
theorem IsBlk.cell {w : World} {g : Nat} {t : TypeId} {cs : Array Value} (h : IsBlk w g t cs) (i : Nat) : w.cell? ⟨g, i, none⟩ = cs[i]? := cell_of_row w g i cs t (0, 0) h
theorem IsBlk.free {w : World} {g : Nat} {t : TypeId} {cs : Array Value} (h : IsBlk w g t cs) (i : Nat) : w.frozen? ⟨g, i, none⟩ = false := by
  unfold IsBlk at h
  simp [World.frozen?, h]
theorem IsBlk.made (w : World) (t : TypeId) (cs : Array Value) : IsBlk (w.alloc (.cells cs t)) w.heap.size t cs := heap_alloc_new w _
theorem IsBlk.below {w w' : World} {g B : Nat} {t : TypeId} {cs : Array Value} (h : IsBlk w g t cs) (hb : Below B w w') (hg : g < B) : IsBlk w' g t cs := (hb.block g hg).trans h
theorem IsBlk.alloc {w : World} {g : Nat} {t : TypeId} {cs : Array Value} (h : IsBlk w g t cs) (o : Obj) : IsBlk (w.alloc o) g t cs := (Below.heap_alloc w o g h.lt).trans h
theorem IsBlk.put {w : World} {g : Nat} {t : TypeId} {cs : Array Value} (h : IsBlk w g t cs) (i : Nat) (u : Value) : IsBlk (w.setCell ⟨g, i, none⟩ u) g t (cs.setIfInBounds i u) := by
  unfold IsBlk at h ⊢
  simp [World.setCell, Array.getElem?_modify, h]
theorem IsBlk.three {w : World} {g : Nat} {t : TypeId} {x0 x1 x2 : Value} (h : IsBlk w g t #[x0, x1, x2]) :
    w.cell? ⟨g, 0, none⟩ = some x0 ∧ w.cell? ⟨g, 1, none⟩ = some x1 ∧ w.cell? ⟨g, 2, none⟩ = some x2 ∧ w.frozen? ⟨g, 0, none⟩ = false ∧ w.frozen? ⟨g, 1, none⟩ = false ∧ w.frozen? ⟨g, 2, none⟩ = false :=
  ⟨h.cell 0, h.cell 1, h.cell 2, h.free 0, h.free 1, h.free 2⟩
/-- A struct of three cells stored whole into a block of its own. -/
theorem store3 {w : World} {g : Nat} {t : TypeId} {x0 x1 x2 : Value} (h : IsBlk w g t #[x0, x1, x2]) (y0 y1 y2 : Value) :
    ∃ W, ((w.setCell ⟨g, 0, none⟩ y0).setCell ⟨g, 1, none⟩ y1).setCell ⟨g, 2, none⟩ y2 = W ∧ IsBlk W g t #[y0, y1, y2] ∧ Below g w W ∧ W.heap.size = w.heap.size ∧ (∀ k, k ≠ g → W.heap[k]? = w.heap[k]?) := by
  have b1 := (Below.refl g w).setCell (p := ⟨g, 0, none⟩) (Nat.le_refl g) y0
  have b2 := b1.setCell (p := ⟨g, 1, none⟩) (Nat.le_refl g) y1
  have b3 := b2.setCell (p := ⟨g, 2, none⟩) (Nat.le_refl g) y2
  refine ⟨_, rfl, ?_, b3, by simp [World.setCell], fun k hk => ?_⟩
  · have := ((h.put 0 y0).put 1 y1).put 2 y2
    simpa using this
  · rw [Below.heap_setCell _ _ _ _ hk, Below.heap_setCell _ _ _ _ hk, Below.heap_setCell _ _ _ _ hk]
end Go.Proofs.YtpjfkhbdhdolfaaDoor
