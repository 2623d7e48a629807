/-
  string(b) of a slice of bytes.
-/
import Derived.Test.YtpjfkhbdhdolfaaDoorApp
import Derived.Laws.IdiomStrings
import Derived.Lib.BufferRead
namespace Go.Proofs.YtpjfkhbdhdolfaaDoor
open Go.RowKit

theorem conv_at {w : World} {B : Nat} {A : Option Addr} {l : List UInt8} (c : Nat) (h : At w B A (cellsB l)) : (convert 24 9 (.slice A l.length c)).run Tryd.prog w = .ok (.string ⟨l.toArray⟩) w := by
  cases A with
  | none =>
    have hl : l = [] := by
      cases l with
      | nil => rfl
      | cons a l => obtain ⟨b, off, e, _⟩ := h (by simp [cellsB]); cases e
    subst hl
    exact Lib.run_convert_nil_bytes w _ _ 5 c Tryd.underlying24 Tryd.underlying5 Tryd.underlying9
  | some a =>
    refine run_convert_bytes_back w _ _ 5 a c l Tryd.underlying24 Tryd.underlying5 Tryd.underlying9 fun j hj => ?_
    obtain ⟨b, off, e, _, hc⟩ := h (by rw [cellsB_length]; omega)
    injection e with e
    subst e
    have := hc j (.int .u8 l[j].toNat) (by simp [cellsB, List.getElem?_eq_getElem hj])
    rwa [show (⟨b, off, none⟩ : Addr).add j = ⟨b, off + j, none⟩ from by unfold Addr.add; split <;> simp_all]
theorem conv_own {w : World} {base : Nat} {v : Value} {l : List UInt8} (h : OwnB w base v l) : (convert 24 9 v).run Tryd.prog w = .ok (.string ⟨l.toArray⟩) w := by
  obtain ⟨A, c, rfl⟩ := h.slice
  exact conv_at c h.at_
end Go.Proofs.YtpjfkhbdhdolfaaDoor
