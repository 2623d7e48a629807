/-
  The rows' arguments opened: a value.
-/
import Derived.Test.YtpjfkhbdhdolfaaDoorRow
namespace Go.Proofs.YtpjfkhbdhdolfaaDoor
open Go.ChangeShapes Go.WideShapes Go.ChangeAt Go.RowKit Go.Joins

abbrev zeroV : Value := .agg #[.int .i64 0, .int .i64 0, .string ⟨#[]⟩]
theorem cellsVal : Tryd.prog.cellsOf 23 = 3 := by kernel_rfl
set_option maxRecDepth 100000 in
theorem open_val {H : Type} {enc : TypeId × Value → H} {W : World} {b0 base : Nat} {spare : Nat → Bool} {held : Bool} {v : Value} {d : DataW H} {p : List MemPlace}
    (hv : Value.okWide Tryd.prog W .any b0 23 v) (h : DataW.Trod enc Tryd.prog W base spare held 23 v d p) :
    ∃ (t n : Int) (s : ByteArray), v = .agg #[.int .i64 t, .int .i64 n, .string s] ∧ (-9223372036854775808 ≤ t ∧ t ≤ 9223372036854775807) ∧ (-9223372036854775808 ≤ n ∧ n ≤ 9223372036854775807) ∧ s.size ≤ maxLen := by
  obtain ⟨v0, v1, v2, y0, y1, y2, m, rfl, rfl, rfl, h0, h1, h2⟩ := open_agg3 Tryd.underlying23 (by kernel_rfl) cellsVal hv h
  obtain ⟨t, e0, _, w0⟩ := DataW.trod_int Tryd.underlying3 h0
  obtain ⟨n, e1, _, w1⟩ := DataW.trod_int Tryd.underlying2 h1
  obtain ⟨s, e2, _, w2⟩ := DataW.trod_string Tryd.underlying9 h2
  simp at e0 e1 e2
  subst e0 e1 e2
  refine ⟨t, n, s, rfl, ?_, ?_, w2⟩
  · simpa [Lit.wf, IntKind.min, IntKind.max, IntKind.signed, IntKind.bits] using w0
  · simpa [Lit.wf, IntKind.min, IntKind.max, IntKind.signed, IntKind.bits] using w1
end Go.Proofs.YtpjfkhbdhdolfaaDoor
