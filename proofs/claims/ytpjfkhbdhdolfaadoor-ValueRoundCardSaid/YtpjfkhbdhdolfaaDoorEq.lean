import Derived.Test.YtpjfkhbdhdolfaaDoorBase
namespace Go.Proofs.YtpjfkhbdhdolfaaDoor
open Go.RowKit
theorem eql_same (t n : Int) (s : ByteArray) (w : World) : (binOp .eql 23 (.agg #[.int .i64 t, .int .i64 n, .string s]) (.agg #[.int .i64 t, .int .i64 n, .string s])).run Tryd.prog w = .ok (.bool true) w := by
  go_simp
theorem eql_other (ta na : Int) (sa : ByteArray) (tb nb : Int) (sb : ByteArray) (h : ¬ (ta = tb ∧ na = nb ∧ sa = sb)) (w : World) : (binOp .eql 23 (.agg #[.int .i64 ta, .int .i64 na, .string sa]) (.agg #[.int .i64 tb, .int .i64 nb, .string sb])).run Tryd.prog w = .ok (.bool false) w := by
  by_cases h1 : ta = tb
  · by_cases h2 : na = nb
    · have h3 : ¬ sa.toList = sb.toList := fun e => h ⟨h1, h2, by
        have : sa.data.toList = sb.data.toList := by rw [← Lib.toList_data, ← Lib.toList_data, e]
        apply ByteArray.ext; exact Array.toList_inj.1 this⟩
      subst h1 h2
      clear h
      go_simp
    · subst h1
      clear h
      go_simp
  · clear h
    go_simp
end Go.Proofs.YtpjfkhbdhdolfaaDoor
