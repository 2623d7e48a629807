/-
  The reference's Parse answers as the program's Parse does.
-/
import Derived.Test.YtpjfkhbdhdolfaaDoorRefq
namespace Go.Proofs.YtpjfkhbdhdolfaaDoor
open Go.RowKit

theorem dec_lenk (k : Nat) : ∀ (u : Nat), u < 10 ^ k → 0 < k → (Lib.decDigits u).length ≤ k := by
  induction k with
  | zero => intro u _ h; exact absurd h (by omega)
  | succ k ih =>
    intro u hu _
    rw [Lib.decDigits]
    split
    · simp
    · rename_i h
      have hk : 0 < k := by
        rcases Nat.eq_zero_or_pos k with rfl | h'
        · simp at hu; omega
        · exact h'
      have := ih (u / 10) (by rw [Nat.div_lt_iff_lt_mul (by decide)]; rw [Nat.pow_succ] at hu; exact hu) hk
      simp; omega
theorem itoa_len (n : Int) (h0 : -9223372036854775808 ≤ n) (h1 : n ≤ 9223372036854775807) : (Lib.itoa n).length ≤ 21 := by
  have p20 : (10 ^ 20 : Nat) = 100000000000000000000 := by decide
  unfold Lib.itoa
  split
  · have := dec_lenk 20 n.natAbs (by rw [p20]; omega) (by decide)
    simp; omega
  · have := dec_lenk 20 n.toNat (by rw [p20]; omega) (by decide)
    omega
theorem fmt_len {t n : Int} {st : ByteArray} (hval : validB t n st = true) (h0 : -9223372036854775808 ≤ n) (h1 : n ≤ 9223372036854775807) : 1 ≤ (fmtL t n st).length ∧ (fmtL t n st).length ≤ 130 := by
  by_cases ht : t = 1
  · subst ht
    rw [show fmtL 1 n st = Lib.itoa n by simp [fmtL, hval]]
    obtain ⟨c, r, e, hc⟩ := itoa_head n
    have := itoa_len n h0 h1
    rw [e] at this ⊢
    simp at this ⊢; omega
  · obtain ⟨rfl, rfl, hst, _⟩ := two_of_valid ht hval
    rw [show fmtL 2 0 st = [39] ++ dbl st.data.toList ++ [39] by simp [fmtL, hval]]
    have := dbl_length_le st.data.toList
    have h64 : st.data.toList.length = st.size := by simp
    simp only [List.length_append, List.length_cons, List.length_nil]
    omega
theorem head_zero {s : ByteArray} {c : UInt8} {r : List UInt8} (h : s.data.toList = c :: r) (h0 : 0 < s.size) : s[0] = c := by
  have : s.data.toList[0]'(by rw [h]; simp) = c := by simp only [h]; rfl
  exact this
theorem refParse_ok (t n : Int) (st s : ByteArray) (w : World) (hval : validB t n st = true) (hf : s.data.toList = fmtL t n st) (h0 : -9223372036854775808 ≤ n) (h1 : n ≤ 9223372036854775807) :
    Calls Tryd.prog 13 #[.string s] w fun e w' => e = .returned (.tuple #[.agg #[.int .i64 t, .int .i64 n, .string st], .bool true]) ∧ Below w.heap.size w w' := by
  have hl := fmt_len hval h0 h1
  have hz : s.size = (fmtL t n st).length := by rw [← hf]; simp
  have hs0 : 0 < s.size := by omega
  by_cases ht : t = 1
  · subst ht
    obtain rfl := empty_of_valid hval
    have hf' : s.data.toList = Lib.itoa n := by rw [hf]; simp [fmtL, hval]
    obtain ⟨c, r, e, hc⟩ := itoa_head n
    refine (refParse_int s w n hs0 (by omega) ?_ (by rw [hf']; exact cand_itoa n h0 h1)).mono ?_
    · rw [head_zero (by rw [hf', e]) hs0]
      exact fun h39 => hc (UInt8.toNat.inj h39)
    · rintro e w' ⟨p1, _, p3⟩
      exact ⟨p1 hf.symm, p3⟩
  · obtain ⟨rfl, rfl, hst, _⟩ := two_of_valid ht hval
    have hf' : s.data.toList = 39 :: (dbl st.data.toList ++ [39]) := by rw [hf]; simp [fmtL, hval]
    refine (refParse_str s st w hs0 (by omega) ?_ (by rw [hf']; exact und_dbl _)).mono ?_
    · rw [head_zero hf' hs0]; rfl
    · rintro e w' ⟨p1, _, p3⟩
      exact ⟨p1 hf.symm, p3⟩
theorem refParse_bad (s : ByteArray) (w : World) (hs : s.size ≤ 4294967280) (h : ∀ (t n : Int) (st : ByteArray), validB t n st = true → -9223372036854775808 ≤ n → n ≤ 9223372036854775807 → s.data.toList ≠ fmtL t n st) :
    Calls Tryd.prog 13 #[.string s] w fun e w' => e = .returned (.tuple #[.agg #[.int .i64 0, .int .i64 0, .string ⟨#[]⟩], .bool false]) ∧ Below w.heap.size w w' := by
  by_cases hbad : 130 < s.size ∨ s.size = 0
  · exact refParse_early s w hbad (by omega)
  · have hs0 : 0 < s.size := by omega
    have hlen : s.data.toList.length = s.size := by simp
    have key : ∀ (t n : Int) (st : ByteArray), -9223372036854775808 ≤ n → n ≤ 9223372036854775807 → fmtL t n st ≠ s.data.toList := by
      intro t n st h0 h1 e
      cases hv : validB t n st
      · rw [show fmtL t n st = [] by simp [fmtL, hv]] at e
        rw [← e] at hlen; simp at hlen; omega
      · exact h t n st hv h0 h1 e.symm
    by_cases hq : s[0].toNat = 39
    · refine (refParse_str s ⟨(und (s.data.toList.drop 1)).toArray⟩ w hs0 (by omega) hq (by simp)).mono ?_
      rintro e w' ⟨_, p2, p3⟩
      exact ⟨p2 (key _ _ _ (by omega) (by omega)), p3⟩
    · refine (refParse_int s w (cand s.data.toList) hs0 (by omega) hq rfl).mono ?_
      rintro e w' ⟨_, p2, p3⟩
      exact ⟨p2 (key _ _ _ (cand_range _).1 (cand_range _).2), p3⟩
/-- Both parsers give one answer. -/
theorem parses (s : ByteArray) (hs : s.size ≤ 4294967280) : ∃ (t n : Int) (st : ByteArray) (ok : Bool),
    (∀ w, Env w → Calls Tryd.prog 12 #[.string s] w fun e w' => e = .returned (.tuple #[.agg #[.int .i64 t, .int .i64 n, .string st], .int .i64 (if ok then 0 else 2)]) ∧ Below w.heap.size w w') ∧
    (∀ w, Calls Tryd.prog 13 #[.string s] w fun e w' => e = .returned (.tuple #[.agg #[.int .i64 t, .int .i64 n, .string st], .bool ok]) ∧ Below w.heap.size w w') := by
  by_cases h : ∃ (t n : Int) (st : ByteArray), validB t n st = true ∧ -9223372036854775808 ≤ n ∧ n ≤ 9223372036854775807 ∧ s.data.toList = fmtL t n st
  · obtain ⟨t, n, st, hv, h0, h1, hf⟩ := h
    exact ⟨t, n, st, true, fun w hE => parse_ok t n st s w hs hv hf h0 h1 hE, fun w => refParse_ok t n st s w hv hf h0 h1⟩
  · have hb : ∀ (t n : Int) (st : ByteArray), validB t n st = true → -9223372036854775808 ≤ n → n ≤ 9223372036854775807 → s.data.toList ≠ fmtL t n st :=
      fun t n st hv h0 h1 hf => h ⟨t, n, st, hv, h0, h1, hf⟩
    exact ⟨0, 0, ⟨#[]⟩, false, fun w hE => parse_bad s w hs hb hE, fun w => refParse_bad s w hs hb⟩
end Go.Proofs.YtpjfkhbdhdolfaaDoor
