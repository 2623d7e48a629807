/-
  The reference's Format, walked: the text that the program's Format gives.
-/
import Derived.Test.YtpjfkhbdhdolfaaDoorNatj
import Derived.Test.YtpjfkhbdhdolfaaDoorValc
namespace Go.Proofs.YtpjfkhbdhdolfaaDoor
open Go.RowKit

theorem ffmt_itoa (n : Int) : ffmt (decide (n < 0)) n.natAbs = Lib.itoa n := by
  unfold ffmt Lib.itoa
  by_cases h : n < 0
  · simp [h]
  · have : n.natAbs = n.toNat := by omega
    simp [h, this]
theorem dec_len20 (n : Int) (h0 : -9223372036854775808 ≤ n) (h1 : n ≤ 9223372036854775807) : (Lib.decDigits n.natAbs).length ≤ 1073741824 := by
  have key : ∀ (k u : Nat), u < 10 ^ k → 0 < k → (Lib.decDigits u).length ≤ k := by
    intro k
    induction k with
    | zero => intro u _ h; exact absurd h (by omega)
    | succ k ih =>
      intro u hu _
      rw [Lib.decDigits]
      split
      · simp
      · rename_i h
        have hk : 0 < k := by
          rcases Nat.eq_zero_or_pos k with rfl | h'
          · simp at hu; omega
          · exact h'
        have := ih (u / 10) (by rw [Nat.div_lt_iff_lt_mul (by decide)]; rw [Nat.pow_succ] at hu; exact hu) hk
        simp; omega
  have p20 : (10 ^ 20 : Nat) = 100000000000000000000 := by decide
  have := key 20 n.natAbs (by rw [p20]; omega) (by decide)
  omega
set_option maxRecDepth 100000 in
set_option maxHeartbeats 1000000 in
theorem refFmt_bad (t n : Int) (s : ByteArray) (w : World) (h : validB t n s = false) (hs : s.size ≤ 9223372036854775807) :
    Calls Tryd.prog 10 #[.agg #[.int .i64 t, .int .i64 n, .string s]] w (StrPost (fmtL t n s) w) := by
  have HF := Lib.hid (show fmtL t n s = [] by simp [fmtL, h])
  obtain ⟨W, hW, hbW, hgW, hzW⟩ := blk1 w 23 #[.int .i64 t, .int .i64 n, .string s]
  have HW := Lib.hid hW
  have HB := Lib.hid hbW
  have hsW := hbW.size
  have HV := Lib.hid (refValid_is h W hs)
  clear hW hbW hgW hzW h
  go_enter Tryd.func10, Tryd.ntmps10
  go_wp2_with fail
  rw [HW.out]
  refine HV.out.mono ?_
  rintro e w1 ⟨rfl, hb1⟩
  have HB1 := Lib.hid (below_then HB.out hb1 hsW)
  clear hb1
  go_wp2
  go_ret
  exact ⟨by rw [HF.out]; rfl, HB1.out⟩
set_option maxRecDepth 100000 in
set_option maxHeartbeats 1000000 in
theorem refFmt_int (n : Int) (s : ByteArray) (w : World) (h : validB 1 n s = true) (h0 : -9223372036854775808 ≤ n) (h1 : n ≤ 9223372036854775807) (hs : s.size ≤ 9223372036854775807) :
    Calls Tryd.prog 10 #[.agg #[.int .i64 1, .int .i64 n, .string s]] w (StrPost (fmtL 1 n s) w) := by
  have HF := Lib.hid (show fmtL 1 n s = Lib.itoa n by simp [fmtL, h])
  obtain ⟨W, hW, hbW, hgW, hzW⟩ := blk1 w 23 #[.int .i64 1, .int .i64 n, .string s]
  have HW := Lib.hid hW
  have HB := Lib.hid hbW
  have hsW := hbW.size
  have HG := Lib.hid hgW
  have HV := Lib.hid (refValid_is h W hs)
  clear hW hbW hgW hzW h
  go_enter Tryd.func10, Tryd.ntmps10
  go_wp2_with fail
  rw [HW.out]
  refine HV.out.mono ?_
  rintro e w1 ⟨rfl, hb1⟩
  have HB1 := Lib.hid (below_then HB.out hb1 hsW)
  have hs1 : w.heap.size ≤ w1.heap.size := Nat.le_trans hsW hb1.size
  obtain ⟨d0, d1, d2, _, _, _⟩ := (HG.out.below hb1 HG.out.lt).three
  clear hb1
  go_wp2_with fail
  refine (whole_any n _ h0 h1).mono ?_
  rintro e w2 ⟨vn, vd, rfl, hon, hod, hb2⟩
  obtain ⟨An, cn, en, hin⟩ := hon.is (digs_lt _)
  obtain ⟨Ad, cd, ed, hid⟩ := hod.is (digs_lt _)
  subst en ed
  have HB2 := Lib.hid (below_then HB1.out hb2 hs1)
  have hs2 : w.heap.size ≤ w2.heap.size := Nat.le_trans hs1 hb2.size
  have hff := fracFmt_any (decide (n < 0)) An Ad cn cd n.natAbs w2 hin hid (by have := abs_len n h0 h1; omega) (fun h => by simp at h; omega) (dec_len20 n h0 h1)
  rw [ffmt_itoa] at hff
  have HFF := Lib.hid hff
  clear hon hod hb2 hin hid hff d0 d1 d2
  go_wp2_with fail
  refine HFF.out.mono ?_
  rintro e w3 ⟨rfl, hb3⟩
  have HB3 := Lib.hid (below_then HB2.out hb3 hs2)
  clear hb3
  go_wp2
  go_ret
  exact ⟨by rw [HF.out]; rfl, HB3.out⟩
theorem ext_one (s : ByteArray) (k : Nat) (h : k < s.size) : s.extract k (k + 1) = ⟨[s[k]].toArray⟩ := by
  rw [← mk_data (s.extract k (k + 1)), Lib.extract_data]
  congr 2
  have hl : k < s.data.toList.length := by simpa using h
  rw [List.drop_eq_getElem_cons hl, show k + 1 - k = 1 by omega]
  rfl
theorem dbl_snoc (l : List UInt8) (c : UInt8) : dbl (l ++ [c]) = dbl l ++ (if c = 39 then [39, 39] else [c]) := by
  induction l with
  | nil => by_cases h : c = 39 <;> simp [dbl, h]
  | cons a l ih => by_cases h : a = 39 <;> simp [dbl, h, ih]
set_option maxRecDepth 100000 in
set_option maxHeartbeats 1000000 in
theorem refFmt_str (n : Int) (s : ByteArray) (w : World) (h : validB 2 n s = true) :
    Calls Tryd.prog 10 #[.agg #[.int .i64 2, .int .i64 n, .string s]] w (StrPost (fmtL 2 n s) w) := by
  have HF := Lib.hid (show fmtL 2 n s = [39] ++ dbl s.data.toList ++ [39] by simp [fmtL, h])
  have hs64 : s.size ≤ 64 := by simp [validB] at h; omega
  obtain ⟨W, hW, hbW, hgW, hzW⟩ := blk1 w 23 #[.int .i64 2, .int .i64 n, .string s]
  have HW := Lib.hid hW
  have HB := Lib.hid hbW
  have hsW := hbW.size
  have HG := Lib.hid hgW
  have HV := Lib.hid (refValid_is h W (by omega))
  clear hW hbW hgW hzW h
  go_enter Tryd.func10, Tryd.ntmps10
  go_wp2_with fail
  rw [HW.out]
  refine HV.out.mono ?_
  rintro e w1 ⟨rfl, hb1⟩
  have HB1 := Lib.hid (below_then HB.out hb1 hsW)
  obtain ⟨d0, d1, d2, _, _, _⟩ := (HG.out.below hb1 HG.out.lt).three
  clear hb1
  go_wp2
  go_loop [3, 4] (fun v i => ∃ k : Nat, k ≤ s.size ∧ i = .int .i64 k ∧ v = .string ⟨(39 :: dbl (s.data.toList.take k)).toArray⟩) (fun _ i => s.size - (intOf i).toNat)
  case atStart => exact ⟨0, by omega, rfl, by simp [dbl]⟩
  case round =>
    obtain ⟨k, hk, rfl, rfl⟩ := hrel
    have hdl : (dbl (s.data.toList.take k)).length ≤ 200 := by
      have := dbl_length_le (s.data.toList.take k)
      rw [List.length_take] at this
      omega
    by_cases hlt : k < s.size
    · have HS := Lib.hid (show dbl (s.data.toList.take (k + 1)) = dbl (s.data.toList.take k) ++ (if s[k] = 39 then [39, 39] else [s[k]]) by
        rw [List.take_succ_eq_append_getElem (by simpa using hlt), dbl_snoc]; rfl)
      by_cases h39 : s[k].toNat = 39
      · have h39' : s[k] = 39 := UInt8.toNat_inj.1 h39
        have HEX := Lib.hid (ext_one s k hlt)
        have HC := Lib.hid h39'
        rw [if_pos h39'] at HS
        clear h39'
        go_wp2
        go_round
        case rel =>
          refine ⟨k + 1, by omega, by go_num, ?_⟩
          rw [HS.out, HEX.out, HC.out, app_mk (39 :: dbl (s.data.toList.take k)) [39], app_mk (39 :: dbl (s.data.toList.take k) ++ [39]) [39]]
          simp
        case measure => simp [intOf]; omega
      · have h39' : s[k] ≠ 39 := fun e => h39 (by rw [e]; rfl)
        have HEX := Lib.hid (ext_one s k hlt)
        have g1 : ((s[k].toNat : Int) == 39) = false := by rw [beq_eq_false_iff_ne]; omega
        rw [if_neg h39'] at HS
        clear h39' h39
        go_wp2
        go_round
        case rel =>
          refine ⟨k + 1, by omega, by go_num, ?_⟩
          rw [HS.out, HEX.out, app_mk]
          simp
        case measure => simp [intOf]; omega
    · have HT := Lib.hid (show s.data.toList.take k = s.data.toList from List.take_of_length_le (by simp; omega))
      go_wp2
      go_ret
      refine ⟨?_, HB1.out⟩
      rw [HF.out]
      show Ending.returned (.string (⟨(39 :: dbl (s.data.toList.take k)).toArray⟩ ++ ⟨[39].toArray⟩)) = _
      rw [HT.out, app_mk (39 :: dbl s.data.toList) [39]]
      rfl
theorem refFmt_any (t n : Int) (s : ByteArray) (w : World) (h0 : -9223372036854775808 ≤ n) (h1 : n ≤ 9223372036854775807) (hs : s.size ≤ 9223372036854775807) :
    Calls Tryd.prog 10 #[.agg #[.int .i64 t, .int .i64 n, .string s]] w (StrPost (fmtL t n s) w) := by
  cases hv : validB t n s
  · exact refFmt_bad t n s w hv hs
  · by_cases ht : t = 1
    · subst ht; exact refFmt_int n s w hv h0 h1 hs
    · have h2 : t = 2 := by
        by_cases h2 : t = 2
        · exact h2
        · simp [validB, ht, h2] at hv
      subst h2
      exact refFmt_str n s w hv
end Go.Proofs.YtpjfkhbdhdolfaaDoor
