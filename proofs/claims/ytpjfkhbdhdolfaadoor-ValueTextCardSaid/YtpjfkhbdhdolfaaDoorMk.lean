/-
  The law's helper 'valid': which valid value it makes of any value.
-/
import Derived.Test.YtpjfkhbdhdolfaaDoorVale
import Derived.Test.YtpjfkhbdhdolfaaDoorConv
import Derived.Test.YtpjfkhbdhdolfaaDoorText
namespace Go.Proofs.YtpjfkhbdhdolfaaDoor
open Go.RowKit

def mkB (c : UInt8) : UInt8 := UInt8.ofNat (32 + c.toNat % 95)
def mkS (l : List UInt8) : List UInt8 := (l.take 64).map mkB
def mkV (v : V) : V := if (bits .and .i64 v.t 1 == 0) = true then ⟨1, v.n, ⟨#[]⟩⟩ else ⟨2, 0, ⟨(mkS v.s.data.toList).toArray⟩⟩
theorem mkB_toNat (c : UInt8) : (mkB c).toNat = 32 + c.toNat % 95 := by
  unfold mkB
  simp [UInt8.toNat_ofNat']; omega
theorem mkV_ok (v : V) : (mkV v).ok = true := by
  unfold mkV
  split
  · simp [V.ok, validB]
  · have h1 : (mkS v.s.data.toList).length ≤ 64 := by simp [mkS]; omega
    have h2 : (mkS v.s.data.toList).all okB = true := by
      simp only [mkS, List.all_map, List.all_eq_true, Function.comp]
      intro x _
      simp [okB, mkB_toNat]; omega
    simp only [V.ok, validB]
    simp
    exact ⟨h1, by simpa using h2⟩
theorem mkV_n (v : V) (h : -9223372036854775808 ≤ v.n ∧ v.n ≤ 9223372036854775807) : -9223372036854775808 ≤ (mkV v).n ∧ (mkV v).n ≤ 9223372036854775807 := by
  unfold mkV; split
  · exact h
  · show -9223372036854775808 ≤ (0 : Int) ∧ (0 : Int) ≤ 9223372036854775807
    omega
theorem conv_one (c : Int) (d : UInt8) (h : c = d.toNat) (w : World) : (convert 24 9 (.slice (some ⟨w.heap.size, 0, none⟩) 1 1)).run Tryd.prog (w.alloc (.cells #[.int .u8 c] 5)) = .ok (.string ⟨#[d]⟩) (w.alloc (.cells #[.int .u8 c] 5)) := by
  refine conv_at (B := w.heap.size + 1) (l := [d]) 1 fun _ => ⟨w.heap.size, 0, rfl, by omega, fun j u hu => ?_⟩
  rw [Nat.zero_add, (IsBlk.made w 5 #[.int .u8 c]).cell j]
  subst h
  simpa [cellsB] using hu
theorem mkS_succ (s : ByteArray) (k : Nat) (h : k < s.size) (h64 : k < 64) : mkS (s.data.toList.take (k + 1)) = mkS (s.data.toList.take k) ++ [mkB s[k]] := by
  unfold mkS
  rw [List.take_take, List.take_take, Nat.min_eq_right (by omega), Nat.min_eq_right (by omega), List.take_succ_eq_append_getElem (by simpa using h)]
  simp; rfl

set_option maxHeartbeats 1000000 in
theorem mk_int (t n : Int) (s : ByteArray) (w : World) (h : (bits .and .i64 t 1 == 0) = true) :
    Calls Tryd.prog 11 #[.agg #[.int .i64 t, .int .i64 n, .string s]] w fun e w' => e = .returned (.agg #[.int .i64 1, .int .i64 n, .string ⟨#[]⟩]) ∧ Below w.heap.size w w' := by
  go_enter Tryd.func11, Tryd.ntmps11
  go_wp2
  exact bodyPost_ret (v := .agg #[.int .i64 1, .int .i64 n, .string ⟨#[]⟩]) (by simp [results, Tryd.results11, go_sem]) rfl ⟨rfl, ((Below.refl _ _).alloc (Nat.le_refl _) _).alloc (by simp) _⟩
set_option maxHeartbeats 1000000 in
theorem mk_str (t n : Int) (s : ByteArray) (w : World) (h : (bits .and .i64 t 1 == 0) = false) :
    Calls Tryd.prog 11 #[.agg #[.int .i64 t, .int .i64 n, .string s]] w fun e w' => e = .returned (.agg #[.int .i64 2, .int .i64 0, .string ⟨(mkS s.data.toList).toArray⟩]) ∧ Below w.heap.size w w' := by
  obtain ⟨W, hW, hb, hg1, hg2, hz⟩ := blk2 w 23 23 #[.int .i64 t, .int .i64 n, .string s] #[.int .i64 0, .int .i64 0, .string ⟨#[]⟩]
  have HW := Lib.hid hW
  have HB := Lib.hid hb
  have HG1 := Lib.hid hg1
  have HG2 := Lib.hid hg2
  obtain ⟨a0, a1, a2, _, _, _⟩ := hg1.three
  clear hW hb hg1 hg2 hz
  go_enter Tryd.func11, Tryd.ntmps11
  go_wp2
  rw [HW.out]
  clear a0 a1 a2
  go_loopw [3, 4] (fun v i W' => ∃ k : Nat, k ≤ s.size ∧ k ≤ 64 ∧ i = .int .i64 k ∧ v = .string ⟨(mkS (s.data.toList.take k)).toArray⟩ ∧ Below W.heap.size W W') (fun _ i _ => s.size - (intOf i).toNat)
  case atStart => exact ⟨0, by omega, by omega, rfl, by simp [mkS], Below.refl _ _⟩
  case round =>
    obtain ⟨k, hk, hk64, rfl, rfl, hbr⟩ := hrel
    have HBR := Lib.hid hbr
    obtain ⟨a0, a1, a2, _, _, _⟩ := (HG1.out.below hbr HG1.out.lt).three
    obtain ⟨b0, b1, b2, f0, f1, f2⟩ := (HG2.out.below hbr HG2.out.lt).three
    clear hbr
    by_cases hlt : k < s.size ∧ k < 64
    · obtain ⟨h1, h2⟩ := hlt
      have HS := Lib.hid (mkS_succ s k h1 h2)
      have hl : (mkS (s.data.toList.take k)).length ≤ 64 := by simp [mkS]; omega
      have hcv := conv_one (32 + (s[k].toNat : Int) % 95) (mkB s[k]) (by rw [mkB_toNat]; omega)
      go_wp2
      go_roundw
      case rel =>
        refine ⟨k + 1, by omega, by omega, by go_num, ?_, HBR.out.alloc HBR.out.size _⟩
        rw [HS.out, ← app_mk]
      case measure => simp [intOf]; omega
    · have HS := Lib.hid (show mkS (s.data.toList.take k) = mkS s.data.toList by
        unfold mkS
        rw [List.take_take]
        rcases Nat.lt_or_ge k s.size with h1 | h1
        · obtain rfl : k = 64 := by omega
          rfl
        · rw [List.take_of_length_le (i := min 64 k) (by simp; omega), List.take_of_length_le (i := 64) (by simp; omega)])
      by_cases h1 : k < s.size
      all_goals
        go_wp2
        clear a0 a1 a2 b0 b1 b2 f0 f1 f2
        obtain ⟨w6, h6, hg6, hb6, hz6, hk6⟩ := store3 (HG2.out.below HBR.out HG2.out.lt) (.int .i64 2) (.int .i64 0) (.string ⟨(mkS (s.data.toList.take k)).toArray⟩)
        rw [h6]
        obtain ⟨d0, d1, d2, _, _, _⟩ := hg6.three
        rw [HS.out] at d2
        exact bodyPost_ret (v := .agg #[.int .i64 2, .int .i64 0, .string ⟨(mkS s.data.toList).toArray⟩]) (by simp [results, Tryd.results11, go_sem, d0, d1, d2]) rfl ⟨rfl, (below_then HB.out HBR.out HB.out.size).trans (hb6.mono (by omega))⟩
/-- 'valid' makes mkV of every value. -/
theorem mk_any (v : V) (w : World) :
    Calls Tryd.prog 11 #[.agg #[.int .i64 v.t, .int .i64 v.n, .string v.s]] w fun e w' => e = .returned (.agg #[.int .i64 (mkV v).t, .int .i64 (mkV v).n, .string (mkV v).s]) ∧ Below w.heap.size w w' := by
  cases h : (bits .and .i64 v.t 1 == 0)
  · have := mk_str v.t v.n v.s w h
    simpa [mkV, h] using this
  · have := mk_int v.t v.n v.s w h
    simpa [mkV, h] using this
end Go.Proofs.YtpjfkhbdhdolfaaDoor
