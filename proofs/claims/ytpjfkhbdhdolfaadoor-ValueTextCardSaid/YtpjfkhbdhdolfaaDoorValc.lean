import Derived.Test.YtpjfkhbdhdolfaaDoorValb
import Derived.Test.YtpjfkhbdhdolfaaDoorText
import Derived.Test.YtpjfkhbdhdolfaaDoorLibc
namespace Go.Proofs.YtpjfkhbdhdolfaaDoor
open Go.RowKit

/-- The text of a value. -/
def fmtL (t n : Int) (s : ByteArray) : List UInt8 :=
  if validB t n s then (if t = 1 then Lib.itoa n else [39] ++ dbl s.data.toList ++ [39]) else []

theorem format_bad (t n : Int) (s : ByteArray) (w : World) (h : validB t n s = false) :
    Calls Tryd.prog 14 #[.agg #[.int .i64 t, .int .i64 n, .string s]] w fun e w' => e = .returned (.string ⟨(fmtL t n s).toArray⟩) ∧ Below w.heap.size w w' := by
  have HF := Lib.hid (show fmtL t n s = [] by simp [fmtL, h])
  have hv : ∀ w : World, Calls Tryd.prog 17 #[.agg #[.int .i64 t, .int .i64 n, .string s]] w fun e w' => e = .returned (.bool false) ∧ Below w.heap.size w w' := fun w => by
    have := valid_any t n s w; rwa [h] at this
  have HV := Lib.hid hv; clear hv h
  go_enter Tryd.func14, Tryd.ntmps14
  go_wp2_with (go_at_call 17; refine (HV.out _).mono ?_; rintro e w' ⟨rfl, hb⟩)
  go_ret
  exact ⟨by rw [HF.out]; rfl, ((Below.refl _ _).alloc (Nat.le_refl _) _).trans (hb.mono (by simp))⟩
theorem format_int (n : Int) (s : ByteArray) (w : World) (h : validB 1 n s = true) (h0 : -9223372036854775808 ≤ n) (h1 : n ≤ 9223372036854775807) (hE : Env w) :
    Calls Tryd.prog 14 #[.agg #[.int .i64 1, .int .i64 n, .string s]] w fun e w' => e = .returned (.string ⟨(fmtL 1 n s).toArray⟩) ∧ Below w.heap.size w w' := by
  have HF := Lib.hid (show fmtL 1 n s = Lib.itoa n by simp [fmtL, h])
  have hv : ∀ w : World, Calls Tryd.prog 17 #[.agg #[.int .i64 1, .int .i64 n, .string s]] w fun e w' => e = .returned (.bool true) ∧ Below w.heap.size w w' := fun w => by
    have := valid_any 1 n s w; rwa [h] at this
  have HV := Lib.hid hv; clear hv h
  have HE := Lib.hid hE; clear hE
  obtain ⟨W, hW, hb, hz, c0, c1, c2⟩ := box1 w 23 (.int .i64 1) (.int .i64 n) (.string s)
  have HW := Lib.hid hW; clear hW
  have HZ := Lib.hid hz; clear hz
  go_enter Tryd.func14, Tryd.ntmps14
  go_wp2_with fail
  rw [HW.out]
  refine (HV.out _).mono ?_
  rintro e w1 ⟨rfl, hb1⟩
  have d0 := (hb1.cell (p := ⟨w.heap.size, 0, none⟩) (by simp [HZ.out])).trans c0
  have d1 := (hb1.cell (p := ⟨w.heap.size, 1, none⟩) (by simp [HZ.out])).trans c1
  have hb2 : Below w.heap.size w w1 := hb.trans (hb1.mono (by rw [HZ.out]; omega))
  go_wp2_with fail
  refine (formatInt_any n _ h0 h1 (HE.out.below hb2 (Nat.le_refl _))).mono ?_
  rintro e w2 ⟨rfl, hb3⟩
  go_wp2
  go_ret
  exact ⟨by rw [HF.out]; rfl, hb2.trans (hb3.mono hb2.size)⟩
theorem format_str (n : Int) (s : ByteArray) (w : World) (h : validB 2 n s = true) (hE : Env w) :
    Calls Tryd.prog 14 #[.agg #[.int .i64 2, .int .i64 n, .string s]] w fun e w' => e = .returned (.string ⟨(fmtL 2 n s).toArray⟩) ∧ Below w.heap.size w w' := by
  have HF := Lib.hid (show fmtL 2 n s = [39] ++ dbl s.data.toList ++ [39] by simp [fmtL, h])
  have hs : s.size ≤ 64 := by simp [validB] at h; omega
  have hv : ∀ w : World, Calls Tryd.prog 17 #[.agg #[.int .i64 2, .int .i64 n, .string s]] w fun e w' => e = .returned (.bool true) ∧ Below w.heap.size w w' := fun w => by
    have := valid_any 2 n s w; rwa [h] at this
  have HV := Lib.hid hv; clear hv h
  have HE := Lib.hid hE; clear hE
  obtain ⟨W, hW, hb, hz, c0, c1, c2⟩ := box1 w 23 (.int .i64 2) (.int .i64 n) (.string s)
  have HW := Lib.hid hW; clear hW
  have HZ := Lib.hid hz; clear hz
  go_enter Tryd.func14, Tryd.ntmps14
  go_wp2_with fail
  rw [HW.out]
  refine (HV.out _).mono ?_
  rintro e w1 ⟨rfl, hb1⟩
  have d0 := (hb1.cell (p := ⟨w.heap.size, 0, none⟩) (by simp [HZ.out])).trans c0
  have d2 := (hb1.cell (p := ⟨w.heap.size, 2, none⟩) (by simp [HZ.out])).trans c2
  have hb2 : Below w.heap.size w w1 := hb.trans (hb1.mono (by rw [HZ.out]; omega))
  go_wp2_with fail
  refine (replaceAll_any s ⟨#[39]⟩ ⟨#[39, 39]⟩ _ (by omega) (by decide) (by decide) (HE.out.below hb2 (Nat.le_refl _))).mono ?_
  rintro e w2 ⟨rfl, hb3⟩
  have e1 : Lib.replaceAll s.data.toList [39] [39, 39] = dbl s.data.toList := by rw [replaceAll_rep _ (by decide), rep_dbl]
  simp only [e1]
  clear e1
  have hd : (dbl s.data.toList).length ≤ 128 := by have := dbl_length_le s.data.toList; simp at this; omega
  go_wp2
  go_ret
  refine ⟨?_, hb2.trans (hb3.mono hb2.size)⟩
  rw [HF.out, ← app_mk, ← app_mk]
  rfl
theorem format_any (t n : Int) (s : ByteArray) (w : World) (h0 : -9223372036854775808 ≤ n) (h1 : n ≤ 9223372036854775807) (hE : Env w) :
    Calls Tryd.prog 14 #[.agg #[.int .i64 t, .int .i64 n, .string s]] w fun e w' => e = .returned (.string ⟨(fmtL t n s).toArray⟩) ∧ Below w.heap.size w w' := by
  cases h : validB t n s
  · exact format_bad t n s w h
  · by_cases ht : t = 1
    · subst ht; exact format_int n s w h h0 h1 hE
    · have : t = 2 := by simp [validB, ht] at h; exact h.1.1.1
      subst this; exact format_str n s w h hE
end Go.Proofs.YtpjfkhbdhdolfaaDoor
