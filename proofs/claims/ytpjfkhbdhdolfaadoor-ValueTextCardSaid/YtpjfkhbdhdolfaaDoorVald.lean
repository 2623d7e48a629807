/-
  value.Parse: what it returns for every text (no longer than 4294967280 bytes).
-/
import Derived.Test.YtpjfkhbdhdolfaaDoorValc
import Derived.Test.YtpjfkhbdhdolfaaDoorBaseb
namespace Go.Proofs.YtpjfkhbdhdolfaaDoor
open Go.RowKit

theorem prefix_quote (l : List UInt8) : Lib.hasPrefix (39 :: l) [39] = true := by simp [Lib.hasPrefix]
theorem not_prefix (l : List UInt8) (h : ∀ r, l ≠ 39 :: r) : Lib.hasPrefix l [39] = false := by
  cases l with
  | nil => rfl
  | cons c r =>
    simp only [Lib.hasPrefix]
    rw [List.isPrefixOf]
    have : c ≠ 39 := fun e => h r (by rw [e])
    simp [Ne.symm this]
def aggV (t n : Int) (s : ByteArray) : Value := .agg #[.int .i64 t, .int .i64 n, .string s]
theorem beq_no (l : List UInt8) (s : ByteArray) (h : s.data.toList ≠ l) : (l == s.toList) = false := by
  rw [Lib.toList_data, beq_eq_false_iff_ne]; exact fun e => h e.symm
theorem beq_yes (l : List UInt8) (s : ByteArray) (h : s.data.toList = l) : (l == s.toList) = true := by
  rw [Lib.toList_data, beq_iff_eq]; exact h.symm

set_option maxHeartbeats 1000000 in
theorem parse_noint (s : ByteArray) (w : World) (hs : s.size ≤ 4294967280) (hp : Lib.hasPrefix s.data.toList [39] = false) (hpi : ∀ v, Lib.parseIntB 64 s.data.toList ≠ .ok v) (hE : Env w) :
    Calls Tryd.prog 12 #[.string s] w fun e w' => e = .returned (.tuple #[.agg #[.int .i64 0, .int .i64 0, .string ⟨#[]⟩], .int .i64 2]) ∧ Below w.heap.size w w' := by
  have hP : ∀ w : World, Calls Tryd.prog 35 #[.string s, .string ⟨#[39]⟩] w fun e w' => e = .returned (.bool false) ∧ w = w' := fun w => by
    have := hasPrefix_any s ⟨#[39]⟩ w; rwa [show Lib.hasPrefix s.data.toList [39] = false from hp] at this
  have HP := Lib.hid hP
  clear hP hp
  have HPI := Lib.hid hpi
  clear hpi
  have HE := Lib.hid hE
  clear hE
  obtain ⟨W, hW, hbW, hz⟩ := blk2 w 23 23 #[.int .i64 0, .int .i64 0, .string ⟨#[]⟩] #[.int .i64 0, .int .i64 0, .string ⟨#[]⟩]
  have HW := Lib.hid hW
  have HB := Lib.hid hz
  have HZ := Lib.hid hz.2.2
  have HBW := Lib.hid hbW
  clear hW hz hbW
  go_enter Tryd.func12, Tryd.ntmps12
  go_wp2_with fail
  rw [HW.out]
  refine (HP.out _).mono ?_
  rintro e w1 ⟨rfl, rfl⟩
  go_wp2_with fail
  refine (parseInt_bad s _ (by omega) HPI.out (HE.out.below HBW.out (Nat.le_refl _))).mono ?_
  rintro e w1 ⟨v, N, rfl, hb1⟩
  have HB1 := Lib.hid (HBW.out.trans (hb1.mono (by rw [HZ.out]; omega)))
  have HG1 := Lib.hid (HB.out.2.1.below hb1 (by rw [HZ.out]; omega))
  have HR1 := Lib.hid (HB.out.1.below hb1 (by rw [HZ.out]; omega))
  clear hb1
  obtain ⟨c0, c1, c2, f0, f1, f2⟩ := HG1.out.three
  obtain ⟨d0, d1, d2, g0, g1, g2⟩ := HR1.out.three
  go_wp2
  clear c0 c1 c2 f0 f1 f2 d0 d1 d2 g0 g1 g2
  obtain ⟨w6, h6, hg6, hb6, hz6, hk6⟩ := store3 HR1.out (.int .i64 0) (.int .i64 0) (.string ⟨#[]⟩)
  rw [h6]
  obtain ⟨d0, d1, d2, _, _, _⟩ := hg6.three
  exact bodyPost_ret (v := .tuple #[.agg #[.int .i64 0, .int .i64 0, .string ⟨#[]⟩], .int .i64 2]) (by simp [results, Tryd.results12, go_sem, d0, d1, d2]) rfl ⟨rfl, HB1.out.trans hb6⟩

set_option maxHeartbeats 1000000 in
theorem parse_int_same (s : ByteArray) (w : World) (hs : s.size ≤ 4294967280) (n : Int) (hp : Lib.hasPrefix s.data.toList [39] = false) (hpi : Lib.parseIntB 64 s.data.toList = .ok n) (h0 : -9223372036854775808 ≤ n) (h1 : n ≤ 9223372036854775807) (h : s.data.toList = fmtL 1 n ⟨#[]⟩) (hE : Env w) :
    Calls Tryd.prog 12 #[.string s] w fun e w' => e = .returned (.tuple #[.agg #[.int .i64 1, .int .i64 n, .string ⟨#[]⟩], .int .i64 0]) ∧ Below w.heap.size w w' := by
  have hP : ∀ w : World, Calls Tryd.prog 35 #[.string s, .string ⟨#[39]⟩] w fun e w' => e = .returned (.bool false) ∧ w = w' := fun w => by
    have := hasPrefix_any s ⟨#[39]⟩ w; rwa [show Lib.hasPrefix s.data.toList [39] = false from hp] at this
  have HP := Lib.hid hP
  clear hP hp
  have HPI := Lib.hid hpi
  clear hpi
  have hval : validB 1 n ⟨#[]⟩ = true := by simp [validB]
  have hV : ∀ w : World, Calls Tryd.prog 17 #[.agg #[.int .i64 1, .int .i64 n, .string ⟨#[]⟩]] w fun e w' => e = .returned (.bool true) ∧ Below w.heap.size w w' := fun w => by
    have := valid_any 1 (n) ⟨#[]⟩ w; rwa [hval] at this
  have HV := Lib.hid hV
  clear hV
  have hF : ∀ w : World, Env w → Calls Tryd.prog 14 #[.agg #[.int .i64 1, .int .i64 n, .string ⟨#[]⟩]] w fun e w' => e = .returned (.string ⟨(fmtL 1 (n) ⟨#[]⟩).toArray⟩) ∧ Below w.heap.size w w' := fun w hE => format_any 1 (n) ⟨#[]⟩ w h0 h1 hE
  have HF := Lib.hid hF
  clear hF
  have hne : (fmtL 1 n ⟨#[]⟩ == s.toList) = true := beq_yes _ s h
  clear hval h
  have HE := Lib.hid hE
  clear hE
  obtain ⟨W, hW, hbW, hz⟩ := blk2 w 23 23 #[.int .i64 0, .int .i64 0, .string ⟨#[]⟩] #[.int .i64 0, .int .i64 0, .string ⟨#[]⟩]
  have HW := Lib.hid hW
  have HB := Lib.hid hz
  have HZ := Lib.hid hz.2.2
  have HBW := Lib.hid hbW
  clear hW hz hbW
  go_enter Tryd.func12, Tryd.ntmps12
  go_wp2_with fail
  rw [HW.out]
  refine (HP.out _).mono ?_
  rintro e w1 ⟨rfl, rfl⟩
  go_wp2_with fail
  refine (parseInt_ok s n _ (by omega) HPI.out).mono ?_
  rintro e w1 ⟨rfl, hb1⟩
  go_wp2_with fail
  refine (newInt_any _ _).mono ?_
  rintro e w2 ⟨rfl, hb2⟩
  have HB1 := Lib.hid ((HBW.out.trans (hb1.mono (by rw [HZ.out]; omega))).trans (hb2.mono (Nat.le_trans (by rw [HZ.out]; omega) hb1.size)))
  have HG := Lib.hid (IsBlk.below (IsBlk.below HB.out.2.1 hb1 (by rw [HZ.out]; omega)) hb2 (Nat.lt_of_lt_of_le (by rw [HZ.out]; omega) hb1.size))
  have HR := Lib.hid (IsBlk.below (IsBlk.below HB.out.1 hb1 (by rw [HZ.out]; omega)) hb2 (Nat.lt_of_lt_of_le (by rw [HZ.out]; omega) hb1.size))
  clear hb1 hb2
  obtain ⟨c0, c1, c2, f0, f1, f2⟩ := HG.out.three
  go_wp2_with fail
  clear c0 c1 c2 f0 f1 f2
  obtain ⟨w3, h3, hg3, hb3, hz3, hk3⟩ := store3 HG.out (.int .i64 1) (.int .i64 n) (.string ⟨#[]⟩)
  rw [h3]
  have HR3 := Lib.hid (show IsBlk w3 w.heap.size 23 #[.int .i64 0, .int .i64 0, .string ⟨#[]⟩] from (hk3 w.heap.size (by omega)).trans HR.out)
  have HB3 := Lib.hid (HB1.out.trans (hb3.mono (by omega)))
  have HG3 := Lib.hid hg3
  clear h3 hg3 hb3 hz3 hk3
  refine (HV.out _).mono ?_
  rintro e w4 ⟨rfl, hb4⟩
  have HB4 := Lib.hid (HB3.out.trans (hb4.mono HB3.out.size))
  have HG4 := Lib.hid (HG3.out.below hb4 HG3.out.lt)
  have HR4 := Lib.hid (HR3.out.below hb4 HR3.out.lt)
  clear hb4
  obtain ⟨c0, c1, c2, f0, f1, f2⟩ := HG4.out.three
  go_wp2_with fail
  clear c0 c1 c2 f0 f1 f2
  refine (HF.out _ (HE.out.below HB4.out (Nat.le_refl _))).mono ?_
  rintro e w5 ⟨rfl, hb5⟩
  have HB5 := Lib.hid (HB4.out.trans (hb5.mono HB4.out.size))
  have HG5 := Lib.hid (HG4.out.below hb5 HG4.out.lt)
  have HR5 := Lib.hid (HR4.out.below hb5 HR4.out.lt)
  clear hb5
  obtain ⟨c0, c1, c2, f0, f1, f2⟩ := HG5.out.three
  obtain ⟨d0, d1, d2, g0, g1, g2⟩ := HR5.out.three
  go_wp2
  clear c0 c1 c2 f0 f1 f2 d0 d1 d2 g0 g1 g2
  obtain ⟨w6, h6, hg6, hb6, hz6, hk6⟩ := store3 HR5.out (.int .i64 1) (.int .i64 n) (.string ⟨#[]⟩)
  rw [h6]
  obtain ⟨d0, d1, d2, _, _, _⟩ := hg6.three
  exact bodyPost_ret (v := .tuple #[.agg #[.int .i64 1, .int .i64 n, .string ⟨#[]⟩], .int .i64 0]) (by simp [results, Tryd.results12, go_sem, d0, d1, d2]) rfl ⟨rfl, HB5.out.trans hb6⟩

set_option maxHeartbeats 1000000 in
theorem parse_int_other (s : ByteArray) (w : World) (hs : s.size ≤ 4294967280) (n : Int) (hp : Lib.hasPrefix s.data.toList [39] = false) (hpi : Lib.parseIntB 64 s.data.toList = .ok n) (h0 : -9223372036854775808 ≤ n) (h1 : n ≤ 9223372036854775807) (h : s.data.toList ≠ fmtL 1 n ⟨#[]⟩) (hE : Env w) :
    Calls Tryd.prog 12 #[.string s] w fun e w' => e = .returned (.tuple #[.agg #[.int .i64 0, .int .i64 0, .string ⟨#[]⟩], .int .i64 2]) ∧ Below w.heap.size w w' := by
  have hP : ∀ w : World, Calls Tryd.prog 35 #[.string s, .string ⟨#[39]⟩] w fun e w' => e = .returned (.bool false) ∧ w = w' := fun w => by
    have := hasPrefix_any s ⟨#[39]⟩ w; rwa [show Lib.hasPrefix s.data.toList [39] = false from hp] at this
  have HP := Lib.hid hP
  clear hP hp
  have HPI := Lib.hid hpi
  clear hpi
  have hval : validB 1 n ⟨#[]⟩ = true := by simp [validB]
  have hV : ∀ w : World, Calls Tryd.prog 17 #[.agg #[.int .i64 1, .int .i64 n, .string ⟨#[]⟩]] w fun e w' => e = .returned (.bool true) ∧ Below w.heap.size w w' := fun w => by
    have := valid_any 1 (n) ⟨#[]⟩ w; rwa [hval] at this
  have HV := Lib.hid hV
  clear hV
  have hF : ∀ w : World, Env w → Calls Tryd.prog 14 #[.agg #[.int .i64 1, .int .i64 n, .string ⟨#[]⟩]] w fun e w' => e = .returned (.string ⟨(fmtL 1 (n) ⟨#[]⟩).toArray⟩) ∧ Below w.heap.size w w' := fun w hE => format_any 1 (n) ⟨#[]⟩ w h0 h1 hE
  have HF := Lib.hid hF
  clear hF
  have hne : (fmtL 1 n ⟨#[]⟩ == s.toList) = false := beq_no _ s h
  clear hval h
  have HE := Lib.hid hE
  clear hE
  obtain ⟨W, hW, hbW, hz⟩ := blk2 w 23 23 #[.int .i64 0, .int .i64 0, .string ⟨#[]⟩] #[.int .i64 0, .int .i64 0, .string ⟨#[]⟩]
  have HW := Lib.hid hW
  have HB := Lib.hid hz
  have HZ := Lib.hid hz.2.2
  have HBW := Lib.hid hbW
  clear hW hz hbW
  go_enter Tryd.func12, Tryd.ntmps12
  go_wp2_with fail
  rw [HW.out]
  refine (HP.out _).mono ?_
  rintro e w1 ⟨rfl, rfl⟩
  go_wp2_with fail
  refine (parseInt_ok s n _ (by omega) HPI.out).mono ?_
  rintro e w1 ⟨rfl, hb1⟩
  go_wp2_with fail
  refine (newInt_any _ _).mono ?_
  rintro e w2 ⟨rfl, hb2⟩
  have HB1 := Lib.hid ((HBW.out.trans (hb1.mono (by rw [HZ.out]; omega))).trans (hb2.mono (Nat.le_trans (by rw [HZ.out]; omega) hb1.size)))
  have HG := Lib.hid (IsBlk.below (IsBlk.below HB.out.2.1 hb1 (by rw [HZ.out]; omega)) hb2 (Nat.lt_of_lt_of_le (by rw [HZ.out]; omega) hb1.size))
  have HR := Lib.hid (IsBlk.below (IsBlk.below HB.out.1 hb1 (by rw [HZ.out]; omega)) hb2 (Nat.lt_of_lt_of_le (by rw [HZ.out]; omega) hb1.size))
  clear hb1 hb2
  obtain ⟨c0, c1, c2, f0, f1, f2⟩ := HG.out.three
  go_wp2_with fail
  clear c0 c1 c2 f0 f1 f2
  obtain ⟨w3, h3, hg3, hb3, hz3, hk3⟩ := store3 HG.out (.int .i64 1) (.int .i64 n) (.string ⟨#[]⟩)
  rw [h3]
  have HR3 := Lib.hid (show IsBlk w3 w.heap.size 23 #[.int .i64 0, .int .i64 0, .string ⟨#[]⟩] from (hk3 w.heap.size (by omega)).trans HR.out)
  have HB3 := Lib.hid (HB1.out.trans (hb3.mono (by omega)))
  have HG3 := Lib.hid hg3
  clear h3 hg3 hb3 hz3 hk3
  refine (HV.out _).mono ?_
  rintro e w4 ⟨rfl, hb4⟩
  have HB4 := Lib.hid (HB3.out.trans (hb4.mono HB3.out.size))
  have HG4 := Lib.hid (HG3.out.below hb4 HG3.out.lt)
  have HR4 := Lib.hid (HR3.out.below hb4 HR3.out.lt)
  clear hb4
  obtain ⟨c0, c1, c2, f0, f1, f2⟩ := HG4.out.three
  go_wp2_with fail
  clear c0 c1 c2 f0 f1 f2
  refine (HF.out _ (HE.out.below HB4.out (Nat.le_refl _))).mono ?_
  rintro e w5 ⟨rfl, hb5⟩
  have HB5 := Lib.hid (HB4.out.trans (hb5.mono HB4.out.size))
  have HG5 := Lib.hid (HG4.out.below hb5 HG4.out.lt)
  have HR5 := Lib.hid (HR4.out.below hb5 HR4.out.lt)
  clear hb5
  obtain ⟨c0, c1, c2, f0, f1, f2⟩ := HG5.out.three
  obtain ⟨d0, d1, d2, g0, g1, g2⟩ := HR5.out.three
  go_wp2
  clear c0 c1 c2 f0 f1 f2 d0 d1 d2 g0 g1 g2
  obtain ⟨w6, h6, hg6, hb6, hz6, hk6⟩ := store3 HR5.out (.int .i64 0) (.int .i64 0) (.string ⟨#[]⟩)
  rw [h6]
  obtain ⟨d0, d1, d2, _, _, _⟩ := hg6.three
  exact bodyPost_ret (v := .tuple #[.agg #[.int .i64 0, .int .i64 0, .string ⟨#[]⟩], .int .i64 2]) (by simp [results, Tryd.results12, go_sem, d0, d1, d2]) rfl ⟨rfl, HB5.out.trans hb6⟩

set_option maxHeartbeats 1000000 in
theorem parse_short (s : ByteArray) (w : World) (hs : s.size ≤ 4294967280) (hp : Lib.hasPrefix s.data.toList [39] = true) (h2 : s.size < 2) (hE : Env w) :
    Calls Tryd.prog 12 #[.string s] w fun e w' => e = .returned (.tuple #[.agg #[.int .i64 0, .int .i64 0, .string ⟨#[]⟩], .int .i64 2]) ∧ Below w.heap.size w w' := by
  have hP : ∀ w : World, Calls Tryd.prog 35 #[.string s, .string ⟨#[39]⟩] w fun e w' => e = .returned (.bool true) ∧ w = w' := fun w => by
    have := hasPrefix_any s ⟨#[39]⟩ w; rwa [show Lib.hasPrefix s.data.toList [39] = true from hp] at this
  have HP := Lib.hid hP
  clear hP hp
  have HE := Lib.hid hE
  clear hE
  obtain ⟨W, hW, hbW, hz⟩ := blk2 w 23 23 #[.int .i64 0, .int .i64 0, .string ⟨#[]⟩] #[.int .i64 0, .int .i64 0, .string ⟨#[]⟩]
  have HW := Lib.hid hW
  have HB := Lib.hid hz
  have HZ := Lib.hid hz.2.2
  have HBW := Lib.hid hbW
  clear hW hz hbW
  go_enter Tryd.func12, Tryd.ntmps12
  go_wp2_with fail
  rw [HW.out]
  refine (HP.out _).mono ?_
  rintro e w1 ⟨rfl, rfl⟩
  have HG1 := Lib.hid HB.out.2.1
  have HR1 := Lib.hid HB.out.1
  have HB1 := Lib.hid HBW.out
  obtain ⟨c0, c1, c2, f0, f1, f2⟩ := HG1.out.three
  obtain ⟨d0, d1, d2, g0, g1, g2⟩ := HR1.out.three
  go_wp2
  clear c0 c1 c2 f0 f1 f2 d0 d1 d2 g0 g1 g2
  obtain ⟨w6, h6, hg6, hb6, hz6, hk6⟩ := store3 HR1.out (.int .i64 0) (.int .i64 0) (.string ⟨#[]⟩)
  rw [h6]
  obtain ⟨d0, d1, d2, _, _, _⟩ := hg6.three
  exact bodyPost_ret (v := .tuple #[.agg #[.int .i64 0, .int .i64 0, .string ⟨#[]⟩], .int .i64 2]) (by simp [results, Tryd.results12, go_sem, d0, d1, d2]) rfl ⟨rfl, HB1.out.trans hb6⟩

set_option maxHeartbeats 1000000 in
theorem parse_str_same (s : ByteArray) (w : World) (hs : s.size ≤ 4294967280) (st : ByteArray) (hst : st = ⟨(rep [39, 39] [39] (s.extract 1 (s.size - 1)).data.toList).toArray⟩) (hp : Lib.hasPrefix s.data.toList [39] = true) (h2 : 2 ≤ s.size) (hval : validB 2 0 st = true) (h : s.data.toList = fmtL 2 0 st) (hE : Env w) :
    Calls Tryd.prog 12 #[.string s] w fun e w' => e = .returned (.tuple #[.agg #[.int .i64 2, .int .i64 0, .string st], .int .i64 0]) ∧ Below w.heap.size w w' := by
  have hP : ∀ w : World, Calls Tryd.prog 35 #[.string s, .string ⟨#[39]⟩] w fun e w' => e = .returned (.bool true) ∧ w = w' := fun w => by
    have := hasPrefix_any s ⟨#[39]⟩ w; rwa [show Lib.hasPrefix s.data.toList [39] = true from hp] at this
  have HP := Lib.hid hP
  clear hP hp
  have HST := Lib.hid hst
  clear hst
  have hV : ∀ w : World, Calls Tryd.prog 17 #[.agg #[.int .i64 2, .int .i64 0, .string st]] w fun e w' => e = .returned (.bool true) ∧ Below w.heap.size w w' := fun w => by
    have := valid_any 2 (0) st w; rwa [hval] at this
  have HV := Lib.hid hV
  clear hV
  have hF : ∀ w : World, Env w → Calls Tryd.prog 14 #[.agg #[.int .i64 2, .int .i64 0, .string st]] w fun e w' => e = .returned (.string ⟨(fmtL 2 (0) st).toArray⟩) ∧ Below w.heap.size w w' := fun w hE => format_any 2 (0) st w (by omega) (by omega) hE
  have HF := Lib.hid hF
  clear hF
  have hne : (fmtL 2 0 st == s.toList) = true := beq_yes _ s h
  clear hval h
  have HE := Lib.hid hE
  clear hE
  obtain ⟨W, hW, hbW, hz⟩ := blk2 w 23 23 #[.int .i64 0, .int .i64 0, .string ⟨#[]⟩] #[.int .i64 0, .int .i64 0, .string ⟨#[]⟩]
  have HW := Lib.hid hW
  have HB := Lib.hid hz
  have HZ := Lib.hid hz.2.2
  have HBW := Lib.hid hbW
  clear hW hz hbW
  go_enter Tryd.func12, Tryd.ntmps12
  go_wp2_with fail
  rw [HW.out]
  refine (HP.out _).mono ?_
  rintro e w1 ⟨rfl, rfl⟩
  go_wp2_with fail
  refine (replaceAll_any _ ⟨#[39, 39]⟩ ⟨#[39]⟩ _ ?h1 (by decide) (by decide) (HE.out.below HBW.out (Nat.le_refl _))).mono ?_
  case h1 => simp; omega
  rintro e w1 ⟨rfl, hb1⟩
  rw [show Lib.replaceAll (s.extract 1 (s.size - 1)).data.toList [39, 39] [39] = rep [39, 39] [39] (s.extract 1 (s.size - 1)).data.toList from replaceAll_rep _ (by decide), ← HST.out]
  go_wp2_with fail
  refine (newString_any _ _).mono ?_
  rintro e w2 ⟨rfl, hb2⟩
  have HB1 := Lib.hid ((HBW.out.trans (hb1.mono (by rw [HZ.out]; omega))).trans (hb2.mono (Nat.le_trans (by rw [HZ.out]; omega) hb1.size)))
  have HG := Lib.hid (IsBlk.below (IsBlk.below HB.out.2.1 hb1 (by rw [HZ.out]; omega)) hb2 (Nat.lt_of_lt_of_le (by rw [HZ.out]; omega) hb1.size))
  have HR := Lib.hid (IsBlk.below (IsBlk.below HB.out.1 hb1 (by rw [HZ.out]; omega)) hb2 (Nat.lt_of_lt_of_le (by rw [HZ.out]; omega) hb1.size))
  clear hb1 hb2
  obtain ⟨c0, c1, c2, f0, f1, f2⟩ := HG.out.three
  go_wp2_with fail
  clear c0 c1 c2 f0 f1 f2
  obtain ⟨w3, h3, hg3, hb3, hz3, hk3⟩ := store3 HG.out (.int .i64 2) (.int .i64 0) (.string st)
  rw [h3]
  have HR3 := Lib.hid (show IsBlk w3 w.heap.size 23 #[.int .i64 0, .int .i64 0, .string ⟨#[]⟩] from (hk3 w.heap.size (by omega)).trans HR.out)
  have HB3 := Lib.hid (HB1.out.trans (hb3.mono (by omega)))
  have HG3 := Lib.hid hg3
  clear h3 hg3 hb3 hz3 hk3
  refine (HV.out _).mono ?_
  rintro e w4 ⟨rfl, hb4⟩
  have HB4 := Lib.hid (HB3.out.trans (hb4.mono HB3.out.size))
  have HG4 := Lib.hid (HG3.out.below hb4 HG3.out.lt)
  have HR4 := Lib.hid (HR3.out.below hb4 HR3.out.lt)
  clear hb4
  obtain ⟨c0, c1, c2, f0, f1, f2⟩ := HG4.out.three
  go_wp2_with fail
  clear c0 c1 c2 f0 f1 f2
  refine (HF.out _ (HE.out.below HB4.out (Nat.le_refl _))).mono ?_
  rintro e w5 ⟨rfl, hb5⟩
  have HB5 := Lib.hid (HB4.out.trans (hb5.mono HB4.out.size))
  have HG5 := Lib.hid (HG4.out.below hb5 HG4.out.lt)
  have HR5 := Lib.hid (HR4.out.below hb5 HR4.out.lt)
  clear hb5
  obtain ⟨c0, c1, c2, f0, f1, f2⟩ := HG5.out.three
  obtain ⟨d0, d1, d2, g0, g1, g2⟩ := HR5.out.three
  go_wp2
  clear c0 c1 c2 f0 f1 f2 d0 d1 d2 g0 g1 g2
  obtain ⟨w6, h6, hg6, hb6, hz6, hk6⟩ := store3 HR5.out (.int .i64 2) (.int .i64 0) (.string st)
  rw [h6]
  obtain ⟨d0, d1, d2, _, _, _⟩ := hg6.three
  exact bodyPost_ret (v := .tuple #[.agg #[.int .i64 2, .int .i64 0, .string st], .int .i64 0]) (by simp [results, Tryd.results12, go_sem, d0, d1, d2]) rfl ⟨rfl, HB5.out.trans hb6⟩

set_option maxHeartbeats 1000000 in
theorem parse_str_other (s : ByteArray) (w : World) (hs : s.size ≤ 4294967280) (st : ByteArray) (hst : st = ⟨(rep [39, 39] [39] (s.extract 1 (s.size - 1)).data.toList).toArray⟩) (hp : Lib.hasPrefix s.data.toList [39] = true) (h2 : 2 ≤ s.size) (hval : validB 2 0 st = true) (h : s.data.toList ≠ fmtL 2 0 st) (hE : Env w) :
    Calls Tryd.prog 12 #[.string s] w fun e w' => e = .returned (.tuple #[.agg #[.int .i64 0, .int .i64 0, .string ⟨#[]⟩], .int .i64 2]) ∧ Below w.heap.size w w' := by
  have hP : ∀ w : World, Calls Tryd.prog 35 #[.string s, .string ⟨#[39]⟩] w fun e w' => e = .returned (.bool true) ∧ w = w' := fun w => by
    have := hasPrefix_any s ⟨#[39]⟩ w; rwa [show Lib.hasPrefix s.data.toList [39] = true from hp] at this
  have HP := Lib.hid hP
  clear hP hp
  have HST := Lib.hid hst
  clear hst
  have hV : ∀ w : World, Calls Tryd.prog 17 #[.agg #[.int .i64 2, .int .i64 0, .string st]] w fun e w' => e = .returned (.bool true) ∧ Below w.heap.size w w' := fun w => by
    have := valid_any 2 (0) st w; rwa [hval] at this
  have HV := Lib.hid hV
  clear hV
  have hF : ∀ w : World, Env w → Calls Tryd.prog 14 #[.agg #[.int .i64 2, .int .i64 0, .string st]] w fun e w' => e = .returned (.string ⟨(fmtL 2 (0) st).toArray⟩) ∧ Below w.heap.size w w' := fun w hE => format_any 2 (0) st w (by omega) (by omega) hE
  have HF := Lib.hid hF
  clear hF
  have hne : (fmtL 2 0 st == s.toList) = false := beq_no _ s h
  clear hval h
  have HE := Lib.hid hE
  clear hE
  obtain ⟨W, hW, hbW, hz⟩ := blk2 w 23 23 #[.int .i64 0, .int .i64 0, .string ⟨#[]⟩] #[.int .i64 0, .int .i64 0, .string ⟨#[]⟩]
  have HW := Lib.hid hW
  have HB := Lib.hid hz
  have HZ := Lib.hid hz.2.2
  have HBW := Lib.hid hbW
  clear hW hz hbW
  go_enter Tryd.func12, Tryd.ntmps12
  go_wp2_with fail
  rw [HW.out]
  refine (HP.out _).mono ?_
  rintro e w1 ⟨rfl, rfl⟩
  go_wp2_with fail
  refine (replaceAll_any _ ⟨#[39, 39]⟩ ⟨#[39]⟩ _ ?h1 (by decide) (by decide) (HE.out.below HBW.out (Nat.le_refl _))).mono ?_
  case h1 => simp; omega
  rintro e w1 ⟨rfl, hb1⟩
  rw [show Lib.replaceAll (s.extract 1 (s.size - 1)).data.toList [39, 39] [39] = rep [39, 39] [39] (s.extract 1 (s.size - 1)).data.toList from replaceAll_rep _ (by decide), ← HST.out]
  go_wp2_with fail
  refine (newString_any _ _).mono ?_
  rintro e w2 ⟨rfl, hb2⟩
  have HB1 := Lib.hid ((HBW.out.trans (hb1.mono (by rw [HZ.out]; omega))).trans (hb2.mono (Nat.le_trans (by rw [HZ.out]; omega) hb1.size)))
  have HG := Lib.hid (IsBlk.below (IsBlk.below HB.out.2.1 hb1 (by rw [HZ.out]; omega)) hb2 (Nat.lt_of_lt_of_le (by rw [HZ.out]; omega) hb1.size))
  have HR := Lib.hid (IsBlk.below (IsBlk.below HB.out.1 hb1 (by rw [HZ.out]; omega)) hb2 (Nat.lt_of_lt_of_le (by rw [HZ.out]; omega) hb1.size))
  clear hb1 hb2
  obtain ⟨c0, c1, c2, f0, f1, f2⟩ := HG.out.three
  go_wp2_with fail
  clear c0 c1 c2 f0 f1 f2
  obtain ⟨w3, h3, hg3, hb3, hz3, hk3⟩ := store3 HG.out (.int .i64 2) (.int .i64 0) (.string st)
  rw [h3]
  have HR3 := Lib.hid (show IsBlk w3 w.heap.size 23 #[.int .i64 0, .int .i64 0, .string ⟨#[]⟩] from (hk3 w.heap.size (by omega)).trans HR.out)
  have HB3 := Lib.hid (HB1.out.trans (hb3.mono (by omega)))
  have HG3 := Lib.hid hg3
  clear h3 hg3 hb3 hz3 hk3
  refine (HV.out _).mono ?_
  rintro e w4 ⟨rfl, hb4⟩
  have HB4 := Lib.hid (HB3.out.trans (hb4.mono HB3.out.size))
  have HG4 := Lib.hid (HG3.out.below hb4 HG3.out.lt)
  have HR4 := Lib.hid (HR3.out.below hb4 HR3.out.lt)
  clear hb4
  obtain ⟨c0, c1, c2, f0, f1, f2⟩ := HG4.out.three
  go_wp2_with fail
  clear c0 c1 c2 f0 f1 f2
  refine (HF.out _ (HE.out.below HB4.out (Nat.le_refl _))).mono ?_
  rintro e w5 ⟨rfl, hb5⟩
  have HB5 := Lib.hid (HB4.out.trans (hb5.mono HB4.out.size))
  have HG5 := Lib.hid (HG4.out.below hb5 HG4.out.lt)
  have HR5 := Lib.hid (HR4.out.below hb5 HR4.out.lt)
  clear hb5
  obtain ⟨c0, c1, c2, f0, f1, f2⟩ := HG5.out.three
  obtain ⟨d0, d1, d2, g0, g1, g2⟩ := HR5.out.three
  go_wp2
  clear c0 c1 c2 f0 f1 f2 d0 d1 d2 g0 g1 g2
  obtain ⟨w6, h6, hg6, hb6, hz6, hk6⟩ := store3 HR5.out (.int .i64 0) (.int .i64 0) (.string ⟨#[]⟩)
  rw [h6]
  obtain ⟨d0, d1, d2, _, _, _⟩ := hg6.three
  exact bodyPost_ret (v := .tuple #[.agg #[.int .i64 0, .int .i64 0, .string ⟨#[]⟩], .int .i64 2]) (by simp [results, Tryd.results12, go_sem, d0, d1, d2]) rfl ⟨rfl, HB5.out.trans hb6⟩

set_option maxHeartbeats 1000000 in
theorem parse_str_bad (s : ByteArray) (w : World) (hs : s.size ≤ 4294967280) (st : ByteArray) (hst : st = ⟨(rep [39, 39] [39] (s.extract 1 (s.size - 1)).data.toList).toArray⟩) (hp : Lib.hasPrefix s.data.toList [39] = true) (h2 : 2 ≤ s.size) (hval : validB 2 0 st = false) (hE : Env w) :
    Calls Tryd.prog 12 #[.string s] w fun e w' => e = .returned (.tuple #[.agg #[.int .i64 0, .int .i64 0, .string ⟨#[]⟩], .int .i64 2]) ∧ Below w.heap.size w w' := by
  have hP : ∀ w : World, Calls Tryd.prog 35 #[.string s, .string ⟨#[39]⟩] w fun e w' => e = .returned (.bool true) ∧ w = w' := fun w => by
    have := hasPrefix_any s ⟨#[39]⟩ w; rwa [show Lib.hasPrefix s.data.toList [39] = true from hp] at this
  have HP := Lib.hid hP
  clear hP hp
  have HST := Lib.hid hst
  clear hst
  have hV : ∀ w : World, Calls Tryd.prog 17 #[.agg #[.int .i64 2, .int .i64 0, .string st]] w fun e w' => e = .returned (.bool false) ∧ Below w.heap.size w w' := fun w => by
    have := valid_any 2 (0) st w; rwa [hval] at this
  have HV := Lib.hid hV
  clear hV
  clear hval
  have HE := Lib.hid hE
  clear hE
  obtain ⟨W, hW, hbW, hz⟩ := blk2 w 23 23 #[.int .i64 0, .int .i64 0, .string ⟨#[]⟩] #[.int .i64 0, .int .i64 0, .string ⟨#[]⟩]
  have HW := Lib.hid hW
  have HB := Lib.hid hz
  have HZ := Lib.hid hz.2.2
  have HBW := Lib.hid hbW
  clear hW hz hbW
  go_enter Tryd.func12, Tryd.ntmps12
  go_wp2_with fail
  rw [HW.out]
  refine (HP.out _).mono ?_
  rintro e w1 ⟨rfl, rfl⟩
  go_wp2_with fail
  refine (replaceAll_any _ ⟨#[39, 39]⟩ ⟨#[39]⟩ _ ?h1 (by decide) (by decide) (HE.out.below HBW.out (Nat.le_refl _))).mono ?_
  case h1 => simp; omega
  rintro e w1 ⟨rfl, hb1⟩
  rw [show Lib.replaceAll (s.extract 1 (s.size - 1)).data.toList [39, 39] [39] = rep [39, 39] [39] (s.extract 1 (s.size - 1)).data.toList from replaceAll_rep _ (by decide), ← HST.out]
  go_wp2_with fail
  refine (newString_any _ _).mono ?_
  rintro e w2 ⟨rfl, hb2⟩
  have HB1 := Lib.hid ((HBW.out.trans (hb1.mono (by rw [HZ.out]; omega))).trans (hb2.mono (Nat.le_trans (by rw [HZ.out]; omega) hb1.size)))
  have HG := Lib.hid (IsBlk.below (IsBlk.below HB.out.2.1 hb1 (by rw [HZ.out]; omega)) hb2 (Nat.lt_of_lt_of_le (by rw [HZ.out]; omega) hb1.size))
  have HR := Lib.hid (IsBlk.below (IsBlk.below HB.out.1 hb1 (by rw [HZ.out]; omega)) hb2 (Nat.lt_of_lt_of_le (by rw [HZ.out]; omega) hb1.size))
  clear hb1 hb2
  obtain ⟨c0, c1, c2, f0, f1, f2⟩ := HG.out.three
  go_wp2_with fail
  clear c0 c1 c2 f0 f1 f2
  obtain ⟨w3, h3, hg3, hb3, hz3, hk3⟩ := store3 HG.out (.int .i64 2) (.int .i64 0) (.string st)
  rw [h3]
  have HR3 := Lib.hid (show IsBlk w3 w.heap.size 23 #[.int .i64 0, .int .i64 0, .string ⟨#[]⟩] from (hk3 w.heap.size (by omega)).trans HR.out)
  have HB3 := Lib.hid (HB1.out.trans (hb3.mono (by omega)))
  have HG3 := Lib.hid hg3
  clear h3 hg3 hb3 hz3 hk3
  refine (HV.out _).mono ?_
  rintro e w4 ⟨rfl, hb4⟩
  have HB4 := Lib.hid (HB3.out.trans (hb4.mono HB3.out.size))
  have HG4 := Lib.hid (HG3.out.below hb4 HG3.out.lt)
  have HR4 := Lib.hid (HR3.out.below hb4 HR3.out.lt)
  clear hb4
  obtain ⟨c0, c1, c2, f0, f1, f2⟩ := HG4.out.three
  obtain ⟨d0, d1, d2, g0, g1, g2⟩ := HR4.out.three
  go_wp2
  clear c0 c1 c2 f0 f1 f2 d0 d1 d2 g0 g1 g2
  obtain ⟨w6, h6, hg6, hb6, hz6, hk6⟩ := store3 HR4.out (.int .i64 0) (.int .i64 0) (.string ⟨#[]⟩)
  rw [h6]
  obtain ⟨d0, d1, d2, _, _, _⟩ := hg6.three
  exact bodyPost_ret (v := .tuple #[.agg #[.int .i64 0, .int .i64 0, .string ⟨#[]⟩], .int .i64 2]) (by simp [results, Tryd.results12, go_sem, d0, d1, d2]) rfl ⟨rfl, HB4.out.trans hb6⟩

theorem parse_range (l : List UInt8) (n : Int) (h : Lib.parseIntB 64 l = .ok n) : -9223372036854775808 ≤ n ∧ n ≤ 9223372036854775807 := by
  have e63 : (2 ^ (64 - 1) : Nat) = 9223372036854775808 := by decide
  cases l with
  | nil => simp [Lib.parseIntB] at h
  | cons c r =>
    simp only [Lib.parseIntB, e63] at h
    split at h
    · cases h
    · cases h
    · split at h
      · cases h
      · split at h
        · cases h
        · injection h with h
          subst h
          split <;> omega
theorem empty_of_valid {n : Int} {st : ByteArray} (h : validB 1 n st = true) : st = ⟨#[]⟩ := by
  apply ByteArray.ext
  simp [validB] at h
  simpa using h
theorem two_of_valid {t n : Int} {st : ByteArray} (ht : t ≠ 1) (h : validB t n st = true) : t = 2 ∧ n = 0 ∧ st.size ≤ 64 ∧ st.data.toList.all okB = true := by
  simp [validB, ht] at h
  exact ⟨h.1.1.1, h.1.1.2, h.1.2, by simpa using h.2⟩
theorem inner_quote (s st : ByteArray) (h : s.data.toList = [39] ++ dbl st.data.toList ++ [39]) : (s.extract 1 (s.size - 1)).data.toList = dbl st.data.toList := by
  have hz : s.size = (dbl st.data.toList).length + 2 := by
    have := congrArg List.length h; simp at this; omega
  rw [Lib.extract_data, h, hz]
  simp
theorem parse_ok (t n : Int) (st s : ByteArray) (w : World) (hs : s.size ≤ 4294967280) (hval : validB t n st = true) (hf : s.data.toList = fmtL t n st) (h0 : -9223372036854775808 ≤ n) (h1 : n ≤ 9223372036854775807) (hE : Env w) :
    Calls Tryd.prog 12 #[.string s] w fun e w' => e = .returned (.tuple #[.agg #[.int .i64 t, .int .i64 n, .string st], .int .i64 0]) ∧ Below w.heap.size w w' := by
  by_cases ht : t = 1
  · subst ht
    obtain rfl := empty_of_valid hval
    have hf' : s.data.toList = Lib.itoa n := by rw [hf]; simp [fmtL, hval]
    refine parse_int_same s w hs n ?_ (by rw [hf']; exact parse_itoa n h0 h1) h0 h1 hf hE
    obtain ⟨c, r, e, hc⟩ := itoa_head n
    exact not_prefix _ fun r' e' => hc (by rw [hf', e] at e'; injection e')
  · obtain ⟨rfl, rfl, hst, _⟩ := two_of_valid ht hval
    have hf' : s.data.toList = [39] ++ dbl st.data.toList ++ [39] := by rw [hf]; simp [fmtL, hval]
    have hz : s.size = (dbl st.data.toList).length + 2 := by
      have := congrArg List.length hf'; simp at this; omega
    refine parse_str_same s w hs st ?_ (by rw [hf']; exact prefix_quote _) (by omega) hval hf hE
    rw [inner_quote s st hf', rep_undbl, mk_data]
theorem parse_bad (s : ByteArray) (w : World) (hs : s.size ≤ 4294967280) (h : ∀ (t n : Int) (st : ByteArray), validB t n st = true → -9223372036854775808 ≤ n → n ≤ 9223372036854775807 → s.data.toList ≠ fmtL t n st) (hE : Env w) :
    Calls Tryd.prog 12 #[.string s] w fun e w' => e = .returned (.tuple #[.agg #[.int .i64 0, .int .i64 0, .string ⟨#[]⟩], .int .i64 2]) ∧ Below w.heap.size w w' := by
  cases hp : Lib.hasPrefix s.data.toList [39]
  · by_cases hn : ∃ n, Lib.parseIntB 64 s.data.toList = .ok n
    · obtain ⟨n, hn⟩ := hn
      obtain ⟨h0, h1⟩ := parse_range _ _ hn
      exact parse_int_other s w hs n hp hn h0 h1 (h 1 n ⟨#[]⟩ (by simp [validB]) h0 h1) hE
    · exact parse_noint s w hs hp (fun v hv => hn ⟨v, hv⟩) hE
  · rcases Nat.lt_or_ge s.size 2 with h2 | h2
    · exact parse_short s w hs hp h2 hE
    · obtain ⟨st, hst⟩ : ∃ st : ByteArray, st = ⟨(rep [39, 39] [39] (s.extract 1 (s.size - 1)).data.toList).toArray⟩ := ⟨_, rfl⟩
      cases hv : validB 2 0 st
      · exact parse_str_bad s w hs st hst hp h2 hv hE
      · exact parse_str_other s w hs st hst hp h2 hv (h 2 0 st hv (by omega) (by omega)) hE
/-- A valid value has one text. -/
theorem fmt_inj {t n t' n' : Int} {st st' : ByteArray} (hv : validB t n st = true) (hv' : validB t' n' st' = true) (h0 : -9223372036854775808 ≤ n) (h1 : n ≤ 9223372036854775807) (h0' : -9223372036854775808 ≤ n') (h1' : n' ≤ 9223372036854775807)
    (h : fmtL t n st = fmtL t' n' st') : t = t' ∧ n = n' ∧ st = st' := by
  by_cases ht : t = 1
  · subst ht
    obtain rfl := empty_of_valid hv
    by_cases ht' : t' = 1
    · subst ht'
      obtain rfl := empty_of_valid hv'
      exact ⟨rfl, itoa_inj h0 h1 h0' h1' (by simpa [fmtL, hv, hv'] using h), rfl⟩
    · obtain ⟨rfl, rfl, _, _⟩ := two_of_valid ht' hv'
      obtain ⟨c, r, e, hc⟩ := itoa_head n
      simp [fmtL, hv, hv', e] at h
      exact absurd h.1 hc
  · obtain ⟨rfl, rfl, _, _⟩ := two_of_valid ht hv
    by_cases ht' : t' = 1
    · subst ht'
      obtain rfl := empty_of_valid hv'
      obtain ⟨c, r, e, hc⟩ := itoa_head n'
      simp [fmtL, hv, hv', e] at h
      exact absurd h.1.symm hc
    · obtain ⟨rfl, rfl, _, _⟩ := two_of_valid ht' hv'
      refine ⟨rfl, rfl, ?_⟩
      have : dbl st.data.toList = dbl st'.data.toList := by simpa [fmtL, hv, hv'] using h
      have := dbl_inj this
      rw [← mk_data st, ← mk_data st', this]
end Go.Proofs.YtpjfkhbdhdolfaaDoor
