/-
  The reference's Valid, Int, Str, Compare: the same functions of a value as the program's.
-/
import Derived.Test.YtpjfkhbdhdolfaaDoorTup
import Derived.Test.YtpjfkhbdhdolfaaDoorVald
namespace Go.Proofs.YtpjfkhbdhdolfaaDoor
open Go.RowKit

theorem refInt_any (n : Int) (w : World) :
    Calls Tryd.prog 23 #[.int .i64 n] w fun e w' => e = .returned (.agg #[.int .i64 1, .int .i64 n, .string ⟨#[]⟩]) ∧ Below w.heap.size w w' := by
  go_enter Tryd.func23, Tryd.ntmps23
  go_wp2
  exact bodyPost_ret (v := .agg #[.int .i64 1, .int .i64 n, .string ⟨#[]⟩]) (by simp [results, Tryd.results23, go_sem]) rfl ⟨rfl, (Below.refl _ _).alloc (Nat.le_refl _) _⟩
theorem refStr_any (s : ByteArray) (w : World) :
    Calls Tryd.prog 25 #[.string s] w fun e w' => e = .returned (.agg #[.int .i64 2, .int .i64 0, .string s]) ∧ Below w.heap.size w w' := by
  go_enter Tryd.func25, Tryd.ntmps25
  go_wp2
  exact bodyPost_ret (v := .agg #[.int .i64 2, .int .i64 0, .string s]) (by simp [results, Tryd.results25, go_sem]) rfl ⟨rfl, (Below.refl _ _).alloc (Nat.le_refl _) _⟩
theorem refValid_int (n : Int) (s : ByteArray) (w : World) :
    Calls Tryd.prog 19 #[.agg #[.int .i64 1, .int .i64 n, .string s]] w fun e w' => e = .returned (.bool (validB 1 n s)) ∧ Below w.heap.size w w' := by
  go_enter Tryd.func19, Tryd.ntmps19
  go_wp2
  go_ret
  exact ⟨by simp [validB, Lib.toList_data], (Below.refl _ _).alloc (Nat.le_refl _) _⟩
theorem refValid_other (t n : Int) (s : ByteArray) (w : World) (h1 : t ≠ 1) (h2 : t ≠ 2) :
    Calls Tryd.prog 19 #[.agg #[.int .i64 t, .int .i64 n, .string s]] w fun e w' => e = .returned (.bool (validB t n s)) ∧ Below w.heap.size w w' := by
  have HF := Lib.hid (show validB t n s = false by simp [validB, h1, h2])
  have g1 : (t == 1) = false := by simpa using h1
  have g3 : (t == 2) = false := by simpa using h2
  clear h1 h2
  go_enter Tryd.func19, Tryd.ntmps19
  go_wp2
  go_ret
  exact ⟨by rw [HF.out]; rfl, (Below.refl _ _).alloc (Nat.le_refl _) _⟩
theorem refValid_str (n : Int) (s : ByteArray) (w : World) (hs : s.size ≤ 9223372036854775807) :
    Calls Tryd.prog 19 #[.agg #[.int .i64 2, .int .i64 n, .string s]] w fun e w' => e = .returned (.bool (validB 2 n s)) ∧ Below w.heap.size w w' := by
  have HF := Lib.hid (show validB 2 n s = (decide (n = 0) && decide (s.size ≤ 64) && s.data.toList.all okB) by simp [validB])
  go_enter Tryd.func19, Tryd.ntmps19
  go_wp2
  go_loop [3] (fun i => ∃ k : Nat, k ≤ s.size ∧ (s.data.toList.take k).all okB = true ∧ i = .int .i64 k) (fun i => s.size - (intOf i).toNat)
  case atStart => exact ⟨0, Nat.zero_le _, by simp, rfl⟩
  case round =>
    obtain ⟨k, hk, hall, rfl⟩ := hrel
    have HA := Lib.hid hall; clear hall
    by_cases hlt : k < s.size
    · have HS := Lib.hid (all_take_succ s k hlt)
      by_cases h1 : 32 ≤ s[k].toNat
      · by_cases h2 : s[k].toNat ≤ 126
        · have HO := Lib.hid (show okB s[k] = true by simp [okB, h1, h2])
          go_wp2
          go_round
          case rel => exact ⟨k + 1, by omega, by rw [HS.out, HA.out, HO.out]; rfl, by go_num⟩
          case measure => simp [intOf]; omega
        · have HO := Lib.hid (show s.data.toList.all okB = false from all_of_take (k + 1) (by rw [HS.out]; simp [okB, h2]))
          go_wp2
          go_ret
          exact ⟨by rw [HF.out, HO.out, Bool.and_false]; rfl, (Below.refl _ _).alloc (Nat.le_refl _) _⟩
      · have HO := Lib.hid (show s.data.toList.all okB = false from all_of_take (k + 1) (by rw [HS.out]; simp [okB, h1]))
        go_wp2
        go_ret
        exact ⟨by rw [HF.out, HO.out, Bool.and_false]; rfl, (Below.refl _ _).alloc (Nat.le_refl _) _⟩
    · have HO := Lib.hid (show s.data.toList.all okB = true by have := HA.out; rwa [List.take_of_length_le (by simp; omega)] at this)
      by_cases hn : n = 0
      · subst hn
        have HF2 := Lib.hid (show decide ((s.size : Int) ≤ 64) = validB 2 0 s by rw [HF.out, HO.out]; simp; omega)
        go_wp2
        go_ret
        exact ⟨by rw [← HF2.out]; rfl, (Below.refl _ _).alloc (Nat.le_refl _) _⟩
      · have HF2 := Lib.hid (show validB 2 n s = false by rw [HF.out, HO.out]; simp [hn])
        have g1 : (n == 0) = false := by simpa using hn
        clear hn
        go_wp2
        go_ret
        exact ⟨by rw [HF2.out]; rfl, (Below.refl _ _).alloc (Nat.le_refl _) _⟩
theorem refValid_any (t n : Int) (s : ByteArray) (w : World) (hs : s.size ≤ 9223372036854775807) :
    Calls Tryd.prog 19 #[.agg #[.int .i64 t, .int .i64 n, .string s]] w fun e w' => e = .returned (.bool (validB t n s)) ∧ Below w.heap.size w w' := by
  by_cases h1 : t = 1
  · subst h1; exact refValid_int n s w
  by_cases h2 : t = 2
  · subst h2; exact refValid_str n s w hs
  · exact refValid_other t n s w h1 h2
theorem less_cmp : ∀ a b : List UInt8, Op.bytesLess a b = decide (Lib.compareBytes a b < 0)
  | [], [] => by simp [Op.bytesLess, Lib.compareBytes]
  | [], _ :: _ => by simp [Op.bytesLess, Lib.compareBytes]
  | _ :: _, [] => by simp [Op.bytesLess, Lib.compareBytes]
  | x :: a, y :: b => by
    have ih := less_cmp a b
    simp only [Op.bytesLess, Lib.compareBytes, UInt8.lt_iff_toNat_lt]
    by_cases h1 : x.toNat < y.toNat
    · simp [h1]
    · by_cases h2 : y.toNat < x.toNat
      · have : ¬ x = y := fun e => by subst e; omega
        simp [h1, h2, this]
      · have : x = y := UInt8.toNat_inj.1 (by omega)
        simp [this, ih]
theorem less_is {a b : ByteArray} {o : Int} (h : Lib.compareBytes a.data.toList b.data.toList = o) : Op.bytesLess a.toList b.toList = decide (o < 0) := by
  rw [Lib.toList_data, Lib.toList_data, less_cmp, h]
theorem same_is {a b : ByteArray} {o : Int} (h : Lib.compareBytes a.data.toList b.data.toList = o) : (a.toList == b.toList) = decide (o = 0) := by
  rw [Lib.toList_data, Lib.toList_data, Bool.eq_iff_iff]
  simp only [beq_iff_eq, decide_eq_true_eq]
  rw [← compareBytes_eq, h]

theorem refCompare_any (ta na : Int) (sa : ByteArray) (tb nb : Int) (sb : ByteArray) (w : World) :
    Calls Tryd.prog 20 #[.agg #[.int .i64 ta, .int .i64 na, .string sa], .agg #[.int .i64 tb, .int .i64 nb, .string sb]] w fun e w' => e = .returned (.int .i64 (cmpV ta na sa tb nb sb)) ∧ Below w.heap.size w w' := by
  rcases cmpI_three ta tb with ⟨e, h⟩ | ⟨e, h⟩ | ⟨e, h⟩
  · have HF := Lib.hid (show cmpV ta na sa tb nb sb = -1 by rw [cmpV, e, or3_first (by decide)])
    have g1 : (ta == tb) = false := by simp; omega
    have g2 : (ta != tb) = true := by simp; omega
    clear e
    go_enter Tryd.func20, Tryd.ntmps20
    go_wp2
    go_ret
    exact ⟨by rw [HF.out]; rfl, ((Below.refl _ _).alloc (Nat.le_refl _) _).alloc (by simp) _⟩
  · subst h
    rcases cmpI_three na nb with ⟨e', h⟩ | ⟨e', h⟩ | ⟨e', h⟩
    · have HF := Lib.hid (show cmpV ta na sa ta nb sb = -1 by rw [cmpV, e, e', or3_second (by decide)])
      have g1 : (na == nb) = false := by simp; omega
      have g2 : (na != nb) = true := by simp; omega
      clear e e'
      go_enter Tryd.func20, Tryd.ntmps20
      go_wp2
      go_ret
      exact ⟨by rw [HF.out]; rfl, ((Below.refl _ _).alloc (Nat.le_refl _) _).alloc (by simp) _⟩
    · subst h
      obtain ⟨o, ho⟩ : ∃ o, Lib.compareBytes sa.data.toList sb.data.toList = o := ⟨_, rfl⟩
      have HF := Lib.hid (show cmpV ta na sa ta na sb = o by rw [cmpV, e, e', or3_third, ho])
      have h3 := compareBytes_three sa.data.toList sb.data.toList
      rw [ho] at h3
      have k1 := less_is ho
      have k2 := same_is ho
      clear e e' ho
      rcases h3 with rfl | rfl | rfl
      · replace k1 : Op.bytesLess sa.toList sb.toList = true := k1.trans (by decide)
        replace k2 : (sa.toList == sb.toList) = false := k2.trans (by decide)
        go_enter Tryd.func20, Tryd.ntmps20
        go_wp2
        go_ret
        exact ⟨by rw [HF.out]; rfl, ((Below.refl _ _).alloc (Nat.le_refl _) _).alloc (by simp) _⟩
      · replace k1 : Op.bytesLess sa.toList sb.toList = false := k1.trans (by decide)
        replace k2 : (sa.toList == sb.toList) = true := k2.trans (by decide)
        go_enter Tryd.func20, Tryd.ntmps20
        go_wp2
        go_ret
        exact ⟨by rw [HF.out]; rfl, ((Below.refl _ _).alloc (Nat.le_refl _) _).alloc (by simp) _⟩
      · replace k1 : Op.bytesLess sa.toList sb.toList = false := k1.trans (by decide)
        replace k2 : (sa.toList == sb.toList) = false := k2.trans (by decide)
        go_enter Tryd.func20, Tryd.ntmps20
        go_wp2
        go_ret
        exact ⟨by rw [HF.out]; rfl, ((Below.refl _ _).alloc (Nat.le_refl _) _).alloc (by simp) _⟩
    · have HF := Lib.hid (show cmpV ta na sa ta nb sb = 1 by rw [cmpV, e, e', or3_second (by decide)])
      have g1 : (na == nb) = false := by simp; omega
      have g2 : (na != nb) = true := by simp; omega
      clear e e'
      go_enter Tryd.func20, Tryd.ntmps20
      go_wp2
      go_ret
      exact ⟨by rw [HF.out]; rfl, ((Below.refl _ _).alloc (Nat.le_refl _) _).alloc (by simp) _⟩
  · have HF := Lib.hid (show cmpV ta na sa tb nb sb = 1 by rw [cmpV, e, or3_first (by decide)])
    have g1 : (ta == tb) = false := by simp; omega
    have g2 : (ta != tb) = true := by simp; omega
    clear e
    go_enter Tryd.func20, Tryd.ntmps20
    go_wp2
    go_ret
    exact ⟨by rw [HF.out]; rfl, ((Below.refl _ _).alloc (Nat.le_refl _) _).alloc (by simp) _⟩
end Go.Proofs.YtpjfkhbdhdolfaaDoor
