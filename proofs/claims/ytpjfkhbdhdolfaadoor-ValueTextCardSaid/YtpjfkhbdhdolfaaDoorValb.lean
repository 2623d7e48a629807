import Derived.Test.YtpjfkhbdhdolfaaDoorVala
namespace Go.Proofs.YtpjfkhbdhdolfaaDoor
open Go.RowKit

/-- The bytes that a string value may hold. -/
def okB (c : UInt8) : Bool := decide (32 ≤ c.toNat ∧ c.toNat ≤ 126)
def validB (t n : Int) (s : ByteArray) : Bool :=
  if t = 1 then s.data.toList.isEmpty else decide (t = 2) && decide (n = 0) && decide (s.size ≤ 64) && s.data.toList.all okB

theorem all_take_succ (s : ByteArray) (k : Nat) (h : k < s.size) : (s.data.toList.take (k + 1)).all okB = ((s.data.toList.take k).all okB && okB s[k]) := by
  rw [List.take_succ_eq_append_getElem (by simpa using h), List.all_append]; simp; rfl
theorem all_of_take {l : List UInt8} (k : Nat) (h : (l.take k).all okB = false) : l.all okB = false := by
  rw [List.all_eq_false] at h ⊢
  obtain ⟨x, hx, hb⟩ := h
  exact ⟨x, List.mem_of_mem_take hx, hb⟩

theorem valid_int (n : Int) (s : ByteArray) (w : World) :
    Calls Tryd.prog 17 #[.agg #[.int .i64 1, .int .i64 n, .string s]] w fun e w' => e = .returned (.bool (validB 1 n s)) ∧ Below w.heap.size w w' := by
  go_enter Tryd.func17, Tryd.ntmps17
  go_wp2
  go_ret
  exact ⟨by simp [validB, Lib.toList_data], (Below.refl _ _).alloc (Nat.le_refl _) _⟩
theorem valid_other (t n : Int) (s : ByteArray) (w : World) (h1 : t ≠ 1) (h2 : t ≠ 2) :
    Calls Tryd.prog 17 #[.agg #[.int .i64 t, .int .i64 n, .string s]] w fun e w' => e = .returned (.bool (validB t n s)) ∧ Below w.heap.size w w' := by
  have HF := Lib.hid (show validB t n s = false by simp [validB, h1, h2])
  have g1 : (t == 1) = false := by simpa using h1
  have g2 : (t != 2) = true := by simpa using h2
  have g3 : (t == 2) = false := by simpa using h2
  clear h1 h2
  go_enter Tryd.func17, Tryd.ntmps17
  go_wp2
  go_ret
  exact ⟨by rw [HF.out]; rfl, (Below.refl _ _).alloc (Nat.le_refl _) _⟩
theorem valid_num (n : Int) (s : ByteArray) (w : World) (h : n ≠ 0) :
    Calls Tryd.prog 17 #[.agg #[.int .i64 2, .int .i64 n, .string s]] w fun e w' => e = .returned (.bool (validB 2 n s)) ∧ Below w.heap.size w w' := by
  have HF := Lib.hid (show validB 2 n s = false by simp [validB, h])
  have g1 : (n == 0) = false := by simpa using h
  have g2 : (n != 0) = true := by simpa using h
  clear h
  go_enter Tryd.func17, Tryd.ntmps17
  go_wp2
  go_ret
  exact ⟨by rw [HF.out]; rfl, (Below.refl _ _).alloc (Nat.le_refl _) _⟩
theorem valid_long (s : ByteArray) (w : World) (h : 64 < s.size) :
    Calls Tryd.prog 17 #[.agg #[.int .i64 2, .int .i64 0, .string s]] w fun e w' => e = .returned (.bool (validB 2 0 s)) ∧ Below w.heap.size w w' := by
  have HF := Lib.hid (show validB 2 0 s = false by simp [validB]; omega)
  go_enter Tryd.func17, Tryd.ntmps17
  go_wp2
  go_ret
  exact ⟨by rw [HF.out]; rfl, (Below.refl _ _).alloc (Nat.le_refl _) _⟩
theorem valid_str (s : ByteArray) (w : World) (h : s.size ≤ 64) :
    Calls Tryd.prog 17 #[.agg #[.int .i64 2, .int .i64 0, .string s]] w fun e w' => e = .returned (.bool (validB 2 0 s)) ∧ Below w.heap.size w w' := by
  have HF := Lib.hid (show validB 2 0 s = s.data.toList.all okB by simp [validB, h])
  go_enter Tryd.func17, Tryd.ntmps17
  go_wp2
  go_loop [3] (fun i => ∃ k : Nat, k ≤ s.size ∧ (s.data.toList.take k).all okB = true ∧ i = .int .i64 k) (fun i => s.size - (intOf i).toNat)
  case atStart => exact ⟨0, Nat.zero_le _, by simp, rfl⟩
  case round =>
    obtain ⟨k, hk, hall, rfl⟩ := hrel
    have HA := Lib.hid hall; clear hall
    by_cases hlt : k < s.size
    · have HS := Lib.hid (all_take_succ s k hlt)
      by_cases h1 : 32 ≤ s[k].toNat
      · by_cases h2 : s[k].toNat ≤ 126
        · have HO := Lib.hid (show okB s[k] = true by simp [okB, h1, h2])
          go_wp2
          go_round
          case rel => exact ⟨k + 1, by omega, by rw [HS.out, HA.out, HO.out]; rfl, by go_num⟩
          case measure => simp [intOf]; omega
        · have HO := Lib.hid (show s.data.toList.all okB = false from all_of_take (k + 1) (by rw [HS.out]; simp [okB, h2]))
          go_wp2
          go_ret
          exact ⟨by rw [HF.out, HO.out]; rfl, (Below.refl _ _).alloc (Nat.le_refl _) _⟩
      · have HO := Lib.hid (show s.data.toList.all okB = false from all_of_take (k + 1) (by rw [HS.out]; simp [okB, h1]))
        go_wp2
        go_ret
        exact ⟨by rw [HF.out, HO.out]; rfl, (Below.refl _ _).alloc (Nat.le_refl _) _⟩
    · have HO := Lib.hid (show s.data.toList.all okB = true by have := HA.out; rwa [List.take_of_length_le (by simp; omega)] at this)
      go_wp2
      go_ret
      exact ⟨by rw [HF.out, HO.out]; rfl, (Below.refl _ _).alloc (Nat.le_refl _) _⟩
theorem valid_any (t n : Int) (s : ByteArray) (w : World) :
    Calls Tryd.prog 17 #[.agg #[.int .i64 t, .int .i64 n, .string s]] w fun e w' => e = .returned (.bool (validB t n s)) ∧ Below w.heap.size w w' := by
  by_cases h1 : t = 1
  · subst h1; exact valid_int n s w
  by_cases h2 : t = 2
  · subst h2
    by_cases h3 : n = 0
    · subst h3
      rcases Nat.lt_or_ge 64 s.size with h4 | h4
      · exact valid_long s w h4
      · exact valid_str s w h4
    · exact valid_num n s w h3
  · exact valid_other t n s w h1 h2
end Go.Proofs.YtpjfkhbdhdolfaaDoor
