import Derived.Test.YtpjfkhbdhdolfaaDoorVala
import Derived.Test.YtpjfkhbdhdolfaaDoorText
namespace Go.Proofs.YtpjfkhbdhdolfaaDoor
open Go.RowKit

theorem cmpI_neg (a b : Int) : cmpI b a = -cmpI a b := by
  by_cases h : a < b
  · rw [cmpI_lt h, cmpI_gt h]; rfl
  · by_cases h' : b < a
    · rw [cmpI_lt h', cmpI_gt h']
    · rw [cmpI_eq h h', cmpI_eq h' h]; rfl
theorem cmpI_three (a b : Int) : cmpI a b = -1 ∧ a < b ∨ cmpI a b = 0 ∧ a = b ∨ cmpI a b = 1 ∧ b < a := by
  by_cases h : a < b
  · exact .inl ⟨cmpI_lt h, h⟩
  · by_cases h' : b < a
    · exact .inr (.inr ⟨cmpI_gt h', h'⟩)
    · exact .inr (.inl ⟨cmpI_eq h h', by omega⟩)
theorem or3_first {a b c : Int} (h : a ≠ 0) : or3 a b c = a := by simp [or3, h]
theorem or3_second {b c : Int} (h : b ≠ 0) : or3 0 b c = b := by simp [or3, h]
theorem or3_third (c : Int) : or3 0 0 c = c := by simp [or3]
theorem cmpV_neg (ta na : Int) (sa : ByteArray) (tb nb : Int) (sb : ByteArray) : cmpV tb nb sb ta na sa = -cmpV ta na sa tb nb sb := by
  have h1 := cmpI_neg ta tb
  have h2 := cmpI_neg na nb
  have h3 := compareBytes_neg sa.data.toList sb.data.toList
  unfold cmpV
  rw [h1, h2, h3]
  rcases cmpI_three ta tb with ⟨e, _⟩ | ⟨e, _⟩ | ⟨e, _⟩ <;> rw [e]
  · simp [or3]
  · rcases cmpI_three na nb with ⟨e, _⟩ | ⟨e, _⟩ | ⟨e, _⟩ <;> rw [e] <;> simp [or3]
  · simp [or3]
theorem cmpV_bound (ta na : Int) (sa : ByteArray) (tb nb : Int) (sb : ByteArray) : -1 ≤ cmpV ta na sa tb nb sb ∧ cmpV ta na sa tb nb sb ≤ 1 := by
  have h3 := compareBytes_three sa.data.toList sb.data.toList
  unfold cmpV
  rcases cmpI_three ta tb with ⟨e, _⟩ | ⟨e, _⟩ | ⟨e, _⟩ <;> rw [e]
  · simp [or3]
  · rcases cmpI_three na nb with ⟨e, _⟩ | ⟨e, _⟩ | ⟨e, _⟩ <;> rw [e] <;> simp [or3]
    omega
  · simp [or3]
theorem cmpV_eq (ta na : Int) (sa : ByteArray) (tb nb : Int) (sb : ByteArray) : cmpV ta na sa tb nb sb = 0 ↔ ta = tb ∧ na = nb ∧ sa = sb := by
  have h3 := compareBytes_eq sa.data.toList sb.data.toList
  have hs : sa.data.toList = sb.data.toList ↔ sa = sb := ⟨fun h => by rw [← mk_data sa, ← mk_data sb, h], fun h => by rw [h]⟩
  unfold cmpV
  rcases cmpI_three ta tb with ⟨e, h⟩ | ⟨e, h⟩ | ⟨e, h⟩ <;> rw [e]
  · rw [or3_first (by decide)]; constructor
    · intro h'; omega
    · rintro ⟨h', _⟩; omega
  · rcases cmpI_three na nb with ⟨e, h'⟩ | ⟨e, h'⟩ | ⟨e, h'⟩ <;> rw [e]
    · rw [or3_second (by decide)]; constructor
      · intro h'; omega
      · rintro ⟨_, h', _⟩; omega
    · rw [or3_third, h3, hs]; exact ⟨fun x => ⟨h, h', x⟩, fun x => x.2.2⟩
    · rw [or3_second (by decide)]; constructor
      · intro h'; omega
      · rintro ⟨_, h', _⟩; omega
  · rw [or3_first (by decide)]; constructor
    · intro h'; omega
    · rintro ⟨h', _⟩; omega
theorem cmpV_trans (ta na : Int) (sa : ByteArray) (tb nb : Int) (sb : ByteArray) (tc nc : Int) (sc : ByteArray) (h1 : cmpV ta na sa tb nb sb ≤ 0) (h2 : cmpV tb nb sb tc nc sc ≤ 0) : cmpV ta na sa tc nc sc ≤ 0 := by
  have h3 := compareBytes_trans sa.data.toList sb.data.toList sc.data.toList
  unfold cmpV at *
  rcases cmpI_three ta tb with ⟨e1, h⟩ | ⟨e1, h⟩ | ⟨e1, h⟩
  · rcases cmpI_three tb tc with ⟨e2, h'⟩ | ⟨e2, h'⟩ | ⟨e2, h'⟩
    · rw [cmpI_lt (show ta < tc by omega), or3_first (by decide)]; omega
    · rw [cmpI_lt (show ta < tc by omega), or3_first (by decide)]; omega
    · rw [e2, or3_first (by decide)] at h2; omega
  · rcases cmpI_three tb tc with ⟨e2, h'⟩ | ⟨e2, h'⟩ | ⟨e2, h'⟩
    · rw [cmpI_lt (show ta < tc by omega), or3_first (by decide)]; omega
    · rw [show cmpI ta tc = 0 from cmpI_eq (by omega) (by omega)]
      rw [e1] at h1
      rw [e2] at h2
      rcases cmpI_three na nb with ⟨f1, g⟩ | ⟨f1, g⟩ | ⟨f1, g⟩
      · rcases cmpI_three nb nc with ⟨f2, g'⟩ | ⟨f2, g'⟩ | ⟨f2, g'⟩
        · rw [cmpI_lt (show na < nc by omega), or3_second (by decide)]; omega
        · rw [cmpI_lt (show na < nc by omega), or3_second (by decide)]; omega
        · rw [f2, or3_second (by decide)] at h2; omega
      · rcases cmpI_three nb nc with ⟨f2, g'⟩ | ⟨f2, g'⟩ | ⟨f2, g'⟩
        · rw [cmpI_lt (show na < nc by omega), or3_second (by decide)]; omega
        · rw [show cmpI na nc = 0 from cmpI_eq (by omega) (by omega), or3_third]
          rw [f1, or3_third] at h1
          rw [f2, or3_third] at h2
          exact h3 h1 h2
        · rw [f2, or3_second (by decide)] at h2; omega
      · rw [f1, or3_second (by decide)] at h1; omega
    · rw [e2, or3_first (by decide)] at h2; omega
  · rw [e1, or3_first (by decide)] at h1; omega
end Go.Proofs.YtpjfkhbdhdolfaaDoor
