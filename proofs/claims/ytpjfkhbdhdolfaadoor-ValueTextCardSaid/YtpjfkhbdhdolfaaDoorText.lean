/-
  Plain laws on the text of values: what strings.ReplaceAll comes to, quoted strings and that quoting is undone; decimal numerals and that strconv reads back what it writes. No program in sight.
-/
import Derived.Lib.ReplaceLaws
import Derived.Lib.ItoaNum
import Derived.Lib.ParseIntB
namespace Go.Proofs.YtpjfkhbdhdolfaaDoor

theorem app_mk (a b : List UInt8) : (⟨a.toArray⟩ ++ ⟨b.toArray⟩ : ByteArray) = ⟨(a ++ b).toArray⟩ := by apply ByteArray.ext; simp [ByteArray.data_append]
theorem mk_data (s : ByteArray) : (⟨s.data.toList.toArray⟩ : ByteArray) = s := by apply ByteArray.ext; simp
theorem mk_inj {a b : List UInt8} : ((⟨a.toArray⟩ : ByteArray) = ⟨b.toArray⟩) ↔ a = b := ⟨fun h => by have := congrArg (fun x : ByteArray => x.data.toList) h; simpa using this, fun h => by rw [h]⟩

/-- What ReplaceAll comes to where old is not new. -/
def rep (old new s : List UInt8) : List UInt8 := Lib.replaceK old new (Lib.count s old) s
theorem replaceAll_rep {old new : List UInt8} (s : List UInt8) (h : (old == new) = false) : Lib.replaceAll s old new = rep old new s := by
  simp [Lib.replaceAll, Lib.replace, h, rep, Lib.replaceNum]
theorem rep_nil {old new : List UInt8} (h : old ≠ []) : rep old new [] = [] := by
  have hi : Lib.index [] old = -1 := by cases old with | nil => exact absurd rfl h | cons a t => rfl
  rw [rep, Lib.count_miss hi]; rfl
theorem rep_hit {old new s : List UInt8} (h : old ≠ []) (hp : old.isPrefixOf s = true) : rep old new s = new ++ rep old new (s.drop old.length) := by
  have hi : Lib.index s old = (0 : Nat) := Lib.index_first (i := 0) (Nat.zero_le _) (by simpa [Lib.occAt] using hp) (fun _ h => absurd h (Nat.not_lt_zero _))
  have hc := Lib.count_hit h hi
  rw [rep, hc, Nat.add_comm, Lib.replaceK_hit old new _ s 0 hi]
  simp [rep]
theorem rep_miss {old new : List UInt8} {c : UInt8} {l : List UInt8} (h : old ≠ []) (hp : old.isPrefixOf (c :: l) = false) : rep old new (c :: l) = c :: rep old new l := by
  have hi : Lib.index (c :: l) old = if Lib.index l old == -1 then -1 else Lib.index l old + 1 := by rw [Lib.index, hp]; rfl
  rcases Lib.index_spec l old with ⟨h1, _⟩ | ⟨i, h1, _⟩
  · rw [h1] at hi
    have hi' : Lib.index (c :: l) old = -1 := hi
    rw [rep, rep, Lib.count_miss hi', Lib.count_miss h1]; rfl
  · have hi' : Lib.index (c :: l) old = ((i + 1 : Nat) : Int) := by
      rw [hi, h1, if_neg (by simp)]; omega
    have e : (c :: l).drop (i + 1 + old.length) = l.drop (i + old.length) := by
      rw [show i + 1 + old.length = (i + old.length) + 1 by omega]; rfl
    have c1 := Lib.count_hit h hi'
    have c2 := Lib.count_hit h h1
    rw [e] at c1
    rw [rep, rep, c1, c2, Nat.add_comm, Lib.replaceK_hit old new _ _ (i + 1) hi', Lib.replaceK_hit old new _ _ i h1, e]
    simp

/-- Every single quote doubled. -/
def dbl : List UInt8 → List UInt8
  | [] => []
  | c :: l => if c = 39 then 39 :: 39 :: dbl l else c :: dbl l
theorem rep_dbl : ∀ s : List UInt8, rep [39] [39, 39] s = dbl s
  | [] => rep_nil (by simp)
  | c :: l => by
    by_cases hc : c = 39
    · subst hc
      rw [rep_hit (by simp) (by simp)]
      simp [dbl, rep_dbl l]
    · rw [rep_miss (old := [39]) (c := c) (l := l) (by simp) (by rw [List.isPrefixOf]; simp [Ne.symm hc])]
      simp [dbl, hc, rep_dbl l]
theorem rep_undbl : ∀ s : List UInt8, rep [39, 39] [39] (dbl s) = s
  | [] => rep_nil (by simp)
  | c :: l => by
    by_cases hc : c = 39
    · subst hc
      rw [show dbl (39 :: l) = 39 :: 39 :: dbl l by simp [dbl]]
      rw [rep_hit (by simp) (by simp)]
      simp [rep_undbl l]
    · rw [show dbl (c :: l) = c :: dbl l by simp [dbl, hc]]
      rw [rep_miss (old := [39, 39]) (c := c) (l := dbl l) (by simp) (by rw [List.isPrefixOf]; simp [Ne.symm hc])]
      simp [rep_undbl l]
theorem dbl_length_le : ∀ s : List UInt8, (dbl s).length ≤ 2 * s.length
  | [] => by simp [dbl]
  | c :: l => by
    have := dbl_length_le l
    by_cases hc : c = 39 <;> simp [dbl, hc] <;> omega
theorem dbl_inj {a b : List UInt8} (h : dbl a = dbl b) : a = b := by
  rw [← rep_undbl a, ← rep_undbl b, h]

/-- Reading digits behind digits. -/
theorem parseM_append (M : Nat) : ∀ (l r : List UInt8) (acc a : Nat), Lib.parseUintM M acc l = .ok a → Lib.parseUintM M acc (l ++ r) = Lib.parseUintM M a r
  | [], r, acc, a, h => by simp [Lib.parseUintM] at h; subst h; rfl
  | c :: l, r, acc, a, h => by
    simp only [Lib.parseUintM, List.cons_append] at h ⊢
    split at h
    · rename_i h1
      rw [if_pos h1]
      split at h
      · cases h
      · rename_i h2
        rw [if_neg h2]
        split at h
        · cases h
        · rename_i h3
          rw [if_neg h3]
          exact parseM_append M l r _ a h
    · cases h
theorem digit_toNat (d : Nat) (h : d < 10) : (UInt8.ofNat (48 + d)).toNat = 48 + d := by
  simp [UInt8.toNat_ofNat']; omega
theorem parseM_dec (M : Nat) (hM : M ≤ 18446744073709551615) : ∀ (k u : Nat), u ≤ k → u ≤ M → Lib.parseUintM M 0 (Lib.decDigits u) = .ok u
  | k, u, hk, hu => by
    by_cases h : u < 10
    · rw [Lib.decDigits, dif_pos h]
      simp only [Lib.parseUintM, digit_toNat u h]
      rw [if_pos (by omega), if_neg (by omega), if_neg (by omega)]
      congr 1; omega
    · rw [Lib.decDigits, dif_neg h]
      match k, hk with
      | 0, hk => omega
      | k + 1, hk =>
        have ih := parseM_dec M hM k (u / 10) (by omega) (by omega)
        rw [parseM_append M _ _ _ _ ih]
        have hd : u % 10 < 10 := by omega
        simp only [Lib.parseUintM, digit_toNat _ hd]
        rw [if_pos (by omega), if_neg (by omega), if_neg (by omega)]
        congr 1; omega
theorem dec_head : ∀ (k u : Nat), u ≤ k → ∃ c r, Lib.decDigits u = c :: r ∧ 48 ≤ c.toNat ∧ c.toNat ≤ 57
  | k, u, hk => by
    by_cases h : u < 10
    · rw [Lib.decDigits, dif_pos h]
      exact ⟨_, _, rfl, by rw [digit_toNat u h]; omega, by rw [digit_toNat u h]; omega⟩
    · rw [Lib.decDigits, dif_neg h]
      match k, hk with
      | 0, hk => omega
      | k + 1, hk =>
        obtain ⟨c, r, e, h1, h2⟩ := dec_head k (u / 10) (by omega)
        exact ⟨c, r ++ [_], by rw [e]; rfl, h1, h2⟩
theorem parseB_dec (u : Nat) (h : u ≤ 18446744073709551615) : Lib.parseUintB 64 (Lib.decDigits u) = .ok u := by
  obtain ⟨c, r, e, _, _⟩ := dec_head u u (Nat.le_refl _)
  have h1 : (2 ^ 64 - 1 : Nat) = 18446744073709551615 := by decide
  rw [Lib.parseUintB, if_neg (by rw [e]; simp), h1]
  exact parseM_dec _ (Nat.le_refl _) u u (Nat.le_refl _) h
/-- strconv.ParseInt reads back what strconv.FormatInt writes. -/
theorem parse_itoa (n : Int) (h0 : -9223372036854775808 ≤ n) (h1 : n ≤ 9223372036854775807) : Lib.parseIntB 64 (Lib.itoa n) = .ok n := by
  have e63 : (2 ^ (64 - 1) : Nat) = 9223372036854775808 := by decide
  by_cases h : n < 0
  · rw [Lib.itoa, if_pos h]
    simp only [Lib.parseIntB]
    rw [if_pos (Or.inr (by decide)), parseB_dec _ (by omega)]
    have hc : (45 : UInt8).toNat = 45 := by decide
    simp only [e63, hc]
    rw [if_neg (by simp), if_neg (by simp; omega), if_pos trivial]
    congr 1; omega
  · rw [Lib.itoa, if_neg h]
    obtain ⟨c, r, e, h2, h3⟩ := dec_head n.toNat n.toNat (Nat.le_refl _)
    have hp := parseB_dec n.toNat (by omega)
    rw [e] at hp ⊢
    simp only [Lib.parseIntB]
    rw [if_neg (by omega), hp]
    simp only [e63]
    rw [if_neg (by omega), if_neg (by omega), if_neg (by omega)]
    congr 1; omega
theorem itoa_inj {a b : Int} (ha0 : -9223372036854775808 ≤ a) (ha1 : a ≤ 9223372036854775807) (hb0 : -9223372036854775808 ≤ b) (hb1 : b ≤ 9223372036854775807) (h : Lib.itoa a = Lib.itoa b) : a = b := by
  have h1 := parse_itoa a ha0 ha1
  have h2 := parse_itoa b hb0 hb1
  rw [h, h2] at h1
  injection h1 with h1
  exact h1.symm
/-- A numeral does not begin with a quote. -/
theorem itoa_head (n : Int) : ∃ c r, Lib.itoa n = c :: r ∧ c ≠ 39 := by
  by_cases h : n < 0
  · exact ⟨45, _, by rw [Lib.itoa, if_pos h], by decide⟩
  · obtain ⟨c, r, e, h2, _⟩ := dec_head n.toNat n.toNat (Nat.le_refl _)
    exact ⟨c, r, by rw [Lib.itoa, if_neg h, e], fun e => by subst e; simp at h2⟩

/-- Two lists of bytes compared. -/
theorem compareBytes_self : ∀ l : List UInt8, Lib.compareBytes l l = 0
  | [] => rfl
  | a :: l => by simp [Lib.compareBytes, compareBytes_self l, UInt8.lt_irrefl]
theorem compareBytes_neg : ∀ a b : List UInt8, Lib.compareBytes b a = -Lib.compareBytes a b
  | [], [] => rfl
  | [], _ :: _ => rfl
  | _ :: _, [] => rfl
  | x :: a, y :: b => by
    have ih := compareBytes_neg a b
    simp only [Lib.compareBytes, UInt8.lt_iff_toNat_lt]
    by_cases h1 : x.toNat < y.toNat
    · rw [if_neg (by omega), if_pos h1, if_pos h1]; rfl
    · by_cases h2 : y.toNat < x.toNat
      · rw [if_pos h2, if_neg h1, if_pos h2]
      · rw [if_neg h2, if_neg h1, if_neg h1, if_neg h2]; exact ih
theorem compareBytes_eq : ∀ a b : List UInt8, Lib.compareBytes a b = 0 ↔ a = b
  | [], [] => by simp [Lib.compareBytes]
  | [], _ :: _ => by simp [Lib.compareBytes]
  | _ :: _, [] => by simp [Lib.compareBytes]
  | x :: a, y :: b => by
    have ih := compareBytes_eq a b
    simp only [Lib.compareBytes, UInt8.lt_iff_toNat_lt]
    by_cases h1 : x.toNat < y.toNat
    · rw [if_pos h1]; constructor
      · intro h; omega
      · intro h; injection h with h _; subst h; omega
    · by_cases h2 : y.toNat < x.toNat
      · rw [if_neg h1, if_pos h2]; constructor
        · intro h; omega
        · intro h; injection h with h _; subst h; omega
      · rw [if_neg h1, if_neg h2, ih]
        have : x = y := UInt8.toNat_inj.1 (by omega)
        simp [this]
theorem compareBytes_trans : ∀ a b c : List UInt8, Lib.compareBytes a b ≤ 0 → Lib.compareBytes b c ≤ 0 → Lib.compareBytes a c ≤ 0
  | [], [], c, _, h => h
  | [], _ :: _, [], _, h => by simp [Lib.compareBytes] at h
  | [], _ :: _, _ :: _, _, _ => by simp [Lib.compareBytes]
  | _ :: _, [], _, h, _ => by simp [Lib.compareBytes] at h
  | _ :: _, _ :: _, [], _, h => by simp [Lib.compareBytes] at h
  | x :: a, y :: b, z :: c, h, k => by
    have ih := compareBytes_trans a b c
    simp only [Lib.compareBytes, UInt8.lt_iff_toNat_lt] at h k ⊢
    by_cases h1 : x.toNat < y.toNat
    · by_cases k1 : y.toNat < z.toNat
      · rw [if_pos (by omega)]; omega
      · by_cases k2 : z.toNat < y.toNat
        · rw [if_neg k1, if_pos k2] at k; omega
        · rw [if_pos (by omega)]; omega
    · by_cases h2 : y.toNat < x.toNat
      · rw [if_neg h1, if_pos h2] at h; omega
      · rw [if_neg h1, if_neg h2] at h
        by_cases k1 : y.toNat < z.toNat
        · rw [if_pos (by omega)]; omega
        · by_cases k2 : z.toNat < y.toNat
          · rw [if_neg k1, if_pos k2] at k; omega
          · rw [if_neg k1, if_neg k2] at k
            rw [if_neg (by omega), if_neg (by omega)]
            exact ih h k
theorem compareBytes_three : ∀ a b : List UInt8, Lib.compareBytes a b = -1 ∨ Lib.compareBytes a b = 0 ∨ Lib.compareBytes a b = 1
  | [], [] => by simp [Lib.compareBytes]
  | [], _ :: _ => by simp [Lib.compareBytes]
  | _ :: _, [] => by simp [Lib.compareBytes]
  | x :: a, y :: b => by
    have ih := compareBytes_three a b
    simp only [Lib.compareBytes]
    split
    · simp
    · split
      · simp
      · exact ih
end Go.Proofs.YtpjfkhbdhdolfaaDoor
