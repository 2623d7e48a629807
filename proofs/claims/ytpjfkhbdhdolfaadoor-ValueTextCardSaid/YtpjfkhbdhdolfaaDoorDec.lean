/-
  The key encoding, in plain words: what a list of bytes decodes to; decoding inverts encoding; the bytewise order of encodings is the order of the lists.
-/
import Derived.Test.YtpjfkhbdhdolfaaDoorIsb
import Derived.Test.YtpjfkhbdhdolfaaDoorTup
namespace Go.Proofs.YtpjfkhbdhdolfaaDoor
open Go.RowKit

/-- Bytes as a number, the first the highest. -/
def bval : List UInt8 → Nat
  | [] => 0
  | c :: l => c.toNat * 256 ^ l.length + bval l
theorem bval_snoc : ∀ (l : List UInt8) (c : UInt8), bval (l ++ [c]) = bval l * 256 + c.toNat
  | [], c => by simp [bval]
  | d :: l, c => by
    have := bval_snoc l c
    simp only [List.cons_append, bval, this, List.length_append, List.length_cons, List.length_nil, Nat.zero_add, Nat.pow_succ, Nat.add_mul, Nat.mul_assoc]
    omega
theorem bval_lt : ∀ l : List UInt8, bval l < 256 ^ l.length
  | [] => by simp [bval]
  | c :: l => by
    have h := bval_lt l
    have hc : c.toNat + 1 ≤ 256 := c.toNat_lt
    have := Nat.mul_le_mul_right (256 ^ l.length) hc
    simp only [bval, List.length_cons, Nat.pow_succ]
    rw [Nat.add_mul] at this
    omega
theorem encI_bytes (n : Int) : encI n = [UInt8.ofNat ((n + 9223372036854775808).toNat / 72057594037927936 % 256), UInt8.ofNat ((n + 9223372036854775808).toNat / 281474976710656 % 256), UInt8.ofNat ((n + 9223372036854775808).toNat / 1099511627776 % 256), UInt8.ofNat ((n + 9223372036854775808).toNat / 4294967296 % 256),
    UInt8.ofNat ((n + 9223372036854775808).toNat / 16777216 % 256), UInt8.ofNat ((n + 9223372036854775808).toNat / 65536 % 256), UInt8.ofNat ((n + 9223372036854775808).toNat / 256 % 256), UInt8.ofNat ((n + 9223372036854775808).toNat / 1 % 256)] := by
  unfold encI
  simp [List.range_succ]
theorem byte_mod (m : Nat) : (UInt8.ofNat (m % 256)).toNat = m % 256 := by simp [UInt8.toNat_ofNat']
theorem bval_encI (n : Int) (h0 : -9223372036854775808 ≤ n) (h1 : n ≤ 9223372036854775807) : bval (encI n) = (n + 9223372036854775808).toNat := by
  rw [encI_bytes]
  generalize hN : (n + 9223372036854775808).toNat = N
  have hlt : N < 18446744073709551616 := by omega
  simp only [bval, byte_mod, List.length_cons, List.length_nil]
  clear hN h0 h1
  simp only [Nat.zero_add, Nat.reduceAdd, Nat.reducePow]
  omega
/-- The number of bytes ahead of the first 0. -/
def zpos : List UInt8 → Nat
  | [] => 0
  | c :: l => if c = 0 then 0 else zpos l + 1
theorem zpos_le : ∀ l, zpos l ≤ l.length
  | [] => by simp [zpos]
  | c :: l => by
    have := zpos_le l
    simp only [zpos, List.length_cons]
    split <;> omega
/-- One value ahead, and how many bytes it takes. -/
def dec1 : List UInt8 → Option (V × Nat)
  | [] => none
  | c :: l =>
    if c = 1 then (if 8 ≤ l.length then some (⟨1, (bval (l.take 8) : Int) - 9223372036854775808, ⟨#[]⟩⟩, 9) else none)
    else if c = 2 then (if zpos l < l.length then some (⟨2, 0, ⟨(l.take (zpos l)).toArray⟩⟩, zpos l + 2) else none)
    else none
def decN : Nat → List UInt8 → Option (List V)
  | 0, _ => some []
  | _ + 1, [] => some []
  | n + 1, c :: l =>
    match dec1 (c :: l) with
    | none => none
    | some (v, k) => if v.ok = true then (decN n ((c :: l).drop k)).map (v :: ·) else none
def decL (b : List UInt8) : Option (List V) := decN b.length b
theorem dec1_pos {b : List UInt8} {v : V} {k : Nat} (h : dec1 b = some (v, k)) : 1 ≤ k ∧ k ≤ b.length := by
  cases b with
  | nil => simp [dec1] at h
  | cons c l =>
    simp only [dec1] at h
    split at h
    · split at h
      · simp only [Option.some.injEq, Prod.mk.injEq] at h
        simp only [List.length_cons]; omega
      · cases h
    · split at h
      · split at h
        · simp only [Option.some.injEq, Prod.mk.injEq] at h
          simp only [List.length_cons]; omega
        · cases h
      · cases h
theorem decN_enough : ∀ (n m : Nat) (b : List UInt8), b.length ≤ n → b.length ≤ m → decN n b = decN m b
  | 0, m, b, hn, _ => by
    have : b = [] := List.eq_nil_of_length_eq_zero (by omega)
    subst this
    cases m <;> rfl
  | n + 1, 0, b, _, hm => by
    have : b = [] := List.eq_nil_of_length_eq_zero (by omega)
    subst this
    rfl
  | n + 1, m + 1, b, hn, hm => by
    cases b with
    | nil => rfl
    | cons c l =>
      simp only [decN]
      cases hd : dec1 (c :: l) with
      | none => rfl
      | some p =>
        obtain ⟨v, k⟩ := p
        have hk := dec1_pos hd
        simp only [List.length_cons] at hn hm hk
        dsimp only
        rw [decN_enough n m ((c :: l).drop k) (by simp only [List.length_drop, List.length_cons]; omega) (by simp only [List.length_drop, List.length_cons]; omega)]
theorem decL_nil : decL [] = some [] := rfl
theorem decL_step {b : List UInt8} (hb : b ≠ []) : decL b = match dec1 b with
    | none => none
    | some (v, k) => if v.ok = true then (decL (b.drop k)).map (v :: ·) else none := by
  cases b with
  | nil => exact absurd rfl hb
  | cons c l =>
    unfold decL
    simp only [List.length_cons, decN]
    cases hd : dec1 (c :: l) with
    | none => rfl
    | some p =>
      obtain ⟨v, k⟩ := p
      have hk := dec1_pos hd
      dsimp only
      simp only [List.length_cons] at hk
      rw [decN_enough l.length ((c :: l).drop k).length ((c :: l).drop k) (by simp only [List.length_drop, List.length_cons]; omega) (Nat.le_refl _)]
theorem zpos_str : ∀ (s x : List UInt8), s.all okB = true → zpos (s ++ 0 :: x) = s.length
  | [], x, _ => by simp [zpos]
  | c :: s, x, h => by
    simp only [List.all_cons, Bool.and_eq_true] at h
    have hc : c ≠ 0 := by
      have := h.1
      simp only [okB, decide_eq_true_eq] at this
      intro e
      subst e
      simp at this
    have := zpos_str s x h.2
    simp only [List.cons_append, zpos, if_neg hc, this, List.length_cons]
theorem str_ok {v : V} (h : v.ok = true) (h2 : v.t = 2) : v.n = 0 ∧ v.s.size ≤ 64 ∧ v.s.data.toList.all okB = true := by
  simp only [V.ok, validB, h2] at h
  simp at h
  exact ⟨h.1.1, h.1.2, by simpa using h.2⟩
theorem int_ok {v : V} (h : v.ok = true) (h2 : v.t ≠ 2) : v.t = 1 ∧ v.s = ⟨#[]⟩ := by
  simp only [V.ok, validB] at h
  split at h
  · rename_i h1
    refine ⟨h1, ?_⟩
    have : v.s.data.toList = [] := by simpa using h
    rw [← mk_data v.s, this]
  · simp [h2] at h
theorem dec1_enc {v : V} (h : v.ok = true) (hr : -9223372036854775808 ≤ v.n ∧ v.n ≤ 9223372036854775807) (x : List UInt8) : dec1 (v.enc ++ x) = some (v, v.enc.length) := by
  obtain ⟨t, n, s⟩ := v
  by_cases h2 : t = 2
  · subst h2
    obtain ⟨hn, hs, ho⟩ := str_ok h rfl
    simp only at hn hs ho
    subst hn
    have hz := zpos_str s.data.toList x ho
    have e1 : s.data.toList ++ [0] ++ x = s.data.toList ++ 0 :: x := by simp
    simp only [V.enc, if_true, List.cons_append, dec1, e1, hz]
    rw [if_neg (by decide), if_pos (by simp)]
    simp
  · obtain ⟨h1, h3⟩ := int_ok h h2
    simp only at h1 h3
    subst h1 h3
    have hl := encI_length n
    have ht : (encI n ++ x).take 8 = encI n := by rw [← hl, List.take_left]
    simp only [V.enc, if_neg h2, List.cons_append, dec1, if_true]
    rw [if_pos (by simp [hl]), ht, bval_encI n hr.1 hr.2]
    simp only [List.length_cons, hl, Option.some.injEq, Prod.mk.injEq, V.mk.injEq, true_and, and_true]
    have := hr.1
    simp only at this
    omega
theorem enc_ne_nil (v : V) : v.enc ≠ [] := by unfold V.enc; split <;> simp
theorem decL_enc : ∀ (p : List V), p.all V.ok = true → (∀ v ∈ p, -9223372036854775808 ≤ v.n ∧ v.n ≤ 9223372036854775807) → decL (encL p) = some p
  | [], _, _ => rfl
  | v :: p, h, hr => by
    simp only [List.all_cons, Bool.and_eq_true] at h
    have e : encL (v :: p) = v.enc ++ encL p := by simp [encL]
    have ih := decL_enc p h.2 (fun u hu => hr u (List.mem_cons_of_mem _ hu))
    rw [e, decL_step (by simp [enc_ne_nil]), dec1_enc h.1 (hr v (List.mem_cons_self ..))]
    simp only [h.1, if_true, List.drop_left, ih, Option.map_some]
theorem cmpBytes_big : ∀ (a b x y : List UInt8), a.length = b.length → Lib.compareBytes (a ++ x) (b ++ y) = if bval a < bval b then -1 else if bval b < bval a then 1 else Lib.compareBytes x y
  | [], [], x, y, _ => by simp [bval]
  | [], _ :: _, x, y, h => by simp at h
  | _ :: _, [], x, y, h => by simp at h
  | c :: a, d :: b, x, y, h => by
    have hl : a.length = b.length := by simpa using h
    have ih := cmpBytes_big a b x y hl
    have h1 := bval_lt a
    have h2 := bval_lt b
    have e1 : bval (c :: a) = c.toNat * 256 ^ b.length + bval a := by rw [← hl]; rfl
    have e2 : bval (d :: b) = d.toNat * 256 ^ b.length + bval b := rfl
    rw [hl] at h1
    simp only [List.cons_append, Lib.compareBytes]
    generalize bval (c :: a) = P at e1 ⊢
    generalize bval (d :: b) = Q at e2 ⊢
    generalize hM : 256 ^ b.length = M at *
    rcases Nat.lt_trichotomy c.toNat d.toNat with hc | hc | hc
    · have hm := Nat.mul_le_mul_right M (show c.toNat + 1 ≤ d.toNat from hc)
      rw [Nat.add_mul] at hm
      rw [if_pos (UInt8.lt_iff_toNat_lt.2 hc), if_pos (by omega)]
    · have e : c = d := UInt8.toNat_inj.1 hc
      subst e
      rw [if_neg (UInt8.lt_irrefl c), if_neg (UInt8.lt_irrefl c), ih]
      by_cases h3 : bval a < bval b
      · rw [if_pos h3, if_pos (by omega)]
      · by_cases h4 : bval b < bval a
        · rw [if_neg h3, if_pos h4, if_neg (by omega), if_pos (by omega)]
        · rw [if_neg h3, if_neg h4, if_neg (by omega), if_neg (by omega)]
    · have hm := Nat.mul_le_mul_right M (show d.toNat + 1 ≤ c.toNat from hc)
      rw [Nat.add_mul] at hm
      rw [if_neg (fun h => by have := UInt8.lt_iff_toNat_lt.1 h; omega), if_pos (UInt8.lt_iff_toNat_lt.2 hc), if_neg (by omega), if_pos (by omega)]
theorem cmpBytes_str : ∀ (a b x y : List UInt8), a.all okB = true → b.all okB = true → Lib.compareBytes (a ++ 0 :: x) (b ++ 0 :: y) = if Lib.compareBytes a b = 0 then Lib.compareBytes x y else Lib.compareBytes a b
  | [], [], x, y, _, _ => by simp [Lib.compareBytes]
  | [], d :: b, x, y, _, hb => by
    simp only [List.all_cons, Bool.and_eq_true, okB, decide_eq_true_eq] at hb
    simp only [List.nil_append, List.cons_append, Lib.compareBytes]
    rw [if_pos (UInt8.lt_iff_toNat_lt.2 (by simp; omega))]
    rfl
  | c :: a, [], x, y, ha, _ => by
    simp only [List.all_cons, Bool.and_eq_true, okB, decide_eq_true_eq] at ha
    simp only [List.nil_append, List.cons_append, Lib.compareBytes]
    rw [if_neg (fun h => by have := UInt8.lt_iff_toNat_lt.1 h; simp at this), if_pos (UInt8.lt_iff_toNat_lt.2 (by simp; omega))]
    rfl
  | c :: a, d :: b, x, y, ha, hb => by
    simp only [List.all_cons, Bool.and_eq_true] at ha hb
    have ih := cmpBytes_str a b x y ha.2 hb.2
    simp only [List.cons_append, Lib.compareBytes, ih]
    split
    · rfl
    · split
      · rfl
      · rfl
theorem cmp_enc (v u : V) (hv : v.ok = true) (hu : u.ok = true) (rv : -9223372036854775808 ≤ v.n ∧ v.n ≤ 9223372036854775807) (ru : -9223372036854775808 ≤ u.n ∧ u.n ≤ 9223372036854775807) (x y : List UInt8) :
    Lib.compareBytes (v.enc ++ x) (u.enc ++ y) = if cmpVV v u = 0 then Lib.compareBytes x y else cmpVV v u := by
  have one : (UInt8.lt_iff_toNat_lt (a := 1) (b := 2)).1 (by decide) = (by decide : (1 : UInt8).toNat < (2 : UInt8).toNat) := rfl
  clear one
  by_cases h2 : v.t = 2
  · obtain ⟨n1, _, o1⟩ := str_ok hv h2
    by_cases h3 : u.t = 2
    · obtain ⟨n2, _, o2⟩ := str_ok hu h3
      have e1 : v.enc ++ x = 2 :: (v.s.data.toList ++ 0 :: x) := by simp [V.enc, h2]
      have e2 : u.enc ++ y = 2 :: (u.s.data.toList ++ 0 :: y) := by simp [V.enc, h3]
      have e3 : cmpVV v u = Lib.compareBytes v.s.data.toList u.s.data.toList := by
        unfold cmpVV cmpV
        rw [h2, h3, n1, n2, cmpI_eq (a := 2) (b := 2) (by omega) (by omega), cmpI_eq (a := 0) (b := 0) (by omega) (by omega), or3_third]
      rw [e1, e2, e3]
      simp only [Lib.compareBytes]
      rw [if_neg (by decide), if_neg (by decide), cmpBytes_str _ _ _ _ o1 o2]
    · obtain ⟨t2, _⟩ := int_ok hu h3
      have e1 : v.enc ++ x = 2 :: (v.s.data.toList ++ 0 :: x) := by simp [V.enc, h2]
      have e2 : u.enc ++ y = 1 :: (encI u.n ++ y) := by simp [V.enc, h3]
      have e3 : cmpVV v u = 1 := by
        unfold cmpVV cmpV
        rw [h2, t2, cmpI_gt (a := 2) (b := 1) (by omega), or3_first (by omega)]
      rw [e1, e2, e3]
      simp only [Lib.compareBytes]
      rw [if_neg (by decide), if_pos (by decide)]
      rfl
  · obtain ⟨t1, s1⟩ := int_ok hv h2
    by_cases h3 : u.t = 2
    · have e1 : v.enc ++ x = 1 :: (encI v.n ++ x) := by simp [V.enc, h2]
      have e2 : u.enc ++ y = 2 :: (u.s.data.toList ++ 0 :: y) := by simp [V.enc, h3]
      have e3 : cmpVV v u = -1 := by
        unfold cmpVV cmpV
        rw [t1, h3, cmpI_lt (a := 1) (b := 2) (by omega), or3_first (by omega)]
      rw [e1, e2, e3]
      simp only [Lib.compareBytes]
      rw [if_pos (by decide)]
      rfl
    · obtain ⟨t2, s2⟩ := int_ok hu h3
      have e1 : v.enc ++ x = 1 :: (encI v.n ++ x) := by simp [V.enc, h2]
      have e2 : u.enc ++ y = 1 :: (encI u.n ++ y) := by simp [V.enc, h3]
      have e3 : cmpVV v u = cmpI v.n u.n := by
        unfold cmpVV cmpV
        rw [t1, t2, s1, s2, cmpI_eq (a := 1) (b := 1) (by omega) (by omega)]
        rcases cmpI_three v.n u.n with ⟨h, _⟩ | ⟨h, _⟩ | ⟨h, _⟩ <;> rw [h]
        · rw [or3_second (by omega)]
        · rw [or3_third]; rfl
        · rw [or3_second (by omega)]
      rw [e1, e2, e3]
      simp only [Lib.compareBytes]
      rw [if_neg (by decide), if_neg (by decide), cmpBytes_big _ _ _ _ (by rw [encI_length, encI_length]), bval_encI _ rv.1 rv.2, bval_encI _ ru.1 ru.2]
      have a1 := rv.1
      have a2 := ru.1
      rcases cmpI_three v.n u.n with ⟨h, hl⟩ | ⟨h, hl⟩ | ⟨h, hl⟩ <;> rw [h]
      · rw [if_pos (by omega)]; rfl
      · rw [hl, if_neg (by omega), if_neg (by omega)]; rfl
      · rw [if_neg (by omega), if_pos (by omega)]; rfl
theorem encL_cons (v : V) (p : List V) : encL (v :: p) = v.enc ++ encL p := by simp [encL]
/-- The bytewise order of encodings is the order of the lists. -/
theorem cmp_encL : ∀ (p q : List V), p.all V.ok = true → q.all V.ok = true → (∀ v ∈ p, -9223372036854775808 ≤ v.n ∧ v.n ≤ 9223372036854775807) → (∀ v ∈ q, -9223372036854775808 ≤ v.n ∧ v.n ≤ 9223372036854775807) →
    Lib.compareBytes (encL p) (encL q) = cmpL p q
  | [], [], _, _, _, _ => rfl
  | [], u :: q, _, _, _, _ => by
    rw [encL_cons]
    cases h : u.enc with
    | nil => exact absurd h (enc_ne_nil u)
    | cons c l => rfl
  | v :: p, [], _, _, _, _ => by
    rw [encL_cons]
    cases h : v.enc with
    | nil => exact absurd h (enc_ne_nil v)
    | cons c l => rfl
  | v :: p, u :: q, hp, hq, rp, rq => by
    simp only [List.all_cons, Bool.and_eq_true] at hp hq
    rw [encL_cons, encL_cons, cmp_enc v u hp.1 hq.1 (rp v (List.mem_cons_self ..)) (rq u (List.mem_cons_self ..)), cmpL, cmp_encL p q hp.2 hq.2 (fun x hx => rp x (List.mem_cons_of_mem _ hx)) (fun x hx => rq x (List.mem_cons_of_mem _ hx))]
end Go.Proofs.YtpjfkhbdhdolfaaDoor
