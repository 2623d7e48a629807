import Derived.Test.YtpinhcdcnaaihaaGreatDoorA12
namespace Go.Proofs.YtpinhcdcnaaihaaGreatDoor
open Go.RowKit
theorem pow_split (j s : Nat) : (2 : Nat) ^ (32 * j + s) = 4294967296 ^ j * 2 ^ s := by
  rw [Nat.pow_add, Nat.pow_mul]
theorem low_bit (a s : Nat) (hs : s < 32) : a % 4294967296 / 2 ^ s % 2 = a / 2 ^ s % 2 := by
  have h : (4294967296 : Nat) = 2 ^ s * 2 ^ (32 - s) := by rw [← Nat.pow_add, show s + (32 - s) = 32 by omega]
  rw [h, Nat.mod_mul_right_div_self, Nat.mod_mod_of_dvd]
  exact ⟨2 ^ (32 - s - 1), by rw [← Nat.pow_succ', show (32 - s - 1).succ = 32 - s by omega]⟩
theorem digit_val : ∀ (l : List Nat) (j : Nat), Digs l → l.getD j 0 = nval l / 4294967296 ^ j % 4294967296
  | [], j, _ => by simp [nval]
  | d :: l, 0, h => by
    have := h d (List.mem_cons_self ..)
    simp only [List.getD_cons_zero, nval, Nat.pow_zero, Nat.div_one]; omega
  | d :: l, j + 1, h => by
    have h0 := h d (List.mem_cons_self ..)
    have ih := digit_val l j (fun x hx => h x (List.mem_cons_of_mem _ hx))
    simp only [List.getD_cons_succ, nval, ih]
    rw [Nat.pow_succ, Nat.mul_comm (4294967296 ^ j), ← Nat.div_div_eq_div_mul, show (d + 4294967296 * nval l) / 4294967296 = nval l by omega]
theorem digit_bit {l : List Nat} {j s d : Nat} (h : Digs l) (hj : j < l.length) (hd : l[j] = d) (hs : s < 32) : d / 2 ^ s % 2 = nval l / 2 ^ (32 * j + s) % 2 := by
  have h1 := digit_val l j h
  rw [List.getD_eq_getElem?_getD, List.getElem?_eq_getElem hj, Option.getD_some, hd] at h1
  rw [h1, low_bit _ _ hs, Nat.div_div_eq_div_mul, ← pow_split]
theorem set_val (l : List Nat) (j d e : Nat) (hj : j < l.length) (hd : l[j] = d) : nval (l.set j (d + e)) = nval l + 4294967296 ^ j * e := by
  have h1 := nval_split l j hj
  have h2 := nval_split (l.set j (d + e)) j (by simpa using hj)
  rw [h2, h1, hd]
  have a1 : (l.set j (d + e)).take j = l.take j := by rw [List.take_set, List.set_eq_of_length_le]; rw [List.length_take]; omega
  have a2 : (l.set j (d + e)).drop (j + 1) = l.drop (j + 1) := by rw [List.drop_set_of_lt (by omega)]
  rw [a1, a2, List.getElem_set_self, Nat.add_right_comm, Nat.mul_add]
  omega
theorem mult_digit {l : List Nat} {j s d m : Nat} (h : Digs l) (hj : j < l.length) (hd : l[j] = d) (hs : s < 32) (hm : nval l = m * 2 ^ (32 * j + s + 1)) : d % 2 ^ (s + 1) = 0 := by
  have h1 := digit_val l j h
  rw [List.getD_eq_getElem?_getD, List.getElem?_eq_getElem hj, Option.getD_some, hd] at h1
  have h2 : nval l = 4294967296 ^ j * (m * 2 ^ (s + 1)) := by rw [hm, Nat.add_assoc, pow_split, ← Nat.mul_assoc, Nat.mul_comm m, Nat.mul_assoc]
  rw [h2, Nat.mul_div_cancel_left _ (Nat.pow_pos (by decide))] at h1
  rw [h1]
  have h3 : (4294967296 : Nat) = 2 ^ (s + 1) * 2 ^ (31 - s) := by rw [← Nat.pow_add, show s + 1 + (31 - s) = 32 by omega]
  rw [Nat.mod_mod_of_dvd _ ⟨2 ^ (31 - s), h3⟩, Nat.mul_mod_left]
theorem or_bit (d s : Nat) (hd : d < 4294967296) (hs : s < 32) (h : d % 2 ^ (s + 1) = 0) : bits .or .u32 (d : Int) ((2 ^ s : Nat) : Int) = ((d + 2 ^ s : Nat) : Int) := by
  have hp : 2 ^ s < 2 ^ 32 := Nat.pow_lt_pow_right (by decide) hs
  rw [u32_or_nat d (2 ^ s) hd (by simpa using hp)]
  have h1 : d ||| 2 ^ s = d + 2 ^ s := by
    have := Nat.shiftLeft_add_eq_or_of_lt (i := s + 1) (b := 2 ^ s) (Nat.pow_lt_pow_right (by decide) (by omega)) (d / 2 ^ (s + 1))
    rw [Nat.shiftLeft_eq, Nat.div_mul_cancel (Nat.dvd_of_mod_eq_zero h)] at this
    exact this.symm
  rw [h1]
theorem and_one (d : Nat) (hd : d < 4294967296) : bits .and .u32 (d : Int) 1 = ((d % 2 : Nat) : Int) := by
  have := u32_and_nat d 1 hd (by decide)
  rw [show ((1 : Nat) : Int) = 1 from rfl] at this
  rw [this, Nat.and_one_is_mod]
theorem div_bit {P Y b : Nat} (hY : 0 < Y) (hb : b ≤ 1) : (Y ≤ 2 * (P % Y) + b → (2 * P + b) / Y = 2 * (P / Y) + 1 ∧ (2 * P + b) % Y = 2 * (P % Y) + b - Y) ∧ (2 * (P % Y) + b < Y → (2 * P + b) / Y = 2 * (P / Y) ∧ (2 * P + b) % Y = 2 * (P % Y) + b) := by
  have h1 := Nat.div_add_mod P Y
  have h2 := Nat.mod_lt P hY
  generalize P / Y = q at *
  generalize P % Y = r at *
  subst h1
  have e1 : 2 * (Y * q) = Y * (2 * q) := by rw [← Nat.mul_assoc, Nat.mul_comm 2 Y, Nat.mul_assoc]
  constructor
  · intro h
    have e : 2 * (Y * q + r) + b = (2 * r + b - Y) + Y * (2 * q + 1) := by rw [Nat.mul_add Y, Nat.mul_add 2]; omega
    rw [e, Nat.add_mul_div_left _ _ hY, Nat.add_mul_mod_self_left, Nat.div_eq_of_lt (by omega), Nat.mod_eq_of_lt (by omega)]
    omega
  · intro h
    have e : 2 * (Y * q + r) + b = (2 * r + b) + Y * (2 * q) := by rw [Nat.mul_add 2]; omega
    rw [e, Nat.add_mul_div_left _ _ hY, Nat.add_mul_mod_self_left, Nat.div_eq_of_lt h, Nat.mod_eq_of_lt h]
    omega
theorem top_bit (X m : Nat) : X / 2 ^ m = 2 * (X / 2 ^ (m + 1)) + X / 2 ^ m % 2 := by
  rw [Nat.pow_succ, ← Nat.div_div_eq_div_mul]; omega
theorem made_zeros (n : Nat) : (madeCells (Value.int .u32 0).cells (n * 1)).toList = cellsN (List.replicate n 0) := by
  apply List.ext_getElem
  · simp [madeCells, cellsN]
  · intro j h1 h2
    simp [madeCells, cellsN, Value.cells, Nat.mod_one]
theorem make_nats (w : World) (n : Nat) (hn : n ≤ 1073741824) : ∃ w', (∀ kl kc, (Instr.makeSlice 25 (.int kl (n : Int)) (.int kc (n : Int))).run Tryz.prog w = .ok (.slice (some ⟨w.heap.size, 0, none⟩) n n) w') ∧
    OwnN w' w.heap.size (.slice (some ⟨w.heap.size, 0, none⟩) n n) (List.replicate n 0) ∧ Below w.heap.size w w' ∧ w'.heap.size = w.heap.size + 1 := by
  obtain ⟨i0, hi0, hz0, hz1, hz2⟩ := info_parts u32_info
  have hr : ∀ kl kc, (Instr.makeSlice 25 (.int kl (n : Int)) (.int kc (n : Int))).run Tryz.prog w = .ok (.slice (some ⟨w.heap.size, 0, none⟩) n n) (w.alloc (.cells (madeCells (Value.int .u32 0).cells (n * i0.size)) 114)) := fun kl kc => by
    have := run_make (P := Tryz.prog) w 25 114 i0 (.int .u32 0) Tryz.underlying25 hi0 hz0 kl kc n n (by omega) (Int.le_refl _) (by rw [hz2]; omega) (by omega)
    simpa using this
  rw [hz1] at hr
  refine ⟨_, hr, ?_, (Below.refl _ _).alloc (Nat.le_refl _) _, by simp⟩
  have h := World.ownsRow_lit (base := w.heap.size) (e := 114) (size := 1) w (madeCells (Value.int .u32 0).cells (n * 1)) n (Nat.le_refl _) (by simp only [maxLen]; omega) (size_madeCells _ _)
  rw [made_zeros] at h
  unfold OwnN
  rw [List.length_replicate]
  exact h
theorem replicate_val (n : Nat) : nval (List.replicate n 0) = 0 := nval_zeros _ (fun _ hd => (List.mem_replicate.1 hd).2)
theorem replicate_digs (n : Nat) : Digs (List.replicate n 0) := fun _ hd => by rw [(List.mem_replicate.1 hd).2]; decide
def DivInv (w2 : World) (X Y n : Nat) (r i : Value) (wr : World) : Prop :=
  ∃ (k : Nat) (qd : List Nat), k ≤ 32 * n ∧ i = .int .i64 ((k : Int) - 1) ∧ qd.length = n ∧ Digs qd ∧ OwnN wr w2.heap.size (.slice (some ⟨w2.heap.size, 0, none⟩) n n) qd ∧ nval qd = X / 2 ^ k / Y * 2 ^ k ∧ OwnN wr (w2.heap.size + 1) r (digs (X / 2 ^ k % Y)) ∧ Below w2.heap.size w2 wr ∧ w2.heap.size + 1 ≤ wr.heap.size
theorem DivInv.start {w2 W : World} {X Y n : Nat} {i : Int} (hX : X < 4294967296 ^ n) (ho : OwnN W w2.heap.size (.slice (some ⟨w2.heap.size, 0, none⟩) n n) (List.replicate n 0)) (hb : Below w2.heap.size w2 W) (hz : W.heap.size = w2.heap.size + 1) (hi : i = 32 * (n : Int) - 1) : DivInv w2 X Y n (.slice none 0 0) (.int .i64 i) W := by
  have h0 : X / 2 ^ (32 * n) = 0 := Nat.div_eq_of_lt (by rw [Nat.pow_mul]; exact hX)
  subst hi
  refine ⟨32 * n, List.replicate n 0, Nat.le_refl _, by rw [show ((32 * n : Nat) : Int) - 1 = 32 * (n : Int) - 1 by omega], List.length_replicate, replicate_digs n, ho, by rw [replicate_val, h0]; simp, ?_, hb, by omega⟩
  rw [h0]; simp; exact OwnN.nil _ _
theorem bit_lt {d s : Nat} (hd : d < 4294967296) (hs : s < 32) (h : d % 2 ^ (s + 1) = 0) : d + 2 ^ s < 4294967296 := by
  have h1 : d ||| 2 ^ s = d + 2 ^ s := by
    have := Nat.shiftLeft_add_eq_or_of_lt (i := s + 1) (b := 2 ^ s) (Nat.pow_lt_pow_right (by decide) (by omega)) (d / 2 ^ (s + 1))
    rw [Nat.shiftLeft_eq, Nat.div_mul_cancel (Nat.dvd_of_mod_eq_zero h)] at this
    exact this.symm
  rw [← h1]
  exact Nat.or_lt_two_pow (n := 32) hd (Nat.pow_lt_pow_right (by decide) hs)
theorem own_off {w : World} {base e size n g : Nat} {v : Value} {xs : List Value} (h : w.ownsRow base e size v n xs) (hg : g < base) : v.ownBlock ≠ some g := fun e => by have := (h.lt g e).1; omega
theorem DivInv.set {w2 w6 : World} {X Y n m j s q0 b5 : Nat} {qd : List Nat} {v6 : Value} {z i : Int} (hm : m ≤ 32 * n) (hql : qd.length = n) (hqd : Digs qd) (hoq : OwnN w6 w2.heap.size (.slice (some ⟨w2.heap.size, 0, none⟩) n n) qd) (hqv : nval qd = X / 2 ^ (m + 1) / Y * 2 ^ (m + 1)) (hjs : 32 * j + s = m) (hs : s < 32) (hj : j < qd.length) (hq0 : qd[j] = q0)
    (hor : OwnN w6 b5 v6 (digs (X / 2 ^ m % Y))) (hb5 : w2.heap.size + 1 ≤ b5) (hq1 : X / 2 ^ m / Y = 2 * (X / 2 ^ (m + 1) / Y) + 1) (hbr : Below w2.heap.size w2 w6) (hsr : w2.heap.size + 1 ≤ w6.heap.size) (hz : z = ((q0 + 2 ^ s : Nat) : Int)) (hi : i = (m : Int) - 1) :
    DivInv w2 X Y n v6 (.int .i64 i) (w6.setCell ⟨w2.heap.size, j, none⟩ (.int .u32 z)) := by
  subst hz hi
  have hmd : q0 % 2 ^ (s + 1) = 0 := mult_digit hqd hj hq0 hs (m := X / 2 ^ (m + 1) / Y) (by rw [hqv, hjs])
  have hq32 : q0 < 4294967296 := by rw [← hq0]; exact hqd _ (List.getElem_mem hj)
  refine ⟨m, qd.set j (q0 + 2 ^ s), hm, rfl, by rw [List.length_set, hql], fun d hd => ?_, ?_, ?_, ?_, hbr.setCell (p := ⟨w2.heap.size, j, none⟩) (Nat.le_refl _) _, by simpa [World.setCell] using hsr⟩
  · rcases List.mem_or_eq_of_mem_set hd with h | h
    · exact hqd d h
    · rw [h]; exact bit_lt hq32 hs hmd
  · have h1 : OwnN w6 w2.heap.size (.slice (some ⟨w2.heap.size, 0, none⟩) qd.length n) qd := by rw [hql]; exact hoq
    have h2 := h1.set (i := j) (q0 + 2 ^ s)
    rw [List.length_set, hql] at h2
    exact h2
  · rw [set_val qd j q0 (2 ^ s) hj hq0, hqv, hq1, Nat.add_mul, ← pow_split, hjs, Nat.pow_succ, Nat.one_mul]
    congr 1
    rw [Nat.mul_comm (2 ^ m) 2, ← Nat.mul_assoc, Nat.mul_comm _ 2]
  · have h1 : OwnN w6 (w2.heap.size + 1) v6 (digs (X / 2 ^ m % Y)) := hor.base_le hb5
    exact own_other h1 (own_off h1 (Nat.lt_succ_self _)) (fun k hk => Below.heap_setCell _ _ _ _ hk)
def DivPost (X Y : Nat) (w : World) (e : Ending) (w' : World) : Prop := ∃ q r, e = .returned (.tuple #[q, r, .bool true]) ∧ OwnN w' w.heap.size q (digs (X / Y)) ∧ OwnN w' w.heap.size r (digs (X % Y)) ∧ Below w.heap.size w w'
set_option maxRecDepth 100000 in
set_option maxHeartbeats 4000000 in
theorem divmod_any (A B : Option Addr) (ca cb : Nat) (x y : List Nat) (w : World) (hA : IsN w A ca x) (hB : IsN w B cb y) (hlx : x.length ≤ 1048576) (hly : y.length ≤ 1048576) (hy : 0 < nval y) :
    Calls Tryz.prog 56 #[.slice A x.length ca, .slice B y.length cb] w (DivPost (nval x) (nval y) w) := by
  have HA := Lib.hid hA
  have HB := Lib.hid hB
  clear hA hB
  have hdx : (digs (nval x)).length ≤ x.length := digs_length_le (nval_lt x HA.out.ok)
  have hdy : (digs (nval y)).length ≤ y.length := digs_length_le (nval_lt y HB.out.ok)
  have hdy0 : 0 < (digs (nval y)).length := by
    rcases Nat.eq_zero_or_pos (digs (nval y)).length with h | h
    · have := digs_len0.1 h; omega
    · exact h
  go_enter Tryz.func56, Tryz.ntmps56
  go_wp2_with fail
  refine (norm_any A ca x _ HA.out (by omega)).mono ?_
  intro e w1 h1
  obtain ⟨A1, c1, rfl, hi1, hb1⟩ := h1.open_
  have HI0 := Lib.hid hi1
  have HB1 := Lib.hid hb1
  have hs1 := hb1.size
  clear h1 hi1 hb1
  go_wp2_with fail
  refine (norm_any B cb y _ (HB.out.below HB1.out) (by omega)).mono ?_
  intro e w2 h2
  obtain ⟨A2, c2, rfl, hi2, hb2⟩ := h2.open_
  have HI2 := Lib.hid hi2
  have HI1 := Lib.hid (HI0.out.below hb2)
  have HB2 := Lib.hid (below_then HB1.out hb2 hs1)
  have hs2 : w.heap.size ≤ w2.heap.size := Nat.le_trans hs1 hb2.size
  clear h2 hi2 hb2 HI0
  have HEX := Lib.hid (nval_digs (nval x))
  have HEY := Lib.hid (nval_digs (nval y))
  obtain ⟨dx, hdxe⟩ : ∃ dx, digs (nval x) = dx := ⟨_, rfl⟩
  obtain ⟨dy, hdye⟩ : ∃ dy, digs (nval y) = dy := ⟨_, rfl⟩
  have HDYE := Lib.hid hdye
  rw [hdxe] at HI1 hdx HEX ⊢
  rw [hdye] at HI2 hdy hdy0 HEY ⊢
  clear hdxe hdye
  obtain ⟨X, hX⟩ : ∃ X, nval x = X := ⟨_, rfl⟩
  obtain ⟨Y, hY⟩ : ∃ Y, nval y = Y := ⟨_, rfl⟩
  rw [hX] at HEX
  rw [hY] at HEY hy HDYE
  have HXE := Lib.hid hX
  have HYE := Lib.hid hY
  clear hX hY
  have hXlt : X < 4294967296 ^ dx.length := by rw [← HEX.out]; exact nval_lt dx HI1.out.ok
  have HXL := Lib.hid hXlt
  clear hXlt
  have g1 : ((dy.length : Int) == 0) = false := by rw [beq_eq_false_iff_ne]; omega
  obtain ⟨W, hmk, hoW, hbW, hzW⟩ := make_nats w2 dx.length (by omega)
  have hmk := hmk .i64 .i64
  have HOW := Lib.hid hoW
  have HBW := Lib.hid hbW
  have HZW := Lib.hid hzW
  clear hoW hbW hzW
  go_wp2
  clear hmk
  go_loopw [10, 11] (fun r i wr => DivInv w2 X Y dx.length r i wr) (fun _ i _ => (intOf i + 1).toNat)
  case atStart => exact DivInv.start HXL.out HOW.out HBW.out HZW.out (by omega)
  case round =>
    obtain ⟨k, qd, hk, rfl, hql, hqd, hoq, hqv, hor, hbr, hsr⟩ := hrel
    have HQL := Lib.hid hql
    have HQD := Lib.hid hqd
    have HOQ := Lib.hid hoq
    have HQV := Lib.hid hqv
    have HOR := Lib.hid hor
    have HBR := Lib.hid hbr
    clear hql hqd hoq hqv hor hbr
    cases k with
    | zero =>
      have hnq : nval qd = X / Y := by have := HQV.out; simpa using this
      have hor := HOR.out
      rw [Nat.pow_zero, Nat.div_one] at hor
      obtain ⟨Ar, cr, er, hir⟩ := hor.is (digs_lt (X % Y))
      subst er
      have HIR := Lib.hid hir
      have HVR := Lib.hid (nval_digs (X % Y))
      have hrl : (digs (X % Y)).length ≤ dy.length := by rw [← HDYE.out]; exact digs_length_mono (Nat.le_of_lt (Nat.mod_lt _ hy))
      have hiq : IsN wr (some ⟨w2.heap.size, 0, none⟩) dx.length qd := by
        have h1 := HOQ.out
        obtain ⟨A', c', e, hi⟩ := h1.is HQD.out
        injection e with e1 e2 e3
        subst e1 e3
        exact hi
      have HIQ := Lib.hid hiq
      have HNQ := Lib.hid hnq
      obtain ⟨dr, hdr⟩ : ∃ dr, digs (X % Y) = dr := ⟨_, rfl⟩
      rw [hdr] at HIR HVR hrl ⊢
      have HDR := Lib.hid hdr
      have hsr' : w.heap.size ≤ wr.heap.size := by omega
      have HBWR := Lib.hid (HB2.out.trans (HBR.out.mono hs2))
      clear hor hir hiq hnq hdr
      have hnm := norm_any (some ⟨w2.heap.size, 0, none⟩) dx.length qd wr HIQ.out (by have := HQL.out; omega)
      rw [HQL.out, HNQ.out] at hnm
      have HNM := Lib.hid hnm
      clear hnm
      go_wp2_with fail
      refine HNM.out.mono ?_
      rintro e w4 ⟨v4, rfl, ho4, hb4⟩
      have HO4 := Lib.hid ho4
      have HB4 := Lib.hid hb4
      have hs4 := hb4.size
      clear ho4 hb4
      have hnr := norm_any Ar cr dr w4 (HIR.out.below HB4.out) (by omega)
      rw [HVR.out] at hnr
      have HNR := Lib.hid hnr
      clear hnr
      go_wp2_with fail
      refine HNR.out.mono ?_
      rintro e w5 ⟨v5, rfl, ho5, hb5⟩
      have HO5 := Lib.hid ho5
      have HQ5 := Lib.hid (HO4.out.below hb5)
      have HB5 := Lib.hid (below_then (below_then HBWR.out HB4.out hsr') hb5 (Nat.le_trans hsr' hs4))
      clear ho5 hb5
      go_wp2
      go_ret3
      exact ⟨v4, v5, rfl, by rw [HXE.out, HYE.out]; exact HQ5.out.base_le hsr', by rw [HXE.out, HYE.out]; exact HO5.out.base_le (by omega), HB5.out⟩
    | succ m =>
      rw [show ((m + 1 : Nat) : Int) - 1 = (m : Int) by omega]
      have hj : m / 32 < dx.length := by omega
      obtain ⟨j, hje⟩ : ∃ j, m / 32 = j := ⟨_, rfl⟩
      obtain ⟨s, hse⟩ : ∃ s, m % 32 = s := ⟨_, rfl⟩
      have hs32 : s < 32 := by omega
      have hjs : 32 * j + s = m := by omega
      rw [hje] at hj
      have i1 : (m : Int) / 32 = (j : Int) := by omega
      have i2 : (m : Int) % 32 = (s : Int) := by omega
      obtain ⟨b, off, rfl, hb, hc⟩ := (HI1.out.below HBR.out).digit hj
      obtain ⟨d, hd⟩ : ∃ d, dx[j] = d := ⟨_, rfl⟩
      have hce := hc j hj
      rw [hd] at hce
      have hd32 : d < 4294967296 := by rw [← hd]; exact HI1.out.ok _ (List.getElem_mem hj)
      have HBIT := Lib.hid (digit_bit HI1.out.ok hj hd hs32)
      rw [HEX.out, hjs] at HBIT
      have hdd : d / 2 ^ s < 4294967296 := Nat.lt_of_le_of_lt (Nat.div_le_self _ _) hd32
      have hand := and_one (d / 2 ^ s) hdd
      rw [Int.natCast_ediv, show ((2 ^ s : Nat) : Int) = (2 : Int) ^ s by simp, HBIT.out] at hand
      have HAND := Lib.hid hand
      have hbit : X / 2 ^ m % 2 ≤ 1 := by omega
      obtain ⟨bit, hbe⟩ : ∃ bit, X / 2 ^ m % 2 = bit := ⟨_, rfl⟩
      rw [hbe] at HAND hbit
      have HBE := Lib.hid hbe
      clear hand hbe
      have HJS := Lib.hid hjs
      clear hd hc hje hse hjs
      have k1 : (j : Int) < (dx.length : Int) := by omega
      have k2 : (0 : Int) ≤ (j : Int) := by omega
      have k3 : (0 : Int) ≤ (s : Int) := by omega
      have k4 : (s : Int) < 32 := by omega
      obtain ⟨R, hR⟩ : ∃ R, X / 2 ^ (m + 1) % Y = R := ⟨_, rfl⟩
      have hRY : R < Y := by rw [← hR]; exact Nat.mod_lt _ hy
      have HR := Lib.hid hR
      rw [hR] at HOR
      clear hR
      have hdR : (digs R).length ≤ dy.length := by rw [← HDYE.out]; exact digs_length_mono (by omega)
      obtain ⟨Ar, cr, er, hir⟩ := HOR.out.is (digs_lt R)
      subst er
      have HIR := Lib.hid hir
      have HVR := Lib.hid (nval_digs R)
      clear hir
      obtain ⟨dr, hdre⟩ : ∃ dr, digs R = dr := ⟨_, rfl⟩
      rw [hdre] at HIR HVR hdR HOR ⊢
      clear hdre
      have hsr' : w2.heap.size ≤ wr.heap.size := by omega
      go_wp2_with fail
      rw [HAND.out]
      have hdb := double_any Ar cr dr bit wr HIR.out (by omega) hbit
      rw [HVR.out] at hdb
      refine hdb.mono ?_
      intro e w4 h4
      obtain ⟨v4, rfl, ho4, hb4⟩ := h4
      have HO4 := Lib.hid ho4
      have HB4 := Lib.hid hb4
      have hs4 := hb4.size
      have HQ4 := Lib.hid (HOQ.out.below hb4)
      have HB24 := Lib.hid (below_then HBR.out hb4 hsr')
      clear hdb ho4 hb4
      obtain ⟨R1, hR1⟩ : ∃ R1, 2 * R + bit = R1 := ⟨_, rfl⟩
      have hR1' : R1 < 2 * Y := by omega
      rw [hR1] at HO4
      have HR1 := Lib.hid hR1
      clear hR1
      have hdR1 : (digs R1).length ≤ dy.length + 1 := digs_length_le (by
        have h1 := nval_lt dy HI2.out.ok
        rw [HEY.out] at h1
        rw [Nat.pow_succ]; omega)
      obtain ⟨A4, c4, e4, hi4⟩ := HO4.out.is (digs_lt R1)
      subst e4
      have HI4 := Lib.hid hi4
      have HV4 := Lib.hid (nval_digs R1)
      clear hi4
      obtain ⟨d4, hd4⟩ : ∃ d4, digs R1 = d4 := ⟨_, rfl⟩
      have HD4 := Lib.hid hd4
      rw [hd4] at HI4 HV4 hdR1 HO4 ⊢
      clear hd4
      have hs24 : w2.heap.size ≤ w4.heap.size := by omega
      have HY4 := Lib.hid (HI2.out.below HB24.out)
      go_wp2_with fail
      have hcm := cmp_any A4 A2 c4 c2 d4 dy w4 HI4.out HY4.out (by omega) (by omega)
      rw [HV4.out, HEY.out] at hcm
      refine hcm.mono ?_
      rintro e w5 ⟨he, hb5⟩
      have HB5 := Lib.hid hb5
      have hs5 := hb5.size
      have HQ5 := Lib.hid (HQ4.out.below hb5)
      have HO5 := Lib.hid (HO4.out.below hb5)
      have HB25 := Lib.hid (below_then HB24.out hb5 hs24)
      clear hcm hb5
      have hst := div_bit (P := X / 2 ^ (m + 1)) (Y := Y) (b := bit) hy hbit
      have htb := top_bit X m
      rw [HBE.out] at htb
      rw [← htb, HR.out, HR1.out] at hst
      have HST := Lib.hid hst
      clear hst htb
      by_cases hge : Y ≤ R1
      · obtain ⟨hq1, hr1⟩ := HST.out.1 hge
        have HQ1 := Lib.hid hq1
        have HRR := Lib.hid hr1
        clear hq1 hr1
        have hcv : 0 ≤ cmpI (R1 : Int) (Y : Int) := by
          rcases Nat.lt_or_ge Y R1 with h | h
          · rw [cmpN_gt h]; decide
          · rw [cmpN_eq (by omega)]; decide
        obtain ⟨cm, hcm⟩ : ∃ cm, cmpI (R1 : Int) (Y : Int) = cm := ⟨_, rfl⟩
        rw [hcm] at he hcv
        subst he
        clear hcm
        go_wp2_with fail
        have hsb := sub_any A4 A2 c4 c2 d4 dy w5 (HI4.out.below HB5.out) (HY4.out.below HB5.out) (by omega) (by omega) (by rw [HV4.out, HEY.out]; exact hge)
        rw [HV4.out, HEY.out] at hsb
        refine hsb.mono ?_
        rintro e w6 ⟨v6, rfl, ho6, hb6⟩
        have HO6 := Lib.hid ho6
        have hs6 := hb6.size
        have HQ6 := Lib.hid (HQ5.out.below hb6)
        have HB26 := Lib.hid (below_then HB25.out hb6 (by omega))
        clear hsb ho6 hb6
        have hjq : j < qd.length := by have := HQL.out; omega
        obtain ⟨q0, hq0⟩ : ∃ q0, qd[j] = q0 := ⟨_, rfl⟩
        have hq32 : q0 < 4294967296 := by rw [← hq0]; exact HQD.out _ (List.getElem_mem hjq)
        have hcq := HQ6.out.cell hjq
        rw [hq0] at hcq
        have hfq := HQ6.out.free j
        have hmd : q0 % 2 ^ (s + 1) = 0 := mult_digit HQD.out hjq hq0 hs32 (m := X / 2 ^ (m + 1) / Y) (by rw [HQV.out, HJS.out])
        have HOB := Lib.hid (or_bit q0 s hq32 hs32 hmd)
        have HQ0 := Lib.hid hq0
        have hp32 : 2 ^ s < 4294967296 := by
          have : 2 ^ s < 2 ^ 32 := Nat.pow_lt_pow_right (by decide) hs32
          simpa using this
        clear hq0 hce
        have HPZ := Lib.hid (show (2 : Int) ^ s % 4294967296 = ((2 ^ s : Nat) : Int) by
          have e : ((2 ^ s : Nat) : Int) = (2 : Int) ^ s := by simp
          rw [← e]; omega)
        go_wp2
        go_roundw
        case rel => exact DivInv.set (q0 := q0) (by omega) HQL.out HQD.out HQ6.out HQV.out HJS.out hs32 hjq HQ0.out (by rw [HRR.out]; exact HO6.out) (by omega) HQ1.out HB26.out (by omega) (by rw [HPZ.out, HOB.out]) rfl
        case measure => simp [intOf]
      · obtain ⟨hq1, hr1⟩ := HST.out.2 (by omega)
        have HQ1 := Lib.hid hq1
        have HRR := Lib.hid hr1
        clear hq1 hr1
        rw [cmpN_lt (show R1 < Y by omega)] at he
        subst he
        clear hce
        go_wp2
        go_roundw
        case rel =>
          refine ⟨m, qd, by omega, rfl, HQL.out, HQD.out, HQ5.out, ?_, ?_, HB25.out, by omega⟩
          · rw [HQV.out, HQ1.out, Nat.pow_succ, Nat.mul_comm (2 ^ m) 2, ← Nat.mul_assoc, Nat.mul_comm _ 2]
          · rw [HRR.out]
            have := HO5.out
            rw [← HD4.out] at this
            rw [← HD4.out]
            exact this.base_le (by omega)
        case measure => simp [intOf]
end Go.Proofs.YtpinhcdcnaaihaaGreatDoor
namespace Go.Proofs.YtpinhcdcnaaihaaGreatDoor
open Go.RowKit
def numAt (v : Value) (w : World) : Nat :=
  match v with
  | .slice (some a) n _ => nval ((List.range n).map fun i => match w.cell? ⟨a.block, a.off + i, none⟩ with
    | some (.int _ d) => d.toNat
    | _ => 0)
  | _ => 0
theorem OwnN.num {w : World} {base : Nat} {v : Value} {l : List Nat} (h : OwnN w base v l) : numAt v w = nval l := by
  rcases h.2 with ⟨rfl, hn⟩ | ⟨g, cap, cur, rfl, hr⟩
  · have : l = [] := List.eq_nil_of_length_eq_zero hn
    subst this; rfl
  · show nval ((List.range l.length).map fun i => match w.cell? ⟨g, 0 + i, none⟩ with
      | some (.int _ d) => d.toNat
      | _ => 0) = nval l
    congr 1
    apply List.ext_getElem
    · simp
    · intro j h1 h2
      have hc := h.cell h2
      simp [hc]
theorem gcd_half_left {a b : Nat} (ha : a % 2 = 0) (hb : b % 2 = 1) : Nat.gcd (a / 2) b = Nat.gcd a b := by
  have h2 : Nat.Coprime 2 b := by
    unfold Nat.Coprime
    rw [Nat.gcd_rec, hb]; decide
  have := h2.gcd_mul_left_cancel (a / 2)
  rw [show 2 * (a / 2) = a by omega] at this
  exact this.symm
theorem gcd_half_right {a b : Nat} (ha : a % 2 = 1) (hb : b % 2 = 0) : Nat.gcd a (b / 2) = Nat.gcd a b := by
  rw [Nat.gcd_comm, gcd_half_left hb ha, Nat.gcd_comm]
theorem odd_digit {n : Nat} (h : n ≠ 0) : ∃ h' : 0 < (digs n).length, (digs n)[0] % 2 = n % 2 := by
  have e := digs_step h
  refine ⟨by rw [e]; simp, ?_⟩
  have : (digs n)[0]'(by rw [e]; simp) = n % 4294967296 := by
    rw [List.getElem_of_eq e]; rfl
  rw [this]; omega
def NumIn (w wr : World) (v : Value) (n : Nat) : Prop := OwnN wr w.heap.size v (digs n)
theorem NumIn.below {w wr w' : World} {v : Value} {n : Nat} (h : NumIn w wr v n) (hb : Below wr.heap.size wr w') : NumIn w w' v n := OwnN.below h hb
theorem NumIn.is {w wr : World} {v : Value} {n : Nat} (h : NumIn w wr v n) : ∃ A c, v = .slice A (digs n).length c ∧ IsN wr A c (digs n) := OwnN.is h (digs_lt n)
theorem NumIn.num {w wr : World} {v : Value} {n : Nat} (h : NumIn w wr v n) : numAt v wr = n := (OwnN.num h).trans (nval_digs n)
theorem NumIn.low {wr : World} {A : Option Addr} {c n : Nat} (h : IsN wr A c (digs n)) (hn : n ≠ 0) : ∃ b off d, A = some ⟨b, off, none⟩ ∧ wr.cell? ⟨b, off, none⟩ = some (.int .u32 (d : Nat)) ∧ d % 2 = n % 2 ∧ d < 4294967296 ∧ 0 < (digs n).length := by
  obtain ⟨h0, hd⟩ := odd_digit hn
  obtain ⟨b, off, e, _, hc⟩ := h.digit h0
  exact ⟨b, off, (digs n)[0], e, hc 0 h0, hd, h.ok _ (List.getElem_mem h0), h0⟩
theorem halfN {wr : World} {A : Option Addr} {c n : Nat} (h : IsN wr A c (digs n)) (hl : (digs n).length ≤ 1073741822) : Calls Tryz.prog 95 #[.slice A (digs n).length c] wr (NatPost (n / 2) wr) := by
  have := half_any A c (digs n) wr h hl
  rwa [nval_digs] at this
theorem doubleN {wr : World} {A : Option Addr} {c n bit : Nat} (h : IsN wr A c (digs n)) (hl : (digs n).length ≤ 1073741822) (hb : bit ≤ 1) : Calls Tryz.prog 97 #[.slice A (digs n).length c, .int .u32 bit] wr (NatPost (2 * n + bit) wr) := by
  have := double_any A c (digs n) bit wr h hl hb
  rwa [nval_digs] at this
theorem cmpN {wr : World} {A B : Option Addr} {c d m n : Nat} (h : IsN wr A c (digs m)) (h' : IsN wr B d (digs n)) (hl : (digs m).length ≤ 1073741822) (hl' : (digs n).length ≤ 1073741822) : Calls Tryz.prog 68 #[.slice A (digs m).length c, .slice B (digs n).length d] wr (CmpPost m n wr) := by
  have := cmp_any A B c d (digs m) (digs n) wr h h' (by omega) (by omega)
  rwa [nval_digs, nval_digs] at this
theorem subN {wr : World} {A B : Option Addr} {c d m n : Nat} (h : IsN wr A c (digs m)) (h' : IsN wr B d (digs n)) (hl : (digs m).length ≤ 1073741822) (hl' : (digs n).length ≤ 1073741822) (hle : n ≤ m) : Calls Tryz.prog 96 #[.slice A (digs m).length c, .slice B (digs n).length d] wr (SubPost (m - n) wr) := by
  have := sub_any A B c d (digs m) (digs n) wr h h' (by omega) (by omega) (by rw [nval_digs, nval_digs]; exact hle)
  rwa [nval_digs, nval_digs] at this
theorem NatPost.num {n : Nat} {w wr : World} {e : Ending} {w' : World} (h : NatPost n wr e w') (hs : w.heap.size ≤ wr.heap.size) : ∃ v, e = .returned v ∧ NumIn w w' v n ∧ Below wr.heap.size wr w' := by
  obtain ⟨v, he, ho, hb⟩ := h
  exact ⟨v, he, OwnN.base_le ho hs, hb⟩
theorem len_of {n M k : Nat} (h : n ≤ M) (hM : M < 4294967296 ^ k) : (digs n).length ≤ k := digs_length_le (Nat.lt_of_le_of_lt h hM)
def G1Inv (w : World) (X Y : Nat) (x y sh : Value) (wr : World) : Prop := ∃ a b s : Nat, sh = .int .i64 s ∧ NumIn w wr x a ∧ NumIn w wr y b ∧ 0 < a ∧ 0 < b ∧ a * 2 ^ s = X ∧ b * 2 ^ s = Y ∧ Below w.heap.size w wr
def G2Inv (w : World) (G s k : Nat) (x y : Value) (wr : World) : Prop := ∃ a b : Nat, NumIn w wr x a ∧ NumIn w wr y b ∧ 0 < a ∧ (a % 2 = 1 ∨ b % 2 = 1) ∧ Nat.gcd a b * 2 ^ s = G ∧ a < 4294967296 ^ k ∧ b < 4294967296 ^ k ∧ Below w.heap.size w wr
def G3Inv (w : World) (g a0 b : Nat) (x y : Value) (wr : World) : Prop := ∃ a : Nat, NumIn w wr x a ∧ NumIn w wr y b ∧ 0 < a ∧ a ≤ a0 ∧ (a % 2 = 1 ∨ b % 2 = 1) ∧ Nat.gcd a b = g ∧ Below w.heap.size w wr
def G4Inv (w : World) (g b0 a : Nat) (x y : Value) (wr : World) : Prop := ∃ b : Nat, NumIn w wr x a ∧ NumIn w wr y b ∧ 0 < b ∧ b ≤ b0 ∧ Nat.gcd a b = g ∧ Below w.heap.size w wr
def G5Inv (w : World) (a s : Nat) (x i : Value) (wr : World) : Prop := ∃ t : Nat, t ≤ s ∧ i = .int .i64 t ∧ NumIn w wr x (a * 2 ^ t) ∧ Below w.heap.size w wr
end Go.Proofs.YtpinhcdcnaaihaaGreatDoor
