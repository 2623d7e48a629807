import Derived.Test.YtpinhcdcnaaihaaGreatDoorA15
namespace Go.Proofs.YtpinhcdcnaaihaaGreatDoor
open Go.RowKit
theorem i64_eq {a b : Int} (h : a = b) : Value.int .i64 a = .int .i64 b := by rw [h]
theorem digs_cases {n : Nat} (hn : n < 18446744073709551616) : (n = 0 ∧ digs n = []) ∨ (0 < n ∧ n < 4294967296 ∧ digs n = [n]) ∨ (4294967296 ≤ n ∧ digs n = [n % 4294967296, n / 4294967296]) := by
  rcases Nat.eq_zero_or_pos n with rfl | h
  · exact .inl ⟨rfl, rfl⟩
  · rcases Nat.lt_or_ge n 4294967296 with h1 | h1
    · refine .inr (.inl ⟨h, h1, ?_⟩)
      rw [digs_step (by omega), Nat.div_eq_of_lt h1, Nat.mod_eq_of_lt h1]; rfl
    · refine .inr (.inr ⟨h1, ?_⟩)
      rw [digs_step (by omega), digs_step (by omega), show n / 4294967296 / 4294967296 = 0 by omega, show n / 4294967296 % 4294967296 = n / 4294967296 by omega]; rfl
theorem or_hi (a b : Nat) (ha : a < 4294967296) (hb : b < 4294967296) : bits .or .u64 (((a * 4294967296 : Nat)) : Int) (b : Int) = ((a * 4294967296 + b : Nat) : Int) := by
  rw [u64_or_nat (a * 4294967296) b (by omega) (by omega)]
  have h32 : (2 : Nat) ^ 32 = 4294967296 := by decide
  have := Nat.shiftLeft_add_eq_or_of_lt (i := 32) (b := b) (by rw [h32]; exact hb) a
  rw [Nat.shiftLeft_eq, h32] at this
  rw [this]
set_option maxRecDepth 100000 in
set_option maxHeartbeats 1000000 in
theorem uint64D {v : Value} {n : Nat} {w : World} (h : IsD w v n) (hn : n < 18446744073709551616) : Calls Tryz.prog 245 #[v] w (Gives (fun _ r => r = .tuple #[.int .u64 n, .bool true]) w) := by
  have hl : (digs n).length ≤ 2 := digs_length_le (by have : (4294967296 ^ 2 : Nat) = 18446744073709551616 := (by decide); omega)
  have HC := Lib.hid (trimD h (by omega))
  obtain ⟨A0, c0, rfl, _⟩ := h
  go_enter Tryz.func245, Tryz.ntmps245
  go_wp2_with fail
  refine HC.out.mono ?_
  rintro e w1 ⟨v1, rfl, hd1, hb1⟩
  obtain ⟨A1, c1, ds, rfl, hi1, hds⟩ := hd1.open_
  have HI1 := Lib.hid hi1
  have HB1 := Lib.hid hb1
  have HDS := Lib.hid hds.out
  clear hd1 hi1 hb1 hds HC
  rcases digs_cases hn with ⟨h0, hd⟩ | ⟨h0, h1, hd⟩ | ⟨h0, hd⟩
  · rw [hd] at HDS
    obtain rfl := HDS.out
    subst h0
    clear hd hn
    go_wp2
    go_ret2
    exact ⟨_, rfl, rfl, HB1.out⟩
  · rw [hd] at HDS
    obtain rfl := HDS.out
    obtain ⟨b, off, rfl, hb, hc⟩ := HI1.out.digit (i := 0) (by simp)
    have c0 := hc 0 (by simp)
    simp only [List.getElem_cons_zero, Nat.add_zero] at c0
    clear hc hd
    go_wp2
    go_ret2
    exact ⟨_, rfl, rfl, HB1.out⟩
  · rw [hd] at HDS
    obtain rfl := HDS.out
    obtain ⟨b, off, rfl, hb, hc⟩ := HI1.out.digit (i := 0) (by simp)
    have c0 := hc 0 (by simp)
    have c1 := hc 1 (by simp)
    simp only [List.getElem_cons_zero, Nat.add_zero] at c0
    simp only [List.getElem_cons_succ, List.getElem_cons_zero] at c1
    have hor := or_hi (n / 4294967296) (n % 4294967296) (by omega) (by omega)
    rw [show n / 4294967296 * 4294967296 + n % 4294967296 = n by omega] at hor
    have HOR := Lib.hid hor
    have hlo : n % 4294967296 < 4294967296 := by omega
    have hhi : n / 4294967296 < 4294967296 := by omega
    obtain ⟨lo, hloe⟩ : ∃ lo, n % 4294967296 = lo := ⟨_, rfl⟩
    obtain ⟨hi, hhie⟩ : ∃ hi, n / 4294967296 = hi := ⟨_, rfl⟩
    rw [hloe] at c0 HOR hlo HI1
    rw [hhie] at c1 HOR hhi HI1
    have HE := Lib.hid (show n = hi * 4294967296 + lo by omega)
    rw [hloe, hhie]
    clear hor hloe hhie hc hd
    go_wp2
    go_quiet (fail)
    go_wp2
    go_ret2
    refine ⟨_, rfl, ?_, below_drewN HB1.out⟩
    have h1 := HOR.out
    first
      | rfl
      | (rw [show (((hi * 4294967296 : Nat)) : Int) = (hi : Int) * 4294967296 by omega] at h1; rw [← h1]; rfl)
def nbits (n : Nat) : Nat := if n = 0 then 0 else 32 * ((digs n).length - 1) + Lib.bitLen ((digs n).getD ((digs n).length - 1) 0)
theorem bitLen_pos {d : Nat} (h : 0 < d) (h64 : d < 2 ^ 64) : 0 < Lib.bitLen d := by
  have := (Lib.bitLenAux_bounds 64 d h64 (by omega)).1
  exact this
set_option maxRecDepth 100000 in
set_option maxHeartbeats 1000000 in
theorem bitLenD {v : Value} {n : Nat} {w : World} (h : IsD w v n) (hl : (digs n).length ≤ 1048576) : Calls Tryz.prog 155 #[v] w (Gives (fun _ r => r = .int .i64 (nbits n)) w) := by
  have HC := Lib.hid (trimD h (by omega))
  obtain ⟨A0, c0, rfl, _⟩ := h
  go_enter Tryz.func155, Tryz.ntmps155
  go_wp2_with fail
  refine HC.out.mono ?_
  rintro e w1 ⟨v1, rfl, hd1, hb1⟩
  obtain ⟨A1, c1, ds, rfl, hi1, hds⟩ := hd1.open_
  have HI1 := Lib.hid hi1
  have HB1 := Lib.hid hb1
  have hlen : ds.length ≤ 1048576 := by have := hds.out; rw [this]; exact hl
  have HN : Hid (nbits n = if ds.length = 0 then 0 else 32 * (ds.length - 1) + Lib.bitLen (ds.getD (ds.length - 1) 0)) := by
    show _ = _
    unfold nbits
    rw [hds.out]
    by_cases h0 : n = 0
    · rw [if_pos h0, if_pos (digs_len0.2 h0)]
    · rw [if_neg h0, if_neg (fun e => h0 (digs_len0.1 e))]
  clear hd1 hi1 hb1 hds HC hl
  by_cases h0 : ds.length = 0
  · have g1 : ((ds.length : Int) == 0) = true := by rw [beq_iff_eq]; omega
    go_wp2
    go_ret
    exact ⟨_, rfl, by rw [HN.out, if_pos h0]; rfl, HB1.out⟩
  · have g1 : ((ds.length : Int) == 0) = false := by rw [beq_eq_false_iff_ne]; omega
    obtain ⟨b, off, rfl, hb, hc⟩ := HI1.out.digit (i := 0) (by omega)
    have c0 := hc (ds.length - 1) (by omega)
    have hd32 : ds[ds.length - 1]'(by omega) < 4294967296 := HI1.out.ok _ (List.getElem_mem _)
    obtain ⟨d, hd⟩ : ∃ d, ds[ds.length - 1]'(by omega) = d := ⟨_, rfl⟩
    rw [hd] at c0 hd32
    have HND : Hid (nbits n = 32 * (ds.length - 1) + Lib.bitLen d) := by
      show _ = _
      rw [HN.out, if_neg h0, ← hd, List.getD, List.getElem?_eq_getElem (by omega)]
      rfl
    obtain ⟨x, hx⟩ : ∃ x, Lib.bitLen d = x := ⟨_, rfl⟩
    have hbx : x ≤ 32 := by rw [← hx]; exact Lib.bitLen_le d 32 (by decide) (by rw [show (2 : Nat) ^ 32 = 4294967296 by decide]; exact hd32)
    have HL := Lib.hid (fun w => Tryz.bits_Len32 (d : Int) w (by omega) (by omega))
    simp only [Int.toNat_natCast] at HL
    rw [hx] at HL HND
    clear hc hd hx
    go_wp2_with fail
    refine (HL.out _).mono ?_
    rintro e w2 ⟨rfl, rfl⟩
    go_wp2
    go_ret
    exact ⟨_, rfl, i64_eq (by rw [HND.out]; omega), HB1.out⟩
set_option maxRecDepth 100000 in
set_option maxHeartbeats 2000000 in
theorem bcmpD {u v : Value} {X Y : Nat} {w : World} (hu : IsD w u X) (hv : IsD w v Y) (hlx : (digs X).length ≤ 1073741823) (hly : (digs Y).length ≤ 1073741823) : Calls Tryz.prog 206 #[u, v] w (Gives (fun _ r => r = .int .i64 (cmpI X Y)) w) := by
  have HC := Lib.hid (trimD hu hlx)
  have HV := Lib.hid hv
  obtain ⟨A0, c0, rfl, _⟩ := hu
  obtain ⟨B0, e0, rfl, _⟩ := hv
  go_enter Tryz.func206, Tryz.ntmps206
  go_wp2_with fail
  refine HC.out.mono ?_
  rintro e w1 ⟨v1, rfl, hd1, hb1⟩
  obtain ⟨A1, c1, a, rfl, hi1, hds⟩ := hd1.open_
  have HI0 := Lib.hid hi1
  have HB1 := Lib.hid hb1
  have HDA := Lib.hid hds.out
  have hs1 := hb1.size
  clear hd1 hi1 hb1 hds HC
  have HC2 := Lib.hid (trimD (HV.out.below HB1.out) hly)
  go_wp2_with fail
  refine HC2.out.mono ?_
  rintro e w2 ⟨v2, rfl, hd2, hb2⟩
  obtain ⟨A2, c2, b, rfl, hi2, hds⟩ := hd2.open_
  have HI2 := Lib.hid hi2
  have HI1 := Lib.hid (HI0.out.below hb2)
  have HB2 := Lib.hid (below_then HB1.out hb2 hs1)
  have HDB := Lib.hid hds.out
  have hs2 : w.heap.size ≤ w2.heap.size := Nat.le_trans hs1 hb2.size
  clear hd2 hi2 hb2 hds HC2 HI0
  have HVA : Hid (nval a = X) := by rw [HDA.out]; exact nval_digs X
  have HVB : Hid (nval b = Y) := by rw [HDB.out]; exact nval_digs Y
  have HSH := Lib.hid (@digs_short X Y)
  have HSH2 := Lib.hid (@digs_short Y X)
  have hdx : a.length ≤ 1073741823 := by rw [HDA.out]; exact hlx
  have hdy : b.length ≤ 1073741823 := by rw [HDB.out]; exact hly
  rw [← HDA.out, ← HDB.out] at HSH HSH2
  by_cases hne : a.length = b.length
  · have HNE := Lib.hid hne
    have g1 : ((a.length : Int) == (b.length : Int)) = true := by rw [beq_iff_eq]; omega
    have g2 : ((a.length : Int) != (b.length : Int)) = false := by rw [bne_eq_false_iff_eq]; omega
    clear hne
    go_wp2
    go_loopw [5] (fun i wr => ∃ k : Nat, k ≤ a.length ∧ i = .int .i64 ((k : Int) - 1) ∧ (∀ (j : Nat) (h1 : j < a.length) (h2 : j < b.length), k ≤ j → a[j] = b[j]) ∧ Below w2.heap.size w2 wr) (fun i _ => (intOf i + 1).toNat)
    case atStart => exact ⟨a.length, Nat.le_refl _, rfl, fun j h1 h2 h => by omega, Below.refl _ _⟩
    case round =>
      obtain ⟨k, hk, rfl, he, hbw⟩ := hrel
      have HEQ := Lib.hid he
      have HBW := Lib.hid hbw
      have HF := Lib.hid (below_then HB2.out hbw hs2)
      clear he hbw
      cases k with
      | zero =>
        have HXY := Lib.hid (show X = Y by rw [← HVA.out, ← HVB.out, all_same a b HNE.out (fun j h1 h2 => HEQ.out j h1 h2 (by omega))])
        go_wp2
        go_ret
        exact ⟨_, rfl, by rw [cmpN_eq HXY.out]; rfl, HF.out⟩
      | succ k =>
        rw [show ((k + 1 : Nat) : Int) - 1 = (k : Int) by omega]
        obtain ⟨b1, o1, rfl, hb1, hc1⟩ := (HI1.out.below HBW.out).digit (i := k) (by omega)
        obtain ⟨b2, o2, rfl, hb2, hc2⟩ := (HI2.out.below HBW.out).digit (i := k) (by have := HNE.out; omega)
        have c1 := hc1 k (by omega)
        have c2 := hc2 k (by have := HNE.out; omega)
        have hkb : k < b.length := by have := HNE.out; omega
        have hka : k < a.length := by omega
        have HLT : Hid (a[k]'hka < b[k]'hkb → nval a < nval b) := (fun h => top_lt a b k HI1.out.ok HNE.out (by omega) (fun j h1 h2 h' => HEQ.out j h1 h2 (by omega)) h)
        have HGT : Hid (b[k]'hkb < a[k]'hka → nval b < nval a) := (fun h => top_lt b a k HI2.out.ok HNE.out.symm hkb (fun j h1 h2 h' => (HEQ.out j h2 h1 (by omega)).symm) h)
        rw [HVA.out, HVB.out] at HLT HGT
        obtain ⟨p, hp⟩ : ∃ p, a[k]'(by omega) = p := ⟨_, rfl⟩
        obtain ⟨q, hq⟩ : ∃ q, b[k] = q := ⟨_, rfl⟩
        have HP := Lib.hid hp
        have HQ := Lib.hid hq
        rw [hp] at c1
        rw [hq] at c2
        clear hc1 hc2 hp hq
        have k0 : (0 : Int) ≤ (k : Int) := by omega
        have k1 : (k : Int) < (a.length : Int) := by omega
        have k2 : (k : Int) < (b.length : Int) := by omega
        rcases Nat.lt_trichotomy p q with hpq | hpq | hpq
        · have HR := Lib.hid (HLT.out (by rw [HP.out, HQ.out]; exact hpq))
          have t1 : decide ((p : Int) < (q : Int)) = true := by simp; omega
          go_wp2
          go_quiet (fail)
          go_wp2
          go_ret
          exact ⟨_, rfl, by rw [cmpN_lt HR.out]; rfl, below_drewN HF.out⟩
        · subst hpq
          go_wp2
          go_quiet (fail)
          go_wp2
          go_quiet (fail)
          go_wp2
          go_roundw
          case rel =>
            refine ⟨k, by omega, by go_num, fun j h1 h2 h => ?_, by first | exact below_drewN (below_drewN HBW.out) | exact below_drewN HBW.out⟩
            by_cases e : j = k
            · subst e; rw [HP.out, HQ.out]
            · exact HEQ.out j h1 h2 (by omega)
          case measure => simp [intOf]
        · have HR := Lib.hid (HGT.out (by rw [HP.out, HQ.out]; exact hpq))
          have t1 : decide ((p : Int) < (q : Int)) = false := by simp; omega
          have t2 : decide ((q : Int) < (p : Int)) = true := by simp; omega
          go_wp2
          go_quiet (fail)
          go_wp2
          go_quiet (fail)
          go_wp2
          go_ret
          exact ⟨_, rfl, by rw [cmpN_gt HR.out]; rfl, by first | exact below_drewN (below_drewN HF.out) | exact below_drewN HF.out⟩
  · have g1 : ((a.length : Int) == (b.length : Int)) = false := by rw [beq_eq_false_iff_ne]; omega
    have g2 : ((a.length : Int) != (b.length : Int)) = true := by rw [bne_iff_ne]; omega
    rcases Nat.lt_or_ge a.length b.length with hlt | hge
    · have HR := Lib.hid (HSH.out hlt)
      go_wp2
      go_ret
      exact ⟨_, rfl, by rw [cmpN_lt HR.out]; rfl, HB2.out⟩
    · have hgt : b.length < a.length := by omega
      have HR := Lib.hid (HSH2.out hgt)
      go_wp2
      go_ret
      exact ⟨_, rfl, by rw [cmpN_gt HR.out]; rfl, HB2.out⟩
def GcdInv (w : World) (G : Nat) (x y : Value) (wr : World) : Prop := ∃ a b : Nat, x = .int .u64 a ∧ y = .int .u64 b ∧ a < 18446744073709551616 ∧ b < 18446744073709551616 ∧ Nat.gcd a b = G ∧ Below w.heap.size w wr
set_option maxRecDepth 100000 in
set_option maxHeartbeats 2000000 in
theorem gcdSmallD {u v : Value} {X Y : Nat} {w : World} (hu : IsD w u X) (hv : IsD w v Y) (hx : X < 18446744073709551616) (hy : Y < 18446744073709551616) : Calls Tryz.prog 205 #[u, v] w (Gives (fun W r => IsD W r (Nat.gcd X Y)) w) := by
  have HC := Lib.hid (uint64D hu hx)
  have HV := Lib.hid hv
  obtain ⟨A0, c0, rfl, _⟩ := hu
  obtain ⟨B0, e0, rfl, _⟩ := hv
  go_enter Tryz.func205, Tryz.ntmps205
  go_wp2_with fail
  refine HC.out.mono ?_
  rintro e w1 ⟨v1, rfl, hr1, hb1⟩
  obtain rfl := hr1
  have HB1 := Lib.hid hb1
  have hs1 := hb1.size
  clear hb1 HC
  have HC2 := Lib.hid (uint64D (HV.out.below HB1.out) hy)
  go_wp2_with fail
  refine HC2.out.mono ?_
  rintro e w2 ⟨v2, rfl, hr2, hb2⟩
  obtain rfl := hr2
  have HB2 := Lib.hid (below_then HB1.out hb2 hs1)
  have hs2 : w.heap.size ≤ w2.heap.size := Nat.le_trans hs1 hb2.size
  clear hb2 HC2
  go_wp2
  go_loopw [5, 7] (fun x y wr => GcdInv w (Nat.gcd X Y) x y wr) (fun _ y _ => (intOf y).toNat)
  case atStart => exact ⟨X, Y, rfl, rfl, hx, hy, rfl, HB2.out⟩
  case round =>
    obtain ⟨a, b, rfl, rfl, ha, hb, hg, hbw⟩ := hrel
    have HG := Lib.hid hg
    have HBW := Lib.hid hbw
    have hsr := hbw.size
    clear hg hbw
    by_cases h0 : 0 < b
    · have hb0 : ((b : Int) == 0) = false := by rw [beq_eq_false_iff_ne]; omega
      have hmod : ((a : Int) % (b : Int)) = ((a % b : Nat) : Int) := by omega
      have hml : a % b < b := Nat.mod_lt _ h0
      go_wp2
      go_quiet (fail)
      go_wp2
      go_roundw
      case rel => exact ⟨b, a % b, rfl, by first | rfl | (congr 1; simp [Int.tmod_eq_emod_of_nonneg]) , hb, by omega, by rw [← HG.out, Nat.gcd_comm b, ← Nat.gcd_rec, Nat.gcd_comm], below_drewN HBW.out⟩
      case measure => first | (simp [intOf]; omega) | (simp [intOf, Int.tmod_eq_emod_of_nonneg]; omega)
    · obtain rfl : b = 0 := by omega
      have hga : Nat.gcd X Y = a := by rw [← HG.out, Nat.gcd_zero_right]
      have HGA := Lib.hid hga
      have HF := Lib.hid (fun w => fromU_any a w ha)
      clear hga
      go_wp2_with fail
      refine (HF.out _).mono ?_
      rintro e w4 ⟨v4, rfl, hd4, hb4⟩
      have HD4 := Lib.hid hd4
      have HB4 := Lib.hid (below_then HBW.out hb4 hsr)
      clear hd4 hb4
      go_wp2
      go_ret
      exact ⟨_, rfl, by rw [HGA.out]; exact HD4.out, HB4.out⟩
end Go.Proofs.YtpinhcdcnaaihaaGreatDoor
namespace Go.Proofs.YtpinhcdcnaaihaaGreatDoor
open Go.RowKit
theorem row_put (out : List Nat) (m k g : Nat) (ho : out.length = k) : (out ++ List.replicate (m + 1) 0).set k g = (out ++ [g]) ++ List.replicate m 0 := by
  subst ho
  rw [List.set_append_right _ _ (Nat.le_refl _), Nat.sub_self, List.replicate_succ, List.set_cons_zero, List.append_assoc]
  rfl
theorem digs_snoc {out : List Nat} {g : Nat} (h : Digs out) (hg : g < 4294967296) : Digs (out ++ [g]) := fun d hd => by
  rcases List.mem_append.1 hd with h1 | h1
  · exact h d h1
  · simp at h1; omega
theorem digs_app {a b : List Nat} (h : Digs a) (h' : Digs b) : Digs (a ++ b) := fun d hd => by
  rcases List.mem_append.1 hd with h1 | h1
  · exact h d h1
  · exact h' d h1
theorem OwnN.put {w : World} {base g n cap i : Nat} {l : List Nat} (h : OwnN w base (.slice (some ⟨g, 0, none⟩) n cap) l) (hn : n = l.length) (z : Int) (d : Nat) (hz : z = (d : Int)) :
    OwnN (w.setCell ⟨g, i, none⟩ (.int .u32 z)) base (.slice (some ⟨g, 0, none⟩) n cap) (l.set i d) := by
  subst hz
  have h1 : OwnN w base (.slice (some ⟨g, 0, none⟩) l.length cap) l := by rw [← hn]; exact h
  have := h1.set (i := i) d
  rw [List.length_set, ← hn] at this
  exact this
theorem OwnN.isN {w : World} {base n c : Nat} {A : Option Addr} {l : List Nat} (h : OwnN w base (.slice A n c) l) (hd : Digs l) : IsN w A c l ∧ n = l.length := by
  obtain ⟨A', c', e, hi⟩ := h.is hd
  injection e with e1 e2 e3
  subst e1 e3
  exact ⟨hi, e2⟩
theorem trimL {A : Option Addr} {c n N : Nat} {ds : List Nat} {w : World} (h : IsN w A c ds) (hn : n = ds.length) (hl : ds.length ≤ 1073741823) (hN : nval ds = N) :
    Calls Tryz.prog 159 #[.slice A n c] w (Gives (fun W v => IsD W v N) w) := by
  subst hn hN
  exact trim_any A c ds w h hl
theorem IsN.lt {W : World} {A : Option Addr} {c : Nat} {l : List Nat} (h : IsN W A c l) {i : Nat} (hi : i < l.length) : l[i] < 4294967296 := h.ok _ (List.getElem_mem hi)
end Go.Proofs.YtpinhcdcnaaihaaGreatDoor
namespace Go.Proofs.YtpinhcdcnaaihaaGreatDoor
theorem nval_cut (l : List Nat) (k : Nat) (hk : k ≤ l.length) : nval l = nval (l.take k) + 4294967296 ^ k * nval (l.drop k) := by
  have h := nval_append (l.take k) (l.drop k)
  rw [List.take_append_drop, List.length_take, Nat.min_eq_left hk] at h
  exact h
theorem nval_dropS (l : List Nat) (k : Nat) (hk : k < l.length) : nval (l.drop k) = l[k] + 4294967296 * nval (l.drop (k + 1)) := by
  rw [List.drop_eq_getElem_cons hk, nval]
theorem nval_takeS (l : List Nat) (k : Nat) (hk : k < l.length) : nval (l.take (k + 1)) = nval (l.take k) + 4294967296 ^ k * l[k] := by
  rw [List.take_succ_eq_append_getElem hk, nval_append, List.length_take, Nat.min_eq_left (by omega)]
  simp [nval]
theorem Digs.take {l : List Nat} (h : Digs l) (k : Nat) : Digs (l.take k) := fun d hd => h d (List.mem_of_mem_take hd)
theorem Digs.drop {l : List Nat} (h : Digs l) (k : Nat) : Digs (l.drop k) := fun d hd => h d (List.mem_of_mem_drop hd)
theorem Digs.get {l : List Nat} (h : Digs l) (k : Nat) (hk : k < l.length) : l[k] < 4294967296 := h _ (List.getElem_mem hk)
theorem knuth_over {X V P v1 v2 vl u2 xl top g r : Nat} (hX : X = (top * 4294967296 + u2) * P + xl) (hxl : xl < P) (hV : V = (v1 * 4294967296 + v2) * P + vl) (ht : top = g * v1 + r) (h : r * 4294967296 + u2 < g * v2) : X < g * V := by
  have h1 : top * 4294967296 + u2 + 1 ≤ g * (v1 * 4294967296 + v2) := by
    rw [ht, Nat.mul_add, Nat.add_mul, ← Nat.mul_assoc]
    omega
  have h2 : (top * 4294967296 + u2 + 1) * P ≤ g * (v1 * 4294967296 + v2) * P := Nat.mul_le_mul_right _ h1
  have h3 : g * V = g * (v1 * 4294967296 + v2) * P + g * vl := by rw [hV, Nat.mul_add, Nat.mul_assoc]
  rw [h3, hX]
  rw [Nat.add_mul _ 1] at h2
  omega
theorem knuth_near {X V P v1 v2 vl u2 xl top g r : Nat} (hX : X = (top * 4294967296 + u2) * P + xl) (hV : V = (v1 * 4294967296 + v2) * P + vl) (hvl : vl < P) (hv1 : 0 < v1) (ht : top = g * v1 + r) (h : g * v2 ≤ r * 4294967296 + u2) (hg : g < 4294967296) : g ≤ X / V + 1 := by
  have h1 : g * (v1 * 4294967296 + v2) ≤ top * 4294967296 + u2 := by
    rw [ht, Nat.mul_add, Nat.add_mul, ← Nat.mul_assoc]
    omega
  have h2 : g * (v1 * 4294967296 + v2) * P ≤ (top * 4294967296 + u2) * P := Nat.mul_le_mul_right _ h1
  have h3 : g * V = g * (v1 * 4294967296 + v2) * P + g * vl := by rw [hV, Nat.mul_add, Nat.mul_assoc]
  have h4 : g * vl ≤ 4294967295 * P := Nat.mul_le_mul (by omega) (by omega)
  have h5 : 4294967296 * P ≤ (v1 * 4294967296 + v2) * P := Nat.mul_le_mul_right _ (by omega)
  have hV0 : 0 < V := by omega
  have h6 : g * V < X + V := by omega
  cases g with
  | zero => exact Nat.zero_le _
  | succ g =>
    rw [Nat.add_mul, Nat.one_mul] at h6
    have : g ≤ X / V := (Nat.le_div_iff_mul_le hV0).2 (by omega)
    omega
structure Guess (us vs : List Nat) (n : Nat) : Prop where
  n2 : 2 ≤ n
  lu : us.length = n + 1
  lv : vs.length = n
  du : Digs us
  dv : Digs vs
  top : ∀ h : n - 1 < vs.length, 2147483648 ≤ vs[n - 1]
  lt : nval us < 4294967296 * nval vs
def GuessI (X V v1 top g r : Nat) : Prop := top = g * v1 + r ∧ r < 4294967296 ∧ X / V ≤ g
theorem Guess.parts {us vs : List Nat} {n : Nat} (h : Guess us vs n) (h0 : n < us.length) (h1 : n - 1 < us.length) (h2 : n - 2 < us.length) (k1 : n - 1 < vs.length) (k2 : n - 2 < vs.length) :
    nval us = ((us[n] * 4294967296 + us[n - 1]) * 4294967296 + us[n - 2]) * 4294967296 ^ (n - 2) + nval (us.take (n - 2)) ∧ nval (us.take (n - 2)) < 4294967296 ^ (n - 2) ∧
    nval vs = (vs[n - 1] * 4294967296 + vs[n - 2]) * 4294967296 ^ (n - 2) + nval (vs.take (n - 2)) ∧ nval (vs.take (n - 2)) < 4294967296 ^ (n - 2) := by
  have hn := h.n2
  have hlu := h.lu
  have hlv := h.lv
  have a1 := nval_cut us (n - 2) (by omega)
  have a2 := nval_dropS us (n - 2) (by omega)
  have a3 := nval_dropS us (n - 2 + 1) (by omega)
  have a4 := nval_dropS us (n - 2 + 1 + 1) (by omega)
  have a5 : us.drop (n - 2 + 1 + 1 + 1) = [] := List.drop_of_length_le (by omega)
  have b1 := nval_cut vs (n - 2) (by omega)
  have b2 := nval_dropS vs (n - 2) (by omega)
  have b3 := nval_dropS vs (n - 2 + 1) (by omega)
  have b5 : vs.drop (n - 2 + 1 + 1) = [] := List.drop_of_length_le (by omega)
  rw [a5, nval] at a4
  rw [b5, nval] at b3
  have e1 : us[n - 2 + 1]'(by omega) = us[n - 1] := getElem_congr_idx (by omega)
  have e0 : us[n - 2 + 1 + 1]'(by omega) = us[n] := getElem_congr_idx (by omega)
  have e2 : vs[n - 2 + 1]'(by omega) = vs[n - 1] := getElem_congr_idx (by omega)
  rw [e0] at a4
  rw [e1] at a3
  rw [e2] at b3
  have c1 := nval_lt (us.take (n - 2)) (h.du.take _)
  have c2 := nval_lt (vs.take (n - 2)) (h.dv.take _)
  rw [List.length_take, Nat.min_eq_left (by omega)] at c1 c2
  refine ⟨?_, c1, ?_, c2⟩
  · rw [a1, Nat.mul_comm (4294967296 ^ (n - 2)), Nat.add_comm]
    congr 2
    omega
  · rw [b1, Nat.mul_comm (4294967296 ^ (n - 2)), Nat.add_comm]
    congr 2
    omega
theorem Guess.first {us vs : List Nat} {n : Nat} (h : Guess us vs n) (h0 : n < us.length) (k1 : n - 1 < vs.length) : us[n] ≤ vs[n - 1] := by
  have hn := h.n2
  have hlu := h.lu
  have hlv := h.lv
  obtain ⟨e1, _, e2, l2⟩ := h.parts h0 (by omega) (by omega) k1 (by omega)
  have hlt := h.lt
  have hv2 := h.dv.get (n - 2) (by omega)
  have hlp : 0 < 4294967296 ^ (n - 2) := Nat.pow_pos (by decide)
  generalize hP : 4294967296 ^ (n - 2) = P at *
  generalize us[n] = u0 at *
  generalize us[n - 1]'(by omega) = u1 at *
  generalize us[n - 2]'(by omega) = u2 at *
  generalize vs[n - 1]'(by omega) = v1 at *
  generalize vs[n - 2]'(by omega) = v2 at *
  rcases Nat.lt_or_ge v1 u0 with hc | hc
  · exfalso
    have s1 : (v1 * 4294967296 + v2 + 1) * P ≤ (u0 * 4294967296) * P := Nat.mul_le_mul_right _ (by omega)
    have s2 : 4294967296 * ((u0 * 4294967296) * P) ≤ nval us := by
      rw [e1, ← Nat.mul_assoc]
      have : 4294967296 * (u0 * 4294967296) * P ≤ ((u0 * 4294967296 + u1) * 4294967296 + u2) * P := Nat.mul_le_mul_right _ (by omega)
      omega
    rw [Nat.add_mul _ 1, Nat.one_mul] at s1
    have : nval vs < (u0 * 4294967296) * P := by omega
    omega
  · exact hc
theorem sub_digit {u lo bo : Nat} (hu : u < 4294967296) (hlo : lo < 4294967296) (hbo : bo ≤ 1) : ∃ u' bo' : Nat, ((u : Int) - lo - bo) % 18446744073709551616 % 4294967296 = (u' : Int) ∧ ((u : Int) - lo - bo) % 18446744073709551616 / 9223372036854775808 = (bo' : Int) ∧ u' < 4294967296 ∧ bo' ≤ 1 ∧ u' + lo + bo = u + bo' * 4294967296 := by
  by_cases h : lo + bo ≤ u
  · exact ⟨u - lo - bo, 0, by omega, by omega, by omega, by omega, by omega⟩
  · exact ⟨u + 4294967296 - lo - bo, 1, by omega, by omega, by omega, by omega, by omega⟩
theorem subm_step {A V U c bo f d u u' c' bo' t lo P : Nat} (h : A + f * V = U + (c + bo) * P) (ht : t = f * d + c) (hlo : t = lo + 4294967296 * c') (hs : u' + lo + bo = u + bo' * 4294967296) :
    (A + P * u') + f * (V + P * d) = (U + P * u) + (c' + bo') * (P * 4294967296) := by
  have e1 : u' + f * d + c + bo = u + (c' + bo') * 4294967296 := by omega
  have e2 : P * (u' + f * d + c + bo) = P * (u + (c' + bo') * 4294967296) := by rw [e1]
  have e3 : P * (u' + f * d + c + bo) = P * u' + P * (f * d) + (c + bo) * P := by rw [show u' + f * d + c + bo = u' + f * d + (c + bo) by omega, Nat.mul_add, Nat.mul_add, Nat.mul_comm P (c + bo)]
  have e4 : P * (u + (c' + bo') * 4294967296) = P * u + (c' + bo') * (P * 4294967296) := by rw [Nat.mul_add, ← Nat.mul_assoc, Nat.mul_comm P (c' + bo'), Nat.mul_assoc]
  have e5 : f * (V + P * d) = f * V + P * (f * d) := by rw [Nat.mul_add, Nat.mul_left_comm]
  rw [e5]
  omega
theorem addb_step {A V U c d u t P : Nat} (h : A + c * P = U + V) (ht : t = u + d + c) : (A + P * (t % 4294967296)) + t / 4294967296 * (P * 4294967296) = (U + P * u) + (V + P * d) := by
  have e1 : P * (t % 4294967296) + t / 4294967296 * (P * 4294967296) = P * t := by
    rw [← Nat.mul_assoc, Nat.mul_comm (t / 4294967296) P, Nat.mul_assoc, ← Nat.mul_add]
    congr 1
    omega
  have e2 : P * t = P * u + P * d + c * P := by rw [ht, Nat.mul_add, Nat.mul_add, Nat.mul_comm c P]
  omega
theorem knuth_sub {X V g s : Nat} (hV : 0 < V) (h1 : X / V ≤ g) (h2 : g ≤ X / V + 1) (h : s + g * V = X) : g = X / V ∧ s = X % V := by
  have hd := Nat.div_add_mod X V
  have hm := Nat.mod_lt X hV
  have hg : g ≤ X / V := (Nat.le_div_iff_mul_le hV).2 (by omega)
  obtain rfl : g = X / V := by omega
  rw [Nat.mul_comm V] at hd
  exact ⟨rfl, by omega⟩
theorem knuth_add {X V M g s t k : Nat} (hV : 0 < V) (hVM : V ≤ M) (h1 : X / V ≤ g) (h2 : g ≤ X / V + 1) (hs : s < M) (h : s + g * V = X + M) (ht : t < M) (hk : t + k * M = s + V) : g = X / V + 1 ∧ t = X % V := by
  have hd := Nat.div_add_mod X V
  have hm := Nat.mod_lt X hV
  have hg : X < g * V := by omega
  have hne : g ≠ X / V := fun e => by
    rw [e, Nat.mul_comm] at hg
    omega
  obtain rfl : g = X / V + 1 := by omega
  rw [Nat.add_mul, Nat.one_mul, Nat.mul_comm _ V] at h
  have e : t + k * M = X % V + M := by omega
  refine ⟨rfl, ?_⟩
  match k with
  | 0 => omega
  | 1 => omega
  | k + 2 =>
    exfalso
    rw [Nat.add_mul] at e
    omega
def shr (n : Nat) : List Nat → List Nat
  | [] => []
  | d :: l => (d / 2 ^ n + l.headD 0 % 2 ^ n * 2 ^ (32 - n)) :: shr n l
theorem shr_length (n : Nat) : ∀ l, (shr n l).length = l.length
  | [] => rfl
  | d :: l => by simp [shr, shr_length n l]
theorem pow32 {n : Nat} (h : n < 32) : 2 ^ n * 2 ^ (32 - n) = 4294967296 := by
  rw [← Nat.pow_add, show n + (32 - n) = 32 by omega]
theorem nval_mod2 {n : Nat} (h : n < 32) (l : List Nat) : nval l % 2 ^ n = l.headD 0 % 2 ^ n := by
  cases l with
  | nil => simp [nval]
  | cons d l =>
    have e := pow32 h
    simp only [nval, List.headD_cons]
    rw [← e, Nat.mul_assoc, Nat.add_mul_mod_self_left]
theorem shr_val {n : Nat} (h : n < 32) : ∀ l, nval (shr n l) = nval l / 2 ^ n
  | [] => by simp [shr, nval]
  | d :: l => by
    have hp : 0 < 2 ^ n := Nat.pow_pos (by decide)
    have e := pow32 h
    simp only [shr, nval]
    rw [shr_val h l, ← nval_mod2 h l]
    generalize nval l = M
    rw [← e, show d + 2 ^ n * 2 ^ (32 - n) * M = d + 2 ^ n * (2 ^ (32 - n) * M) by rw [Nat.mul_assoc], Nat.add_mul_div_left _ _ hp]
    have hm := Nat.div_add_mod M (2 ^ n)
    have : 2 ^ (32 - n) * M = M % 2 ^ n * 2 ^ (32 - n) + 2 ^ n * 2 ^ (32 - n) * (M / 2 ^ n) := by
      conv => lhs; rw [← hm, Nat.mul_add]
      rw [Nat.add_comm, Nat.mul_comm (2 ^ (32 - n)) (M % 2 ^ n), Nat.mul_comm (2 ^ n) (2 ^ (32 - n)), Nat.mul_assoc]
    omega
theorem shr_digs {n : Nat} (h : n < 32) : ∀ l, Digs l → Digs (shr n l)
  | [], _ => fun d hd => by simp [shr] at hd
  | d :: l, hl => fun x hx => by
    have hp : 0 < 2 ^ n := Nat.pow_pos (by decide)
    have e := pow32 h
    rcases List.mem_cons.1 hx with rfl | hx
    · have h1 : d < 4294967296 := hl d (List.mem_cons_self ..)
      have h2 : d / 2 ^ n < 2 ^ (32 - n) := by
        rw [Nat.div_lt_iff_lt_mul hp, Nat.mul_comm, e]; exact h1
      have h3 : (l.headD 0 % 2 ^ n + 1) * 2 ^ (32 - n) ≤ 2 ^ n * 2 ^ (32 - n) := Nat.mul_le_mul_right _ (Nat.mod_lt _ hp)
      rw [Nat.add_mul, Nat.one_mul, e] at h3
      omega
    · exact shr_digs h l (fun y hy => hl y (List.mem_cons_of_mem _ hy)) x hx
theorem shr_get (n : Nat) : ∀ (l : List Nat) (i : Nat) (h : i < l.length) (h' : i < (shr n l).length), (shr n l)[i] = l[i] / 2 ^ n + (l.drop (i + 1)).headD 0 % 2 ^ n * 2 ^ (32 - n)
  | d :: l, 0, _, _ => by simp [shr]
  | d :: l, i + 1, h, h' => by
    have := shr_get n l i (by simpa using h) (by rw [shr_length]; simpa using h)
    simpa [shr] using this
theorem shl_step {A N c d n P : Nat} (h32 : n < 32) (h : A + c * P = 2 ^ n * N) : (A + P * (d * 2 ^ n % 4294967296 + c)) + d / 2 ^ (32 - n) * (P * 4294967296) = 2 ^ n * (N + P * d) := by
  have e := pow32 h32
  have hp : 0 < 2 ^ n := Nat.pow_pos (by decide)
  have hq : d * 2 ^ n / 4294967296 = d / 2 ^ (32 - n) := by
    rw [← e, Nat.mul_comm d, Nat.mul_div_mul_left _ _ hp]
  have hm := Nat.div_add_mod (d * 2 ^ n) 4294967296
  rw [hq] at hm
  have e1 : P * (d * 2 ^ n % 4294967296 + c) + d / 2 ^ (32 - n) * (P * 4294967296) = P * (d * 2 ^ n) + c * P := by
    rw [Nat.mul_add, Nat.mul_left_comm (d / 2 ^ (32 - n)), Nat.mul_comm (d / 2 ^ (32 - n)), Nat.mul_comm P c, Nat.add_right_comm, ← Nat.mul_add]
    congr 2
    omega
  have e2 : 2 ^ n * (N + P * d) = 2 ^ n * N + P * (d * 2 ^ n) := by
    rw [Nat.mul_add, Nat.mul_left_comm, Nat.mul_comm (2 ^ n) d]
  rw [e2, ← h]
  omega
theorem shl_carry {d n : Nat} (h32 : n < 32) (hd : d < 4294967296) : d / 2 ^ (32 - n) < 2 ^ n := by
  have e := pow32 h32
  rw [Nat.div_lt_iff_lt_mul (Nat.pow_pos (by decide)), e]
  exact hd
theorem shl_low {d n c : Nat} (h32 : n < 32) (hc : c < 2 ^ n) : (d * 2 ^ n % 4294967296) ||| c = d * 2 ^ n % 4294967296 + c ∧ d * 2 ^ n % 4294967296 + c < 4294967296 := by
  have e := pow32 h32
  have hp : 0 < 2 ^ n := Nat.pow_pos (by decide)
  have hm : d * 2 ^ n % 4294967296 = d % 2 ^ (32 - n) * 2 ^ n := by
    rw [← e, Nat.mul_comm (2 ^ n), Nat.mul_mod_mul_right]
  rw [hm]
  have hlt : d % 2 ^ (32 - n) + 1 ≤ 2 ^ (32 - n) := Nat.mod_lt _ (Nat.pow_pos (by decide))
  have h2 : (d % 2 ^ (32 - n) + 1) * 2 ^ n ≤ 2 ^ (32 - n) * 2 ^ n := Nat.mul_le_mul_right _ hlt
  rw [Nat.add_mul, Nat.one_mul, Nat.mul_comm (2 ^ (32 - n)), e] at h2
  refine ⟨?_, by omega⟩
  rw [← Nat.shiftLeft_eq, Nat.shiftLeft_add_eq_or_of_lt hc]
end Go.Proofs.YtpinhcdcnaaihaaGreatDoor
