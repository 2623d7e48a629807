import Derived.Test.YtpinhcdcnaaihaaGreatDoorA13
namespace Go.Proofs.YtpinhcdcnaaihaaGreatDoor
open Go.RowKit
theorem g1_next {X a s : Nat} (ha : 0 < a) (h : a * 2 ^ s = X) (he : a % 2 = 0) : 0 < a / 2 ∧ a / 2 * 2 ^ (s + 1) = X := by
  refine ⟨by omega, ?_⟩
  rw [Nat.pow_succ, Nat.mul_comm (2 ^ s) 2, ← Nat.mul_assoc, show a / 2 * 2 = a by omega, h]
theorem g1_small {X a s : Nat} (ha : 0 < a) (h : a * 2 ^ s = X) : s < X := by
  have h1 : s < 2 ^ s := Nat.lt_two_pow_self
  have h2 : 1 * 2 ^ s ≤ a * 2 ^ s := Nat.mul_le_mul_right _ ha
  omega
theorem g1_shift {X a s k : Nat} (ha : 0 < a) (h : a * 2 ^ s = X) (hX : X < 4294967296 ^ k) : s < 32 * k := by
  have h2 : 1 * 2 ^ s ≤ a * 2 ^ s := Nat.mul_le_mul_right _ ha
  have e : (2 : Nat) ^ 32 = 4294967296 := by decide
  have h3 : 2 ^ s < 2 ^ (32 * k) := by rw [Nat.pow_mul, e]; omega
  exact (Nat.pow_lt_pow_iff_right (by decide)).1 h3
theorem g1_le {X a s : Nat} (h : a * 2 ^ s = X) : a ≤ X := by
  have : a * 1 ≤ a * 2 ^ s := Nat.mul_le_mul_left _ (Nat.pow_pos (by decide))
  omega
set_option maxRecDepth 100000 in
set_option maxHeartbeats 4000000 in
theorem gcd_any (A B : Option Addr) (ca cb : Nat) (x y : List Nat) (w : World) (hA : IsN w A ca x) (hB : IsN w B cb y) (hlx : x.length ≤ 1048576) (hly : y.length ≤ 1048576) :
    Calls Tryz.prog 55 #[.slice A x.length ca, .slice B y.length cb] w (NatPost (Nat.gcd (nval x) (nval y)) w) := by
  have HA := Lib.hid hA
  have HB := Lib.hid hB
  clear hA hB
  obtain ⟨X, hX⟩ : ∃ X, nval x = X := ⟨_, rfl⟩
  obtain ⟨Y, hY⟩ : ∃ Y, nval y = Y := ⟨_, rfl⟩
  obtain ⟨K, hK⟩ : ∃ K : Nat, K = x.length + y.length := ⟨_, rfl⟩
  have hKl : K ≤ 2097152 := by omega
  have hXl : X < 4294967296 ^ K := by
    rw [← hX]
    exact Nat.lt_of_lt_of_le (nval_lt x HA.out.ok) (Nat.pow_le_pow_right (by decide) (by omega))
  have hYl : Y < 4294967296 ^ K := by
    rw [← hY]
    exact Nat.lt_of_lt_of_le (nval_lt y HB.out.ok) (Nat.pow_le_pow_right (by decide) (by omega))
  have HXL := Lib.hid hXl
  have HYL := Lib.hid hYl
  have HXE := Lib.hid hX
  have HYE := Lib.hid hY
  clear hXl hYl hX hY hK
  go_enter Tryz.func55, Tryz.ntmps55
  go_wp2_with fail
  refine (norm_any A ca x _ HA.out (by omega)).mono ?_
  intro e w1 h1
  rw [HXE.out] at h1
  obtain ⟨v1, rfl, hn1, hb1⟩ := h1.num (Nat.le_refl _)
  have HN1 := Lib.hid hn1
  have HB1 := Lib.hid hb1
  have hs1 := hb1.size
  clear h1 hn1 hb1
  go_wp2_with fail
  refine (norm_any B cb y _ (HB.out.below HB1.out) (by omega)).mono ?_
  intro e w2 h2
  rw [HYE.out] at h2
  obtain ⟨v2, rfl, hn2, hb2⟩ := h2.num hs1
  have HN2 := Lib.hid hn2
  have HN1 := Lib.hid (HN1.out.below hb2)
  have HB2 := Lib.hid (below_then HB1.out hb2 hs1)
  have hs2 : w.heap.size ≤ w2.heap.size := Nat.le_trans hs1 hb2.size
  clear h2 hn2 hb2
  obtain ⟨A1, c1, e1, hi1⟩ := HN1.out.is
  obtain ⟨A2, c2, e2, hi2⟩ := HN2.out.is
  subst e1 e2
  have hl1 : (digs X).length ≤ K := digs_length_le HXL.out
  have hl2 : (digs Y).length ≤ K := digs_length_le HYL.out
  have z1 : (digs X).length = 0 ↔ X = 0 := digs_len0
  have z2 : (digs Y).length = 0 ↔ Y = 0 := digs_len0
  have HZ1 := Lib.hid z1
  have HZ2 := Lib.hid z2
  clear hi1 hi2 z1 z2
  by_cases hx0 : X = 0
  · have g1 : (((digs X).length : Int) == 0) = true := by rw [beq_iff_eq]; have := HZ1.out.2 hx0; omega
    have HX0 := Lib.hid hx0
    clear hx0
    go_wp2
    go_ret
    exact ⟨_, rfl, by rw [HXE.out, HYE.out, HX0.out, Nat.gcd_zero_left]; exact HN2.out, HB2.out⟩
  by_cases hy0 : Y = 0
  · have g1 : (((digs X).length : Int) == 0) = false := by rw [beq_eq_false_iff_ne]; intro h; exact hx0 (HZ1.out.1 (by omega))
    have g2 : (((digs Y).length : Int) == 0) = true := by rw [beq_iff_eq]; have := HZ2.out.2 hy0; omega
    have HY0 := Lib.hid hy0
    clear hy0 hx0
    go_wp2
    go_ret
    exact ⟨_, rfl, by rw [HXE.out, HYE.out, HY0.out, Nat.gcd_zero_right]; exact HN1.out, HB2.out⟩
  have g1 : (((digs X).length : Int) == 0) = false := by rw [beq_eq_false_iff_ne]; intro h; exact hx0 (HZ1.out.1 (by omega))
  have g2 : (((digs Y).length : Int) == 0) = false := by rw [beq_eq_false_iff_ne]; intro h; exact hy0 (HZ2.out.1 (by omega))
  have HX0 := Lib.hid hx0
  have HY0 := Lib.hid hy0
  clear hx0 hy0
  go_wp2
  go_loopw [5, 6, 7] (fun x y sh wr => G1Inv w X Y x y sh wr) (fun _ _ sh _ => X - (intOf sh).toNat)
  case atStart => exact ⟨X, Y, 0, rfl, HN1.out, HN2.out, Nat.pos_of_ne_zero HX0.out, Nat.pos_of_ne_zero HY0.out, by simp, by simp, HB2.out⟩
  case round =>
    obtain ⟨a, b, s, rfl, hna, hnb, ha, hb, hax, hby, hbw⟩ := hrel
    obtain ⟨Aa, ca', ea, hia⟩ := hna.is
    obtain ⟨Ab, cb', eb, hib⟩ := hnb.is
    subst ea eb
    have hla : (digs a).length ≤ K := len_of (g1_le hax) HXL.out
    have hlb : (digs b).length ≤ K := len_of (g1_le hby) HYL.out
    have hsK := g1_shift ha hax HXL.out
    have hsX := g1_small ha hax
    obtain ⟨ba, oa, da, e1, hca, hda, hda32, hpa⟩ := NumIn.low hia (by omega)
    obtain ⟨bb, ob, db, e2, hcb, hdb, hdb32, hpb⟩ := NumIn.low hib (by omega)
    subst e1 e2
    have hsr := hbw.size
    have HNA := Lib.hid hna
    have HNB := Lib.hid hnb
    have HIA := Lib.hid hia
    have HIB := Lib.hid hib
    have HAX := Lib.hid hax
    have HBY := Lib.hid hby
    have HBW := Lib.hid hbw
    have HAN1 := Lib.hid (and_one da hda32)
    have HAN2 := Lib.hid (and_one db hdb32)
    clear hna hnb hia hib hax hby hbw
    have p1 : bits .and .u32 (da : Int) 1 = ((a % 2 : Nat) : Int) := by rw [HAN1.out, hda]
    have p2 : bits .and .u32 (db : Int) 1 = ((b % 2 : Nat) : Int) := by rw [HAN2.out, hdb]
    by_cases hee : a % 2 = 0 ∧ b % 2 = 0
    · obtain ⟨he1, he2⟩ := hee
      rw [he1] at p1
      rw [he2] at p2
      have HE1 := Lib.hid he1
      have HE2 := Lib.hid he2
      clear he1 he2 hda hdb HAN1 HAN2
      go_wp2_with fail
      refine (halfN HIA.out (by omega)).mono ?_
      intro e w4 h4
      obtain ⟨v4, rfl, hn4, hb4⟩ := h4.num (w := w) hsr
      have HN4 := Lib.hid hn4
      have HB4 := Lib.hid hb4
      have hs4 : w.heap.size ≤ w4.heap.size := Nat.le_trans hsr hb4.size
      clear h4 hn4 hb4 p1 p2 hca hcb
      go_wp2_with fail
      refine (halfN (HIB.out.below HB4.out) (by omega)).mono ?_
      intro e w5 h5
      obtain ⟨v5, rfl, hn5, hb5⟩ := h5.num (w := w) hs4
      have HN5 := Lib.hid hn5
      have HN45 := Lib.hid (HN4.out.below hb5)
      have HB5 := Lib.hid (below_then (below_then HBW.out HB4.out hsr) hb5 hs4)
      clear h5 hn5 hb5
      go_wp2
      go_roundw
      case rel => exact ⟨a / 2, b / 2, s + 1, by go_num, HN45.out, HN5.out, (g1_next ha HAX.out HE1.out).1, (g1_next hb HBY.out HE2.out).1, (g1_next ha HAX.out HE1.out).2, (g1_next hb HBY.out HE2.out).2, HB5.out⟩
      case measure => simp [intOf]; omega
    · have HG := Lib.hid (show Nat.gcd a b * 2 ^ s = Nat.gcd X Y by rw [← HAX.out, ← HBY.out, Nat.gcd_mul_right])
      have HODD := Lib.hid (show a % 2 = 1 ∨ b % 2 = 1 by omega)
      have HAL := Lib.hid (show a < 4294967296 ^ K from Nat.lt_of_le_of_lt (g1_le HAX.out) HXL.out)
      have HBL := Lib.hid (show b < 4294967296 ^ K from Nat.lt_of_le_of_lt (g1_le HBY.out) HYL.out)
      have hpar : (a % 2 = 1) ∨ (a % 2 = 0 ∧ b % 2 = 1) := by omega
      obtain ⟨wo, hwo⟩ : ∃ wo : World, wo = wr := ⟨_, rfl⟩
      subst hwo
      clear hee hda hdb HAN1 HAN2
      rcases hpar with hpa1 | ⟨hpa1, hpb1⟩
      all_goals
        rw [hpa1] at p1
        try rw [hpb1] at p2
        go_wp2
        clear p1 p2 hca hcb
        go_loopw [5, 6] (fun x y w' => G2Inv w (Nat.gcd X Y) s K x y w') (fun x y w' => numAt x w' + numAt y w')
        case atStart => exact ⟨a, b, HNA.out, HNB.out, ha, HODD.out, HG.out, HAL.out, HBL.out, HBW.out⟩
        case round =>
          obtain ⟨a, b, hna, hnb, ha, hodd, hg, hal, hbl, hbw⟩ := hrel
          have HNA := Lib.hid hna
          have HNB := Lib.hid hnb
          have HODD := Lib.hid hodd
          have HG := Lib.hid hg
          have HAL := Lib.hid hal
          have HBL := Lib.hid hbl
          have HBW := Lib.hid hbw
          have hsr := hbw.size
          have hla : (digs a).length ≤ K := digs_length_le hal
          have hlb : (digs b).length ≤ K := digs_length_le hbl
          have HMA := Lib.hid hna.num
          have HMB := Lib.hid hnb.num
          obtain ⟨Ab, cb', eb, hib⟩ := hnb.is
          obtain ⟨Aa, ca', ea, hia⟩ := hna.is
          subst ea eb
          clear hna hnb hodd hg hal hbl hbw hia hib
          by_cases hb0 : b = 0
          · have hg0 : ((digs b).length : Int) ≤ 0 := by have := digs_len0.2 hb0; omega
            have HGA := Lib.hid (show a * 2 ^ s = Nat.gcd X Y by have := HG.out; rwa [hb0, Nat.gcd_zero_right] at this)
            have hg1 : decide (0 < ((digs b).length : Int)) = false := by rw [decide_eq_false_iff_not]; omega
            have hg2 : decide (0 < (digs b).length) = false := by rw [decide_eq_false_iff_not]; omega
            clear hb0
            obtain ⟨wp, hwp⟩ : ∃ wp : World, wp = wr := ⟨_, rfl⟩
            subst hwp
            go_wp2
            go_loopw [5, 8] (fun x i w' => G5Inv w a s x i w') (fun _ i _ => s - (intOf i).toNat)
            case atStart => exact ⟨0, by omega, rfl, by rw [Nat.pow_zero, Nat.mul_one]; exact HNA.out, HBW.out⟩
            case round =>
              obtain ⟨t, ht, rfl, hnt, hbt⟩ := hrel
              have HNT := Lib.hid hnt
              have HBT := Lib.hid hbt
              have hst := hbt.size
              obtain ⟨At', ct, et, hit⟩ := hnt.is
              subst et
              have HIT := Lib.hid hit
              have hlt : (digs (a * 2 ^ t)).length ≤ 2 * K := by
                refine digs_length_le ?_
                have h1 : a * 2 ^ t ≤ a * 2 ^ s := Nat.mul_le_mul_left _ (Nat.pow_le_pow_right (by decide) ht)
                rw [HGA.out] at h1
                have h2 : Nat.gcd X Y ≤ X := Nat.gcd_le_left _ (Nat.pos_of_ne_zero HX0.out)
                have h3 : 4294967296 ^ K ≤ 4294967296 ^ (2 * K) := Nat.pow_le_pow_right (by decide) (by omega)
                have h4 := HXL.out
                omega
              clear hnt hbt hit
              by_cases hts : t < s
              · go_wp2_with fail
                refine (doubleN (bit := 0) HIT.out (by omega) (by omega)).mono ?_
                intro e w4 h4
                obtain ⟨v4, rfl, hn4, hb4⟩ := h4.num (w := w) hst
                rw [show 2 * (a * 2 ^ t) + 0 = a * 2 ^ (t + 1) by rw [Nat.pow_succ, Nat.add_zero, Nat.mul_comm 2, Nat.mul_assoc]] at hn4
                have HN4 := Lib.hid hn4
                have HB4 := Lib.hid (below_then HBT.out hb4 hst)
                clear h4 hn4 hb4
                go_wp2
                go_roundw
                case rel => exact ⟨t + 1, by omega, by go_num, HN4.out, HB4.out⟩
                case measure => simp [intOf]; omega
              · obtain rfl : t = s := by omega
                go_wp2
                go_ret
                exact ⟨_, rfl, by rw [HXE.out, HYE.out, ← HGA.out]; exact HNT.out, HBT.out⟩
          · have hb1 : 0 < b := by omega
            have hpl : 0 < (digs b).length := by
              rcases Nat.eq_zero_or_pos (digs b).length with h | h
              · exact absurd (digs_len0.1 h) hb0
              · exact h
            clear hb0
            obtain ⟨g, hgg⟩ : ∃ g, Nat.gcd a b = g := ⟨_, rfl⟩
            have HGG := Lib.hid hgg
            rw [hgg] at HG
            clear hgg
            obtain ⟨wp, hwp⟩ : ∃ wp : World, wp = wr := ⟨_, rfl⟩
            subst hwp
            go_wp2
            go_loopw [5] (fun x w' => G3Inv w g a b x (.slice Ab (digs b).length cb') w') (fun x w' => numAt x w')
            case atStart => exact ⟨a, HNA.out, HNB.out, ha, Nat.le_refl _, HODD.out, HGG.out, HBW.out⟩
            case round =>
              obtain ⟨a1, hn1, hnb, ha1, hle1, hodd1, hg1, hbw1⟩ := hrel
              have HN1 := Lib.hid hn1
              have HNB1 := Lib.hid hnb
              have HG1 := Lib.hid hg1
              have HBW1 := Lib.hid hbw1
              have HM1 := Lib.hid hn1.num
              have hsr1 := hbw1.size
              have hla1 : (digs a1).length ≤ K := len_of hle1 HAL.out
              obtain ⟨A1, c1, e1, hi1⟩ := hn1.is
              subst e1
              obtain ⟨bx, ox, dx, ex, hcx, hdx, hdx32, hpx⟩ := NumIn.low hi1 (by omega)
              subst ex
              have HI1 := Lib.hid hi1
              have hax := and_one dx hdx32
              rw [hdx] at hax
              clear hn1 hnb hg1 hbw1 hi1 hdx
              by_cases he1 : a1 % 2 = 0
              · rw [he1] at hax
                have HB1O := Lib.hid (show b % 2 = 1 by omega)
                have HE1 := Lib.hid he1
                clear he1 hodd1
                go_wp2_with fail
                refine (halfN HI1.out (by omega)).mono ?_
                intro e w4 h4
                obtain ⟨v4, rfl, hn4, hb4⟩ := h4.num (w := w) hsr1
                have HN4 := Lib.hid hn4
                have HM4 := Lib.hid hn4.num
                have HNB4 := Lib.hid (HNB1.out.below hb4)
                have HB4 := Lib.hid (below_then HBW1.out hb4 hsr1)
                clear h4 hn4 hb4 hax hcx
                go_wp2
                go_roundw
                case rel => exact ⟨a1 / 2, HN4.out, HNB4.out, by have := HE1.out; omega, by omega, .inr HB1O.out, by rw [gcd_half_left HE1.out HB1O.out]; exact HG1.out, HB4.out⟩
                case measure => rw [HM4.out, HM1.out]; omega
              · have ho1 : a1 % 2 = 1 := by omega
                rw [ho1] at hax
                have HO1 := Lib.hid ho1
                clear he1 hodd1 ho1
                obtain ⟨wq, hwq⟩ : ∃ wq : World, wq = wr := ⟨_, rfl⟩
                subst hwq
                go_wp2
                clear hax hcx
                go_loopw [6] (fun y w' => G4Inv w g b a1 (.slice (some ⟨bx, ox, none⟩) (digs a1).length c1) y w') (fun y w' => numAt y w')
                case atStart => exact ⟨b, HN1.out, HNB1.out, hb1, Nat.le_refl _, HG1.out, HBW1.out⟩
                case round =>
                  obtain ⟨b2, hna2, hn2, hb2, hle2, hg2, hbw2⟩ := hrel
                  have HNA2 := Lib.hid hna2
                  have HN2 := Lib.hid hn2
                  have HG2 := Lib.hid hg2
                  have HBW2 := Lib.hid hbw2
                  have HM2 := Lib.hid hn2.num
                  have hsr2 := hbw2.size
                  have hlb2 : (digs b2).length ≤ K := len_of hle2 HBL.out
                  obtain ⟨A2, c2, e2, hi2⟩ := hn2.is
                  subst e2
                  obtain ⟨by', oy, dy, ey, hcy, hdy, hdy32, hpy⟩ := NumIn.low hi2 (by omega)
                  subst ey
                  have HI2 := Lib.hid hi2
                  have HI12 := Lib.hid (show IsN wr (some ⟨bx, ox, none⟩) c1 (digs a1) by
                    obtain ⟨A', c', e, hi⟩ := hna2.is
                    injection e with e1 e2 e3
                    subst e1 e3
                    exact hi)
                  have hay := and_one dy hdy32
                  rw [hdy] at hay
                  clear hna2 hn2 hg2 hbw2 hi2 hdy
                  by_cases he2 : b2 % 2 = 0
                  · rw [he2] at hay
                    have HE2 := Lib.hid he2
                    clear he2
                    go_wp2_with fail
                    refine (halfN HI2.out (by omega)).mono ?_
                    intro e w4 h4
                    obtain ⟨v4, rfl, hn4, hb4⟩ := h4.num (w := w) hsr2
                    have HN4 := Lib.hid hn4
                    have HM4 := Lib.hid hn4.num
                    have HNA4 := Lib.hid (HNA2.out.below hb4)
                    have HB4 := Lib.hid (below_then HBW2.out hb4 hsr2)
                    clear h4 hn4 hb4 hay hcy
                    go_wp2
                    go_roundw
                    case rel => exact ⟨b2 / 2, HNA4.out, HN4.out, by have := HE2.out; omega, by omega, by rw [gcd_half_right HO1.out HE2.out]; exact HG2.out, HB4.out⟩
                    case measure => rw [HM4.out, HM2.out]; omega
                  · have ho2 : b2 % 2 = 1 := by omega
                    rw [ho2] at hay
                    have HO2 := Lib.hid ho2
                    clear he2 ho2
                    go_wp2_with fail
                    refine (cmpN HI12.out HI2.out (by omega) (by omega)).mono ?_
                    rintro e w4 ⟨he, hb4⟩
                    have HB4 := Lib.hid hb4
                    have hs4 := hb4.size
                    have hs4' : w.heap.size ≤ w4.heap.size := Nat.le_trans hsr2 hs4
                    have HX4 := Lib.hid (HNA2.out.below hb4)
                    have HY4 := Lib.hid (HN2.out.below hb4)
                    have HIX4 := Lib.hid (HI12.out.below hb4)
                    have HIY4 := Lib.hid (HI2.out.below hb4)
                    have HBW4 := Lib.hid (below_then HBW2.out hb4 hsr2)
                    clear hb4 hay hcy
                    by_cases hgt : b2 < a1
                    · rw [cmpN_gt hgt] at he
                      subst he
                      go_wp2_with fail
                      refine (subN HIX4.out HIY4.out (by omega) (by omega) (by omega)).mono ?_
                      rintro e w5 ⟨v5, rfl, ho5, hb5⟩
                      have hn5 : NumIn w w5 v5 (a1 - b2) := OwnN.base_le ho5 hs4'
                      have HN5 := Lib.hid hn5
                      have HM5 := Lib.hid hn5.num
                      have HY5 := Lib.hid (HY4.out.below hb5)
                      have HMY := Lib.hid HY5.out.num
                      have HB5 := Lib.hid (below_then HBW4.out hb5 hs4')
                      clear ho5 hn5 hb5
                      go_wp2
                      go_roundw
                      case rel => exact ⟨b2, a1 - b2, HY5.out, HN5.out, hb2, .inl HO2.out, by rw [Nat.gcd_sub_self_right (by omega), Nat.gcd_comm, HG2.out]; exact HG.out, Nat.lt_of_le_of_lt hle2 HBL.out, Nat.lt_of_le_of_lt (by omega) HAL.out, HB5.out⟩
                      case measure => rw [HM5.out, HMY.out, HMA.out, HMB.out]; omega
                    · have hle : a1 ≤ b2 := by omega
                      have hcle : cmpI (a1 : Int) (b2 : Int) ≤ 0 := by
                        rcases Nat.lt_or_ge a1 b2 with h | h
                        · rw [cmpN_lt h]; decide
                        · rw [cmpN_eq (by omega)]; decide
                      obtain ⟨cm, hcm⟩ : ∃ cm, cmpI (a1 : Int) (b2 : Int) = cm := ⟨_, rfl⟩
                      rw [hcm] at he hcle
                      subst he
                      clear hcm
                      go_wp2_with fail
                      refine (subN HIY4.out HIX4.out (by omega) (by omega) hle).mono ?_
                      rintro e w5 ⟨v5, rfl, ho5, hb5⟩
                      have hn5 : NumIn w w5 v5 (b2 - a1) := OwnN.base_le ho5 hs4'
                      have HN5 := Lib.hid hn5
                      have HM5 := Lib.hid hn5.num
                      have HX5 := Lib.hid (HX4.out.below hb5)
                      have HMX := Lib.hid HX5.out.num
                      have HB5 := Lib.hid (below_then HBW4.out hb5 hs4')
                      clear ho5 hn5 hb5
                      go_wp2
                      go_roundw
                      case rel => exact ⟨a1, b2 - a1, HX5.out, HN5.out, ha1, .inl HO1.out, by rw [Nat.gcd_sub_self_right hle, HG2.out]; exact HG.out, Nat.lt_of_le_of_lt hle1 HAL.out, Nat.lt_of_le_of_lt (by omega) HBL.out, HB5.out⟩
                      case measure => rw [HM5.out, HMX.out, HMA.out, HMB.out]; omega
end Go.Proofs.YtpinhcdcnaaihaaGreatDoor
namespace Go.Proofs.YtpinhcdcnaaihaaGreatDoor
open Go.RowKit
def SmallInv (W0 : World) (ds : List Nat) (r i : Value) (wr : World) : Prop :=
  ∃ (k : Nat) (qs : List Nat), k ≤ ds.length ∧ i = .int .i64 ((k : Int) - 1) ∧ qs.length + k = ds.length ∧ Digs qs ∧ r = .int .u64 ((nval (ds.drop k) % 10 : Nat) : Int) ∧ nval qs = nval (ds.drop k) / 10 ∧ OwnN wr W0.heap.size (.slice (some ⟨W0.heap.size, 0, none⟩) ds.length ds.length) (List.replicate k 0 ++ qs) ∧ Below W0.heap.size W0 wr
theorem small_row (k g : Nat) (qs : List Nat) : (List.replicate (k + 1) 0 ++ qs).set k g = List.replicate k 0 ++ g :: qs := by
  rw [List.replicate_succ', List.append_assoc, List.set_append_right _ _ (by simp)]
  simp
theorem drop_val (ds : List Nat) (k : Nat) (h : k < ds.length) : nval (ds.drop k) = ds[k] + 4294967296 * nval (ds.drop (k + 1)) := by
  rw [List.drop_eq_getElem_cons h, nval]
def SmallPost (n : Nat) (w : World) (e : Ending) (w' : World) : Prop := ∃ v, e = .returned (.tuple #[v, .int .u64 ((n % 10 : Nat) : Int)]) ∧ OwnN w' w.heap.size v (digs (n / 10)) ∧ Below w.heap.size w w'
set_option maxRecDepth 100000 in
set_option maxHeartbeats 2000000 in
theorem small_any (A : Option Addr) (c : Nat) (ds : List Nat) (w : World) (h : IsN w A c ds) (hl : ds.length ≤ 1048576) :
    Calls Tryz.prog 106 #[.slice A ds.length c, .int .u64 10] w (SmallPost (nval ds) w) := by
  have HI := Lib.hid h
  clear h
  obtain ⟨W, hmk, hoW, hbW, hzW⟩ := make_nats w ds.length (by omega)
  have hmk := hmk .i64 .i64
  have HOW := Lib.hid hoW
  have HBW := Lib.hid hbW
  clear hoW hbW hzW
  go_enter Tryz.func106, Tryz.ntmps106
  go_wp2
  clear hmk
  go_loopw [7, 8] (fun r i wr => SmallInv w ds r i wr) (fun _ i _ => (intOf i + 1).toNat)
  case atStart => exact ⟨ds.length, [], Nat.le_refl _, rfl, by simp, fun d hd => by simp at hd, by simp [nval], by simp [nval], by simpa using HOW.out, HBW.out⟩
  case round =>
    obtain ⟨k, qs, hk, rfl, hql, hqd, rfl, hqv, hown, hbw⟩ := hrel
    have HQD := Lib.hid hqd
    have HQV := Lib.hid hqv
    have HO := Lib.hid hown
    have HB := Lib.hid hbw
    have HQL := Lib.hid hql
    have hsr := hbw.size
    clear hqd hqv hown hbw hql
    cases k with
    | zero =>
      rw [List.drop_zero] at *
      have hown : OwnN wr w.heap.size (.slice (some ⟨w.heap.size, 0, none⟩) ds.length ds.length) qs := by have := HO.out; simpa using this
      have hix : IsN wr (some ⟨w.heap.size, 0, none⟩) ds.length qs := by
        obtain ⟨A', c', e, hi⟩ := hown.is HQD.out
        injection e with e1 e2 e3
        subst e1 e3
        exact hi
      have hnm := norm_any (some ⟨w.heap.size, 0, none⟩) ds.length qs wr hix (by have := HQL.out; omega)
      rw [show qs.length = ds.length by have := HQL.out; omega, HQV.out] at hnm
      have HNM := Lib.hid hnm
      obtain ⟨m, hm⟩ : ∃ m, nval ds % 10 = m := ⟨_, rfl⟩
      rw [hm]
      have HM := Lib.hid hm
      clear hown hix hnm hm
      go_wp2_with fail
      refine HNM.out.mono ?_
      rintro e w5 ⟨v5, rfl, ho5, hb5⟩
      have HO5 := Lib.hid (ho5.base_le hsr)
      have HB5 := Lib.hid (below_then HB.out hb5 hsr)
      clear ho5 hb5
      go_wp2
      go_ret2
      exact ⟨v5, by rw [HM.out]; rfl, HO5.out, HB5.out⟩
    | succ k =>
      rw [show ((k + 1 : Nat) : Int) - 1 = (k : Int) by omega]
      have hlt : k < ds.length := by omega
      obtain ⟨b, off, rfl, hb, hc⟩ := HI.out.digit hlt
      obtain ⟨d, hd⟩ : ∃ d, ds[k] = d := ⟨_, rfl⟩
      have hce := (HB.out.cell (p := ⟨b, off + k, none⟩) hb).trans (hc k hlt)
      rw [hd] at hce
      have hd32 : d < 4294967296 := by rw [← hd]; exact HI.out.ok _ (List.getElem_mem hlt)
      have HDV := Lib.hid (show nval (ds.drop k) = d + 4294967296 * nval (ds.drop (k + 1)) by rw [drop_val ds k hlt, hd])
      obtain ⟨r, hr⟩ : ∃ r, nval (ds.drop (k + 1)) % 10 = r := ⟨_, rfl⟩
      have hr10 : r < 10 := by omega
      rw [hr]
      have HR := Lib.hid hr
      have hfr := HO.out.free k
      have hcz := HO.out.cell (i := k) (by simp; omega)
      clear hc hd hr
      go_wp2
      go_roundw
      case rel =>
        have e1 := HDV.out
        have e2 := HQV.out
        have e3 := HR.out
        refine ⟨k, (r * 4294967296 + d) / 10 :: qs, by omega, rfl, by have := HQL.out; simp; omega, fun x hx => ?_, ?_, ?_, ?_, HB.out.setCell (p := ⟨w.heap.size, k, none⟩) (Nat.le_refl _) _⟩
        · rcases List.mem_cons.1 hx with rfl | hx
          · omega
          · exact HQD.out x hx
        · congr 1; omega
        · rw [nval, e2]; omega
        · have hrl : (List.replicate (k + 1) (0 : Nat) ++ qs).length = ds.length := by have := HQL.out; simp; omega
          have h1 : OwnN wr w.heap.size (.slice (some ⟨w.heap.size, 0, none⟩) (List.replicate (k + 1) 0 ++ qs).length ds.length) (List.replicate (k + 1) 0 ++ qs) := by
            rw [hrl]; exact HO.out
          have h2 := h1.set (i := k) ((r * 4294967296 + d) / 10)
          rw [List.length_set, small_row, hrl] at h2
          have e : (((r * 4294967296 + d) / 10 : Nat) : Int) = ((r : Int) * 4294967296 + (d : Int)) / 10 := by omega
          rw [e] at h2
          exact h2
      case measure => simp [intOf]
theorem smallN {wr : World} {A : Option Addr} {c n : Nat} (h : IsN wr A c (digs n)) (hl : (digs n).length ≤ 1048576) : Calls Tryz.prog 106 #[.slice A (digs n).length c, .int .u64 10] wr (SmallPost n wr) := by
  have := small_any A c (digs n) wr h hl
  rwa [nval_digs] at this
def dec (m : Nat) (t : List UInt8) : List UInt8 := if m = 0 then t else Lib.decDigits m ++ t
theorem dec_step {m : Nat} (h : m ≠ 0) (t : List UInt8) : dec m t = dec (m / 10) (UInt8.ofNat (48 + m % 10) :: t) := by
  unfold dec
  rw [if_neg h]
  rw [Lib.decDigits]
  by_cases h10 : m < 10
  · rw [dif_pos h10, if_pos (by omega), Nat.mod_eq_of_lt h10]; rfl
  · rw [dif_neg h10, if_neg (by omega)]
    simp
def FmtInv (w : World) (D : List UInt8) (x s : Value) (wr : World) : Prop := ∃ (m : Nat) (t : List UInt8), NumIn w wr x m ∧ s = .string ⟨t.toArray⟩ ∧ dec m t = D ∧ (digs m).length ≤ 1048576 ∧ t.length ≤ D.length ∧ Below w.heap.size w wr
theorem dec_len (m : Nat) (t : List UInt8) : t.length ≤ (dec m t).length := by
  unfold dec; split
  · exact Nat.le_refl _
  · simp
def StrPost (l : List UInt8) (w : World) (e : Ending) (w' : World) : Prop := e = .returned (.string ⟨l.toArray⟩) ∧ Below w.heap.size w w'
set_option maxRecDepth 100000 in
set_option maxHeartbeats 2000000 in
theorem natFmt_any (A : Option Addr) (c : Nat) (ds : List Nat) (w : World) (h : IsN w A c ds) (hl : ds.length ≤ 1048576) (hD : (Lib.decDigits (nval ds)).length ≤ 1073741824) :
    Calls Tryz.prog 67 #[.slice A ds.length c] w (StrPost (Lib.decDigits (nval ds)) w) := by
  have HI := Lib.hid h
  clear h
  obtain ⟨N, hN⟩ : ∃ N, nval ds = N := ⟨_, rfl⟩
  have HN := Lib.hid hN
  rw [hN] at hD ⊢
  have hdl : (digs N).length ≤ ds.length := by rw [← hN]; exact digs_length_le (nval_lt ds HI.out.ok)
  clear hN
  go_enter Tryz.func67, Tryz.ntmps67
  go_wp2_with fail
  refine (norm_any A c ds _ HI.out (by omega)).mono ?_
  intro e w1 h1
  rw [HN.out] at h1
  obtain ⟨v1, rfl, hn1, hb1⟩ := h1.num (Nat.le_refl _)
  have HN1 := Lib.hid hn1
  have HB1 := Lib.hid hb1
  have hs1 := hb1.size
  clear h1 hn1 hb1
  obtain ⟨A1, c1, e1, _⟩ := HN1.out.is
  subst e1
  by_cases h0 : N = 0
  · have g1 : (((digs N).length : Int) == 0) = true := by rw [beq_iff_eq]; have := digs_len0.2 h0; omega
    have HD0 := Lib.hid (show Lib.decDigits N = [48] by rw [h0, Lib.decDigits]; rfl)
    clear h0
    go_wp2
    go_ret
    exact ⟨by rw [HD0.out]; rfl, HB1.out⟩
  · have g1 : (((digs N).length : Int) == 0) = false := by rw [beq_eq_false_iff_ne]; intro h; exact h0 (digs_len0.1 (by omega))
    have HD0 := Lib.hid (show dec N [] = Lib.decDigits N by rw [dec, if_neg h0, List.append_nil])
    clear h0
    obtain ⟨D, hDe⟩ : ∃ D, Lib.decDigits N = D := ⟨_, rfl⟩
    rw [hDe] at HD0 hD
    have HDE := Lib.hid hDe
    clear hDe
    go_wp2
    go_loopw [3, 4] (fun x s wr => FmtInv w D x s wr) (fun x _ wr => numAt x wr)
    case atStart => exact ⟨N, [], HN1.out, rfl, HD0.out, by omega, by simp, HB1.out⟩
    case round =>
      obtain ⟨m, t, hnm, rfl, hdm, hlm, hlt, hbw⟩ := hrel
      have HNM := Lib.hid hnm
      have HM := Lib.hid hnm.num
      have HDM := Lib.hid hdm
      have HBW := Lib.hid hbw
      have hsr := hbw.size
      obtain ⟨Am, cm, em, him⟩ := hnm.is
      subst em
      have HIM := Lib.hid him
      clear hnm hdm hbw him
      by_cases h0 : m = 0
      · have g2 : decide (0 < ((digs m).length : Int)) = false := by rw [decide_eq_false_iff_not]; have := digs_len0.2 h0; omega
        have g3 : decide (0 < (digs m).length) = false := by rw [decide_eq_false_iff_not]; have := digs_len0.2 h0; omega
        have g4 : ((digs m).length : Int) ≤ 0 := by have := digs_len0.2 h0; omega
        have HT := Lib.hid (show t = D by have := HDM.out; rwa [dec, if_pos h0] at this)
        clear h0
        go_wp2
        go_ret
        exact ⟨by rw [HDE.out, ← HT.out]; rfl, HBW.out⟩
      · have hpl : 0 < (digs m).length := by
          rcases Nat.eq_zero_or_pos (digs m).length with h | h
          · exact absurd (digs_len0.1 h) h0
          · exact h
        have HST := Lib.hid (dec_step h0 t)
        have h10 : m % 10 < 10 := Nat.mod_lt _ (by decide)
        have HM0 := Lib.hid h0
        clear h0
        go_wp2_with fail
        refine (smallN HIM.out hlm).mono ?_
        rintro e w4 ⟨v4, he, ho4, hb4⟩
        have hn4 : NumIn w w4 v4 (m / 10) := OwnN.base_le ho4 hsr
        have HN4 := Lib.hid hn4
        have HB4 := Lib.hid (below_then HBW.out hb4 hsr)
        have hs4 : w.heap.size ≤ w4.heap.size := Nat.le_trans hsr hb4.size
        obtain ⟨q, hq⟩ : ∃ q, m % 10 = q := ⟨_, rfl⟩
        rw [hq] at he h10 HST
        subst he
        clear ho4 hn4 hb4 hq
        have hcv := conv_one (48 + (q : Int)) (UInt8.ofNat (48 + q)) (by rw [digit_toNat q h10]; omega) w4
        go_wp2
        go_roundw
        case rel =>
          refine ⟨m / 10, UInt8.ofNat (48 + q) :: t, HN4.out.below ((Below.refl _ _).alloc (Nat.le_refl _) _), ?_, by rw [← HST.out]; exact HDM.out, Nat.le_trans (digs_length_mono (Nat.div_le_self _ _)) hlm, ?_, HB4.out.alloc hs4 _⟩
          · have := app_mk [UInt8.ofNat (48 + q)] t
            simpa using this
          · have h1 := dec_len (m / 10) (UInt8.ofNat (48 + q) :: t)
            rw [← HST.out, HDM.out] at h1
            exact h1
        case measure =>
          have h1 := (HN4.out.below ((Below.refl _ _).alloc (Nat.le_refl _) (.cells #[.int .u8 (48 + (q : Int))] 5))).num
          rw [h1, HM.out]
          have := HM0.out
          omega
end Go.Proofs.YtpinhcdcnaaihaaGreatDoor
