/-
  credenceref1.NatGCD, walked: the greatest common divisor.
-/
import Derived.Test.YtpjfkhbdhdolfaaDoorNatf
namespace Go.Proofs.YtpjfkhbdhdolfaaDoor
open Go.RowKit

theorem g1_next {X a s : Nat} (ha : 0 < a) (h : a * 2 ^ s = X) (he : a % 2 = 0) : 0 < a / 2 ∧ a / 2 * 2 ^ (s + 1) = X := by
  refine ⟨by omega, ?_⟩
  rw [Nat.pow_succ, Nat.mul_comm (2 ^ s) 2, ← Nat.mul_assoc, show a / 2 * 2 = a by omega, h]
theorem g1_small {X a s : Nat} (ha : 0 < a) (h : a * 2 ^ s = X) : s < X := by
  have h1 : s < 2 ^ s := Nat.lt_two_pow_self
  have h2 : 1 * 2 ^ s ≤ a * 2 ^ s := Nat.mul_le_mul_right _ ha
  omega
theorem g1_shift {X a s k : Nat} (ha : 0 < a) (h : a * 2 ^ s = X) (hX : X < 4294967296 ^ k) : s < 32 * k := by
  have h2 : 1 * 2 ^ s ≤ a * 2 ^ s := Nat.mul_le_mul_right _ ha
  have e : (2 : Nat) ^ 32 = 4294967296 := by decide
  have h3 : 2 ^ s < 2 ^ (32 * k) := by rw [Nat.pow_mul, e]; omega
  exact (Nat.pow_lt_pow_iff_right (by decide)).1 h3
theorem g1_le {X a s : Nat} (h : a * 2 ^ s = X) : a ≤ X := by
  have : a * 1 ≤ a * 2 ^ s := Nat.mul_le_mul_left _ (Nat.pow_pos (by decide))
  omega
set_option maxRecDepth 100000 in
set_option maxHeartbeats 4000000 in
theorem gcd_any (A B : Option Addr) (ca cb : Nat) (x y : List Nat) (w : World) (hA : IsN w A ca x) (hB : IsN w B cb y) (hlx : x.length ≤ 1048576) (hly : y.length ≤ 1048576) :
    Calls Tryd.prog 79 #[.slice A x.length ca, .slice B y.length cb] w (NatPost (Nat.gcd (nval x) (nval y)) w) := by
  have HA := Lib.hid hA
  have HB := Lib.hid hB
  clear hA hB
  obtain ⟨X, hX⟩ : ∃ X, nval x = X := ⟨_, rfl⟩
  obtain ⟨Y, hY⟩ : ∃ Y, nval y = Y := ⟨_, rfl⟩
  obtain ⟨K, hK⟩ : ∃ K : Nat, K = x.length + y.length := ⟨_, rfl⟩
  have hKl : K ≤ 2097152 := by omega
  have hXl : X < 4294967296 ^ K := by
    rw [← hX]
    exact Nat.lt_of_lt_of_le (nval_lt x HA.out.ok) (Nat.pow_le_pow_right (by decide) (by omega))
  have hYl : Y < 4294967296 ^ K := by
    rw [← hY]
    exact Nat.lt_of_lt_of_le (nval_lt y HB.out.ok) (Nat.pow_le_pow_right (by decide) (by omega))
  have HXL := Lib.hid hXl
  have HYL := Lib.hid hYl
  have HXE := Lib.hid hX
  have HYE := Lib.hid hY
  clear hXl hYl hX hY hK
  go_enter Tryd.func79, Tryd.ntmps79
  go_wp2_with fail
  refine (norm_any A ca x _ HA.out (by omega)).mono ?_
  intro e w1 h1
  rw [HXE.out] at h1
  obtain ⟨v1, rfl, hn1, hb1⟩ := h1.num (Nat.le_refl _)
  have HN1 := Lib.hid hn1
  have HB1 := Lib.hid hb1
  have hs1 := hb1.size
  clear h1 hn1 hb1
  go_wp2_with fail
  refine (norm_any B cb y _ (HB.out.below HB1.out) (by omega)).mono ?_
  intro e w2 h2
  rw [HYE.out] at h2
  obtain ⟨v2, rfl, hn2, hb2⟩ := h2.num hs1
  have HN2 := Lib.hid hn2
  have HN1 := Lib.hid (HN1.out.below hb2)
  have HB2 := Lib.hid (below_then HB1.out hb2 hs1)
  have hs2 : w.heap.size ≤ w2.heap.size := Nat.le_trans hs1 hb2.size
  clear h2 hn2 hb2
  obtain ⟨A1, c1, e1, hi1⟩ := HN1.out.is
  obtain ⟨A2, c2, e2, hi2⟩ := HN2.out.is
  subst e1 e2
  have hl1 : (digs X).length ≤ K := digs_length_le HXL.out
  have hl2 : (digs Y).length ≤ K := digs_length_le HYL.out
  have z1 : (digs X).length = 0 ↔ X = 0 := digs_len0
  have z2 : (digs Y).length = 0 ↔ Y = 0 := digs_len0
  have HZ1 := Lib.hid z1
  have HZ2 := Lib.hid z2
  clear hi1 hi2 z1 z2
  by_cases hx0 : X = 0
  · have g1 : (((digs X).length : Int) == 0) = true := by rw [beq_iff_eq]; have := HZ1.out.2 hx0; omega
    have HX0 := Lib.hid hx0
    clear hx0
    go_wp2
    go_ret
    exact ⟨_, rfl, by rw [HXE.out, HYE.out, HX0.out, Nat.gcd_zero_left]; exact HN2.out, HB2.out⟩
  by_cases hy0 : Y = 0
  · have g1 : (((digs X).length : Int) == 0) = false := by rw [beq_eq_false_iff_ne]; intro h; exact hx0 (HZ1.out.1 (by omega))
    have g2 : (((digs Y).length : Int) == 0) = true := by rw [beq_iff_eq]; have := HZ2.out.2 hy0; omega
    have HY0 := Lib.hid hy0
    clear hy0 hx0
    go_wp2
    go_ret
    exact ⟨_, rfl, by rw [HXE.out, HYE.out, HY0.out, Nat.gcd_zero_right]; exact HN1.out, HB2.out⟩
  have g1 : (((digs X).length : Int) == 0) = false := by rw [beq_eq_false_iff_ne]; intro h; exact hx0 (HZ1.out.1 (by omega))
  have g2 : (((digs Y).length : Int) == 0) = false := by rw [beq_eq_false_iff_ne]; intro h; exact hy0 (HZ2.out.1 (by omega))
  have HX0 := Lib.hid hx0
  have HY0 := Lib.hid hy0
  clear hx0 hy0
  go_wp2
  go_loopw [5, 6, 7] (fun x y sh wr => G1Inv w X Y x y sh wr) (fun _ _ sh _ => X - (intOf sh).toNat)
  case atStart => exact ⟨X, Y, 0, rfl, HN1.out, HN2.out, Nat.pos_of_ne_zero HX0.out, Nat.pos_of_ne_zero HY0.out, by simp, by simp, HB2.out⟩
  case round =>
    obtain ⟨a, b, s, rfl, hna, hnb, ha, hb, hax, hby, hbw⟩ := hrel
    obtain ⟨Aa, ca', ea, hia⟩ := hna.is
    obtain ⟨Ab, cb', eb, hib⟩ := hnb.is
    subst ea eb
    have hla : (digs a).length ≤ K := len_of (g1_le hax) HXL.out
    have hlb : (digs b).length ≤ K := len_of (g1_le hby) HYL.out
    have hsK := g1_shift ha hax HXL.out
    have hsX := g1_small ha hax
    obtain ⟨ba, oa, da, e1, hca, hda, hda32, hpa⟩ := NumIn.low hia (by omega)
    obtain ⟨bb, ob, db, e2, hcb, hdb, hdb32, hpb⟩ := NumIn.low hib (by omega)
    subst e1 e2
    have hsr := hbw.size
    have HNA := Lib.hid hna
    have HNB := Lib.hid hnb
    have HIA := Lib.hid hia
    have HIB := Lib.hid hib
    have HAX := Lib.hid hax
    have HBY := Lib.hid hby
    have HBW := Lib.hid hbw
    have HAN1 := Lib.hid (and_one da hda32)
    have HAN2 := Lib.hid (and_one db hdb32)
    clear hna hnb hia hib hax hby hbw
    have p1 : bits .and .u32 (da : Int) 1 = ((a % 2 : Nat) : Int) := by rw [HAN1.out, hda]
    have p2 : bits .and .u32 (db : Int) 1 = ((b % 2 : Nat) : Int) := by rw [HAN2.out, hdb]
    by_cases hee : a % 2 = 0 ∧ b % 2 = 0
    · obtain ⟨he1, he2⟩ := hee
      rw [he1] at p1
      rw [he2] at p2
      have HE1 := Lib.hid he1
      have HE2 := Lib.hid he2
      clear he1 he2 hda hdb HAN1 HAN2
      go_wp2_with fail
      refine (halfN HIA.out (by omega)).mono ?_
      intro e w4 h4
      obtain ⟨v4, rfl, hn4, hb4⟩ := h4.num (w := w) hsr
      have HN4 := Lib.hid hn4
      have HB4 := Lib.hid hb4
      have hs4 : w.heap.size ≤ w4.heap.size := Nat.le_trans hsr hb4.size
      clear h4 hn4 hb4 p1 p2 hca hcb
      go_wp2_with fail
      refine (halfN (HIB.out.below HB4.out) (by omega)).mono ?_
      intro e w5 h5
      obtain ⟨v5, rfl, hn5, hb5⟩ := h5.num (w := w) hs4
      have HN5 := Lib.hid hn5
      have HN45 := Lib.hid (HN4.out.below hb5)
      have HB5 := Lib.hid (below_then (below_then HBW.out HB4.out hsr) hb5 hs4)
      clear h5 hn5 hb5
      go_wp2
      go_roundw
      case rel => exact ⟨a / 2, b / 2, s + 1, by go_num, HN45.out, HN5.out, (g1_next ha HAX.out HE1.out).1, (g1_next hb HBY.out HE2.out).1, (g1_next ha HAX.out HE1.out).2, (g1_next hb HBY.out HE2.out).2, HB5.out⟩
      case measure => simp [intOf]; omega
    · have HG := Lib.hid (show Nat.gcd a b * 2 ^ s = Nat.gcd X Y by rw [← HAX.out, ← HBY.out, Nat.gcd_mul_right])
      have HODD := Lib.hid (show a % 2 = 1 ∨ b % 2 = 1 by omega)
      have HAL := Lib.hid (show a < 4294967296 ^ K from Nat.lt_of_le_of_lt (g1_le HAX.out) HXL.out)
      have HBL := Lib.hid (show b < 4294967296 ^ K from Nat.lt_of_le_of_lt (g1_le HBY.out) HYL.out)
      have hpar : (a % 2 = 1) ∨ (a % 2 = 0 ∧ b % 2 = 1) := by omega
      obtain ⟨wo, hwo⟩ : ∃ wo : World, wo = wr := ⟨_, rfl⟩
      subst hwo
      clear hee hda hdb HAN1 HAN2
      rcases hpar with hpa1 | ⟨hpa1, hpb1⟩
      all_goals
        rw [hpa1] at p1
        try rw [hpb1] at p2
        go_wp2
        clear p1 p2 hca hcb
        go_loopw [5, 6] (fun x y w' => G2Inv w (Nat.gcd X Y) s K x y w') (fun x y w' => numAt x w' + numAt y w')
        case atStart => exact ⟨a, b, HNA.out, HNB.out, ha, HODD.out, HG.out, HAL.out, HBL.out, HBW.out⟩
        case round =>
          obtain ⟨a, b, hna, hnb, ha, hodd, hg, hal, hbl, hbw⟩ := hrel
          have HNA := Lib.hid hna
          have HNB := Lib.hid hnb
          have HODD := Lib.hid hodd
          have HG := Lib.hid hg
          have HAL := Lib.hid hal
          have HBL := Lib.hid hbl
          have HBW := Lib.hid hbw
          have hsr := hbw.size
          have hla : (digs a).length ≤ K := digs_length_le hal
          have hlb : (digs b).length ≤ K := digs_length_le hbl
          have HMA := Lib.hid hna.num
          have HMB := Lib.hid hnb.num
          obtain ⟨Ab, cb', eb, hib⟩ := hnb.is
          obtain ⟨Aa, ca', ea, hia⟩ := hna.is
          subst ea eb
          clear hna hnb hodd hg hal hbl hbw hia hib
          by_cases hb0 : b = 0
          · have hg0 : ((digs b).length : Int) ≤ 0 := by have := digs_len0.2 hb0; omega
            have HGA := Lib.hid (show a * 2 ^ s = Nat.gcd X Y by have := HG.out; rwa [hb0, Nat.gcd_zero_right] at this)
            have hg1 : decide (0 < ((digs b).length : Int)) = false := by rw [decide_eq_false_iff_not]; omega
            have hg2 : decide (0 < (digs b).length) = false := by rw [decide_eq_false_iff_not]; omega
            clear hb0
            obtain ⟨wp, hwp⟩ : ∃ wp : World, wp = wr := ⟨_, rfl⟩
            subst hwp
            go_wp2
            go_loopw [5, 8] (fun x i w' => G5Inv w a s x i w') (fun _ i _ => s - (intOf i).toNat)
            case atStart => exact ⟨0, by omega, rfl, by rw [Nat.pow_zero, Nat.mul_one]; exact HNA.out, HBW.out⟩
            case round =>
              obtain ⟨t, ht, rfl, hnt, hbt⟩ := hrel
              have HNT := Lib.hid hnt
              have HBT := Lib.hid hbt
              have hst := hbt.size
              obtain ⟨At', ct, et, hit⟩ := hnt.is
              subst et
              have HIT := Lib.hid hit
              have hlt : (digs (a * 2 ^ t)).length ≤ 2 * K := by
                refine digs_length_le ?_
                have h1 : a * 2 ^ t ≤ a * 2 ^ s := Nat.mul_le_mul_left _ (Nat.pow_le_pow_right (by decide) ht)
                rw [HGA.out] at h1
                have h2 : Nat.gcd X Y ≤ X := Nat.gcd_le_left _ (Nat.pos_of_ne_zero HX0.out)
                have h3 : 4294967296 ^ K ≤ 4294967296 ^ (2 * K) := Nat.pow_le_pow_right (by decide) (by omega)
                have h4 := HXL.out
                omega
              clear hnt hbt hit
              by_cases hts : t < s
              · go_wp2_with fail
                refine (doubleN (bit := 0) HIT.out (by omega) (by omega)).mono ?_
                intro e w4 h4
                obtain ⟨v4, rfl, hn4, hb4⟩ := h4.num (w := w) hst
                rw [show 2 * (a * 2 ^ t) + 0 = a * 2 ^ (t + 1) by rw [Nat.pow_succ, Nat.add_zero, Nat.mul_comm 2, Nat.mul_assoc]] at hn4
                have HN4 := Lib.hid hn4
                have HB4 := Lib.hid (below_then HBT.out hb4 hst)
                clear h4 hn4 hb4
                go_wp2
                go_roundw
                case rel => exact ⟨t + 1, by omega, by go_num, HN4.out, HB4.out⟩
                case measure => simp [intOf]; omega
              · obtain rfl : t = s := by omega
                go_wp2
                go_ret
                exact ⟨_, rfl, by rw [HXE.out, HYE.out, ← HGA.out]; exact HNT.out, HBT.out⟩
          · have hb1 : 0 < b := by omega
            have hpl : 0 < (digs b).length := by
              rcases Nat.eq_zero_or_pos (digs b).length with h | h
              · exact absurd (digs_len0.1 h) hb0
              · exact h
            clear hb0
            obtain ⟨g, hgg⟩ : ∃ g, Nat.gcd a b = g := ⟨_, rfl⟩
            have HGG := Lib.hid hgg
            rw [hgg] at HG
            clear hgg
            obtain ⟨wp, hwp⟩ : ∃ wp : World, wp = wr := ⟨_, rfl⟩
            subst hwp
            go_wp2
            go_loopw [5] (fun x w' => G3Inv w g a b x (.slice Ab (digs b).length cb') w') (fun x w' => numAt x w')
            case atStart => exact ⟨a, HNA.out, HNB.out, ha, Nat.le_refl _, HODD.out, HGG.out, HBW.out⟩
            case round =>
              obtain ⟨a1, hn1, hnb, ha1, hle1, hodd1, hg1, hbw1⟩ := hrel
              have HN1 := Lib.hid hn1
              have HNB1 := Lib.hid hnb
              have HG1 := Lib.hid hg1
              have HBW1 := Lib.hid hbw1
              have HM1 := Lib.hid hn1.num
              have hsr1 := hbw1.size
              have hla1 : (digs a1).length ≤ K := len_of hle1 HAL.out
              obtain ⟨A1, c1, e1, hi1⟩ := hn1.is
              subst e1
              obtain ⟨bx, ox, dx, ex, hcx, hdx, hdx32, hpx⟩ := NumIn.low hi1 (by omega)
              subst ex
              have HI1 := Lib.hid hi1
              have hax := and_one dx hdx32
              rw [hdx] at hax
              clear hn1 hnb hg1 hbw1 hi1 hdx
              by_cases he1 : a1 % 2 = 0
              · rw [he1] at hax
                have HB1O := Lib.hid (show b % 2 = 1 by omega)
                have HE1 := Lib.hid he1
                clear he1 hodd1
                go_wp2_with fail
                refine (halfN HI1.out (by omega)).mono ?_
                intro e w4 h4
                obtain ⟨v4, rfl, hn4, hb4⟩ := h4.num (w := w) hsr1
                have HN4 := Lib.hid hn4
                have HM4 := Lib.hid hn4.num
                have HNB4 := Lib.hid (HNB1.out.below hb4)
                have HB4 := Lib.hid (below_then HBW1.out hb4 hsr1)
                clear h4 hn4 hb4 hax hcx
                go_wp2
                go_roundw
                case rel => exact ⟨a1 / 2, HN4.out, HNB4.out, by have := HE1.out; omega, by omega, .inr HB1O.out, by rw [gcd_half_left HE1.out HB1O.out]; exact HG1.out, HB4.out⟩
                case measure => rw [HM4.out, HM1.out]; omega
              · have ho1 : a1 % 2 = 1 := by omega
                rw [ho1] at hax
                have HO1 := Lib.hid ho1
                clear he1 hodd1 ho1
                obtain ⟨wq, hwq⟩ : ∃ wq : World, wq = wr := ⟨_, rfl⟩
                subst hwq
                go_wp2
                clear hax hcx
                go_loopw [6] (fun y w' => G4Inv w g b a1 (.slice (some ⟨bx, ox, none⟩) (digs a1).length c1) y w') (fun y w' => numAt y w')
                case atStart => exact ⟨b, HN1.out, HNB1.out, hb1, Nat.le_refl _, HG1.out, HBW1.out⟩
                case round =>
                  obtain ⟨b2, hna2, hn2, hb2, hle2, hg2, hbw2⟩ := hrel
                  have HNA2 := Lib.hid hna2
                  have HN2 := Lib.hid hn2
                  have HG2 := Lib.hid hg2
                  have HBW2 := Lib.hid hbw2
                  have HM2 := Lib.hid hn2.num
                  have hsr2 := hbw2.size
                  have hlb2 : (digs b2).length ≤ K := len_of hle2 HBL.out
                  obtain ⟨A2, c2, e2, hi2⟩ := hn2.is
                  subst e2
                  obtain ⟨by', oy, dy, ey, hcy, hdy, hdy32, hpy⟩ := NumIn.low hi2 (by omega)
                  subst ey
                  have HI2 := Lib.hid hi2
                  have HI12 := Lib.hid (show IsN wr (some ⟨bx, ox, none⟩) c1 (digs a1) by
                    obtain ⟨A', c', e, hi⟩ := hna2.is
                    injection e with e1 e2 e3
                    subst e1 e3
                    exact hi)
                  have hay := and_one dy hdy32
                  rw [hdy] at hay
                  clear hna2 hn2 hg2 hbw2 hi2 hdy
                  by_cases he2 : b2 % 2 = 0
                  · rw [he2] at hay
                    have HE2 := Lib.hid he2
                    clear he2
                    go_wp2_with fail
                    refine (halfN HI2.out (by omega)).mono ?_
                    intro e w4 h4
                    obtain ⟨v4, rfl, hn4, hb4⟩ := h4.num (w := w) hsr2
                    have HN4 := Lib.hid hn4
                    have HM4 := Lib.hid hn4.num
                    have HNA4 := Lib.hid (HNA2.out.below hb4)
                    have HB4 := Lib.hid (below_then HBW2.out hb4 hsr2)
                    clear h4 hn4 hb4 hay hcy
                    go_wp2
                    go_roundw
                    case rel => exact ⟨b2 / 2, HNA4.out, HN4.out, by have := HE2.out; omega, by omega, by rw [gcd_half_right HO1.out HE2.out]; exact HG2.out, HB4.out⟩
                    case measure => rw [HM4.out, HM2.out]; omega
                  · have ho2 : b2 % 2 = 1 := by omega
                    rw [ho2] at hay
                    have HO2 := Lib.hid ho2
                    clear he2 ho2
                    go_wp2_with fail
                    refine (cmpN HI12.out HI2.out (by omega) (by omega)).mono ?_
                    rintro e w4 ⟨he, hb4⟩
                    have HB4 := Lib.hid hb4
                    have hs4 := hb4.size
                    have hs4' : w.heap.size ≤ w4.heap.size := Nat.le_trans hsr2 hs4
                    have HX4 := Lib.hid (HNA2.out.below hb4)
                    have HY4 := Lib.hid (HN2.out.below hb4)
                    have HIX4 := Lib.hid (HI12.out.below hb4)
                    have HIY4 := Lib.hid (HI2.out.below hb4)
                    have HBW4 := Lib.hid (below_then HBW2.out hb4 hsr2)
                    clear hb4 hay hcy
                    by_cases hgt : b2 < a1
                    · rw [cmpN_gt hgt] at he
                      subst he
                      go_wp2_with fail
                      refine (subN HIX4.out HIY4.out (by omega) (by omega) (by omega)).mono ?_
                      rintro e w5 ⟨v5, rfl, ho5, hb5⟩
                      have hn5 : NumIn w w5 v5 (a1 - b2) := OwnN.base_le ho5 hs4'
                      have HN5 := Lib.hid hn5
                      have HM5 := Lib.hid hn5.num
                      have HY5 := Lib.hid (HY4.out.below hb5)
                      have HMY := Lib.hid HY5.out.num
                      have HB5 := Lib.hid (below_then HBW4.out hb5 hs4')
                      clear ho5 hn5 hb5
                      go_wp2
                      go_roundw
                      case rel => exact ⟨b2, a1 - b2, HY5.out, HN5.out, hb2, .inl HO2.out, by rw [Nat.gcd_sub_self_right (by omega), Nat.gcd_comm, HG2.out]; exact HG.out, Nat.lt_of_le_of_lt hle2 HBL.out, Nat.lt_of_le_of_lt (by omega) HAL.out, HB5.out⟩
                      case measure => rw [HM5.out, HMY.out, HMA.out, HMB.out]; omega
                    · have hle : a1 ≤ b2 := by omega
                      have hcle : cmpI (a1 : Int) (b2 : Int) ≤ 0 := by
                        rcases Nat.lt_or_ge a1 b2 with h | h
                        · rw [cmpN_lt h]; decide
                        · rw [cmpN_eq (by omega)]; decide
                      obtain ⟨cm, hcm⟩ : ∃ cm, cmpI (a1 : Int) (b2 : Int) = cm := ⟨_, rfl⟩
                      rw [hcm] at he hcle
                      subst he
                      clear hcm
                      go_wp2_with fail
                      refine (subN HIY4.out HIX4.out (by omega) (by omega) hle).mono ?_
                      rintro e w5 ⟨v5, rfl, ho5, hb5⟩
                      have hn5 : NumIn w w5 v5 (b2 - a1) := OwnN.base_le ho5 hs4'
                      have HN5 := Lib.hid hn5
                      have HM5 := Lib.hid hn5.num
                      have HX5 := Lib.hid (HX4.out.below hb5)
                      have HMX := Lib.hid HX5.out.num
                      have HB5 := Lib.hid (below_then HBW4.out hb5 hs4')
                      clear ho5 hn5 hb5
                      go_wp2
                      go_roundw
                      case rel => exact ⟨a1, b2 - a1, HX5.out, HN5.out, ha1, .inl HO1.out, by rw [Nat.gcd_sub_self_right hle, HG2.out]; exact HG.out, Nat.lt_of_le_of_lt hle1 HAL.out, Nat.lt_of_le_of_lt (by omega) HBL.out, HB5.out⟩
                      case measure => rw [HM5.out, HMX.out, HMA.out, HMB.out]; omega
end Go.Proofs.YtpjfkhbdhdolfaaDoor
