import Derived.Test.YtpinhcdcnaaihaaGreatDoorA19
namespace Go.Proofs.YtpinhcdcnaaihaaGreatDoor
open Go.RowKit
def DdInv (W0 : World) (ds : List Nat) (d : Nat) (r i : Value) (wr : World) : Prop :=
  ∃ (k rs : Nat) (qs : List Nat), k ≤ ds.length ∧ i = .int .i64 ((k : Int) - 1) ∧ r = .int .u64 rs ∧ rs < d ∧ qs.length = ds.length - k ∧ Digs qs ∧ OwnN wr W0.heap.size (.slice (some ⟨W0.heap.size, 0, none⟩) ds.length ds.length) (List.replicate k 0 ++ qs) ∧ nval (ds.drop k) = d * nval qs + rs ∧ Below W0.heap.size W0 wr ∧ W0.heap.size < wr.heap.size
theorem dd_step {ds qs : List Nat} {k d rs x : Nat} (hk : k < ds.length) (hx : ds[k] = x) (he : nval (ds.drop (k + 1)) = d * nval qs + rs) :
    nval (ds.drop k) = d * nval ((rs * 4294967296 + x) / d :: qs) + (rs * 4294967296 + x) % d := by
  rw [drop_val ds k hk, hx, he, nval]
  have h := Nat.div_add_mod (rs * 4294967296 + x) d
  have e : d * ((rs * 4294967296 + x) / d + 4294967296 * nval qs) = d * ((rs * 4294967296 + x) / d) + 4294967296 * (d * nval qs) := by rw [Nat.mul_add, Nat.mul_left_comm d]
  rw [e]
  omega
theorem wrap_low (n : Nat) (h : n < 4294967296) : IntKind.u64.wrap (n : Int) % 4294967296 = n := by rw [IntKind.wrap_u64]; omega
theorem dd_lt {rs d x : Nat} (h : rs < d) (hx : x < 4294967296) : (rs * 4294967296 + x) / d < 4294967296 := by
  rw [Nat.div_lt_iff_lt_mul (by omega)]
  have : (rs + 1) * 4294967296 ≤ d * 4294967296 := Nat.mul_le_mul_right _ h
  rw [Nat.mul_comm 4294967296 d]
  omega
theorem DdInv.next {W0 wr : World} {ds qs : List Nat} {d k rs x : Nat} {z q i : Int} (hk : k < ds.length) (hx : ds[k] = x) (hx32 : x < 4294967296) (hr : rs < d) (hl : qs.length = ds.length - (k + 1)) (hq : Digs qs) (ho : OwnN wr W0.heap.size (.slice (some ⟨W0.heap.size, 0, none⟩) ds.length ds.length) (List.replicate (k + 1) 0 ++ qs)) (he : nval (ds.drop (k + 1)) = d * nval qs + rs) (hb : Below W0.heap.size W0 wr) (hs : W0.heap.size < wr.heap.size)
    (hz : z = (((rs * 4294967296 + x) / d : Nat) : Int)) (hqq : q = (((rs * 4294967296 + x) % d : Nat) : Int)) (hi : i = (k : Int) - 1) : DdInv W0 ds d (.int .u64 q) (.int .i64 i) (wr.setCell ⟨W0.heap.size, k, none⟩ (.int .u32 z)) := by
  subst hqq hi
  refine ⟨k, _, (rs * 4294967296 + x) / d :: qs, by omega, rfl, rfl, Nat.mod_lt _ (by omega), by simp [hl]; omega, fun e hm => ?_, ?_, dd_step hk hx he, hb.setCell (p := ⟨W0.heap.size, k, none⟩) (Nat.le_refl _) _, by simpa [World.setCell] using hs⟩
  · rcases List.mem_cons.1 hm with rfl | h
    · exact dd_lt hr hx32
    · exact hq e h
  · have := ho.put (i := k) (by simp [hl]; omega) z _ hz
    rw [small_row] at this
    exact this
def QD (n d : Nat) (W : World) (v : Value) : Prop := ∃ a, v = .tuple #[a, .int .u32 ((n % d : Nat) : Int)] ∧ IsD W a (n / d)
set_option maxRecDepth 100000 in
set_option maxHeartbeats 4000000 in
theorem divDigit_any (A : Option Addr) (c : Nat) (ds : List Nat) (d : Nat) (w : World) (h : IsN w A c ds) (hl : ds.length ≤ 1048576) (hd : 0 < d) (hd32 : d < 4294967296) :
    Calls Tryz.prog 103 #[.slice A ds.length c, .int .u32 d] w (Gives (QD (nval ds) d) w) := by
  have HI := Lib.hid h
  clear h
  have hd0 : ((d : Int) == 0) = false := by rw [beq_eq_false_iff_ne]; omega
  obtain ⟨W, hmk, hoW, hbW, hzW⟩ := make_nats w ds.length (by omega)
  have hmk := hmk .i64 .i64
  have HOW := Lib.hid hoW
  have HBW := Lib.hid hbW
  have hzW' : w.heap.size < W.heap.size := by omega
  clear hoW hbW hzW
  go_enter Tryz.func103, Tryz.ntmps103
  go_wp2
  clear hmk
  go_loopw [7, 8] (fun r i wr => DdInv w ds d r i wr) (fun _ i _ => (intOf i + 1).toNat)
  case atStart => exact ⟨ds.length, 0, [], Nat.le_refl _, rfl, rfl, hd, by simp, fun d hd => by simp at hd, by simpa using HOW.out, by simp [nval], HBW.out, hzW'⟩
  case round =>
    obtain ⟨k, rs, qs, hk, rfl, rfl, hr, hql, hqd, hoq, heq, hbw, hsr⟩ := hrel
    have HOQ := Lib.hid hoq
    have HQ := Lib.hid heq
    have HBW2 := Lib.hid hbw
    have HQL := Lib.hid hql
    have HQD := Lib.hid hqd
    clear hoq heq hbw hql hqd
    cases k with
    | zero =>
      have hoq : OwnN wr w.heap.size (.slice (some ⟨w.heap.size, 0, none⟩) ds.length ds.length) qs := by have := HOQ.out; rwa [List.replicate_zero, List.nil_append] at this
      obtain ⟨h4, h5⟩ := hoq.isN HQD.out
      have h1 := HQ.out
      rw [List.drop_zero] at h1
      have hv : nval qs = nval ds / d ∧ nval ds % d = rs := by
        rw [h1]
        exact ⟨by rw [Nat.mul_add_div hd, Nat.div_eq_of_lt hr]; omega, by rw [Nat.mul_add_mod, Nat.mod_eq_of_lt hr]⟩
      have HT := Lib.hid (trimL h4 h5 (by have := HQL.out; omega) hv.1)
      have HR := Lib.hid hv.2
      clear hoq h4 h5 h1 hv
      have hr32 : rs < 4294967296 := by omega
      go_wp2_with fail
      refine HT.out.mono ?_
      rintro e w5 ⟨v5, rfl, hd5, hb5⟩
      have HD5 := Lib.hid hd5
      have HB5 := Lib.hid (below_then HBW2.out hb5 HBW2.out.size)
      clear hd5 hb5
      go_wp2
      go_ret2
      exact ⟨_, rfl, ⟨_, by rw [HR.out]; rfl, HD5.out⟩, HB5.out⟩
    | succ k =>
      rw [show ((k + 1 : Nat) : Int) - 1 = (k : Int) by omega]
      have hlt : k < ds.length := by omega
      obtain ⟨b, off, rfl, hb, hc⟩ := (HI.out.below HBW2.out).digit hlt
      have cx := hc k hlt
      have hx32 := HI.out.lt hlt
      obtain ⟨x, hx⟩ : ∃ x, ds[k] = x := ⟨_, rfl⟩
      rw [hx] at cx hx32
      have HX := Lib.hid hx
      have hfr := HOQ.out.free k
      have hce := HOQ.out.cell (i := k) (by simp; omega)
      obtain ⟨old, hold⟩ : ∃ old, (List.replicate (k + 1) 0 ++ qs)[k]'(by simp; omega) = old := ⟨_, rfl⟩
      rw [hold] at hce
      have hor := or_hi rs x (by omega) hx32
      rw [show (((rs * 4294967296 : Nat)) : Int) = (rs : Int) * 4294967296 by omega] at hor
      have hw64 : rs * 4294967296 + x < 18446744073709551616 := by omega
      have hq32 := dd_lt hr hx32
      have hr32 : (rs * 4294967296 + x) % d < d := Nat.mod_lt _ hd
      obtain ⟨t, ht⟩ : ∃ t, rs * 4294967296 + x = t := ⟨_, rfl⟩
      rw [ht] at hor hw64 hq32 hr32
      have HTT := Lib.hid ht
      have e2 : ((t : Int) % (d : Int)) = ((t % d : Nat) : Int) := by omega
      have HE2 := Lib.hid e2
      clear hc hx hold ht e2
      go_wp2
      go_roundw
      case rel => exact DdInv.next hlt HX.out hx32 hr HQL.out HQD.out HOQ.out HQ.out HBW2.out hsr (by rw [HTT.out]; exact wrap_low _ hq32) (by rw [HTT.out]; first | exact HE2.out | omega) (by omega)
      case measure => simp [intOf]
theorem divDigitD {v : Value} {n d : Nat} {w : World} (h : IsD w v n) (hl : (digs n).length ≤ 1048576) (hd : 0 < d) (hd32 : d < 4294967296) : Calls Tryz.prog 103 #[v, .int .u32 d] w (Gives (QD n d) w) := by
  obtain ⟨A, c, rfl, hi⟩ := h
  have := divDigit_any A c (digs n) d w hi hl hd hd32
  rwa [nval_digs] at this
def DmR (X Y : Nat) (W : World) (r : Value) : Prop := ∃ a b, r = .tuple #[a, b, .bool true] ∧ IsD W a (X / Y) ∧ IsD W b (X % Y)
theorem IsD.zero (W : World) : IsD W (.slice none 0 0) 0 := ⟨none, 0, rfl, At.nil _ _ _, fun _ => ⟨rfl, rfl⟩, Nat.le_refl _, by omega, fun _ h => by cases h⟩
theorem digs_one {n : Nat} (h : (digs n).length = 1) : 0 < n ∧ n < 4294967296 ∧ digs n = [n] := by
  have h0 : n ≠ 0 := fun e => by rw [e, digs_zero] at h; simp at h
  have h1 := digs_step h0
  have h2 : digs (n / 4294967296) = [] := List.eq_nil_of_length_eq_zero (by rw [h1] at h; simpa using h)
  have h3 := digs_nil.1 h2
  exact ⟨by omega, by omega, by rw [h1, h2, Nat.mod_eq_of_lt (by omega)]⟩
set_option maxRecDepth 100000 in
set_option maxHeartbeats 4000000 in
theorem divModD {u v : Value} {X Y : Nat} {w : World} (hu : IsD w u X) (hv : IsD w v Y) (hlx : (digs X).length ≤ 1048576) (hly : (digs Y).length ≤ 1048576) (hY : 0 < Y) : Calls Tryz.prog 158 #[u, v] w (Gives (DmR X Y) w) := by
  have HC := Lib.hid (trimD hu (by omega))
  have HV := Lib.hid hv
  obtain ⟨A0, c0, rfl, _⟩ := hu
  obtain ⟨B0, e0, rfl, _⟩ := hv
  go_enter Tryz.func158, Tryz.ntmps158
  go_wp2_with fail
  refine HC.out.mono ?_
  rintro e w1 ⟨v1, rfl, hd1, hb1⟩
  obtain ⟨A1, c1, dx, rfl, hi1, hds⟩ := hd1.open_
  have HI0 := Lib.hid hi1
  have HB1 := Lib.hid hb1
  have HDX := Lib.hid hds.out
  have hs1 := hb1.size
  clear hd1 hi1 hb1 hds HC
  have HC2 := Lib.hid (trimD (HV.out.below HB1.out) (by omega))
  go_wp2_with fail
  refine HC2.out.mono ?_
  rintro e w2 ⟨v2, rfl, hd2, hb2⟩
  obtain ⟨A2, c2, dy, rfl, hi2, hds⟩ := hd2.open_
  have HI2 := Lib.hid hi2
  have HI1 := Lib.hid (HI0.out.below hb2)
  have HB2 := Lib.hid (below_then HB1.out hb2 hs1)
  have HDY := Lib.hid hds.out
  have hs2 : w.heap.size ≤ w2.heap.size := Nat.le_trans hs1 hb2.size
  clear hd2 hi2 hb2 hds HC2 HI0
  have hly0 : 0 < dy.length := by
    rcases Nat.eq_zero_or_pos dy.length with h | h
    · rw [HDY.out] at h; have := digs_len0.1 h; omega
    · exact h
  have g1 : ((dy.length : Int) == 0) = false := by rw [beq_eq_false_iff_ne]; omega
  have hcm0 : (cmpI (X : Int) (Y : Int) < 0) ↔ X < Y := by
    rcases Nat.lt_trichotomy X Y with h | h | h
    · rw [cmpN_lt h]; omega
    · rw [cmpN_eq h]; omega
    · rw [cmpN_gt h]; omega
  have HCM := Lib.hid (bcmpD (HI1.out.isD HDX.out) (HI2.out.isD HDY.out) (by omega) (by omega))
  obtain ⟨cm, hcm⟩ : ∃ cm, cmpI (X : Int) (Y : Int) = cm := ⟨_, rfl⟩
  rw [hcm] at HCM hcm0
  clear hcm
  go_wp2_with fail
  refine HCM.out.mono ?_
  rintro e w3 ⟨v3, rfl, hr3, hb3⟩
  obtain rfl := hr3
  have HX3 := Lib.hid ((HI1.out.isD HDX.out).below hb3)
  have HY3 := Lib.hid ((HI2.out.isD HDY.out).below hb3)
  have HI23 := Lib.hid (HI2.out.below hb3)
  have HB3 := Lib.hid (below_then HB2.out hb3 hs2)
  have hs3 : w.heap.size ≤ w3.heap.size := Nat.le_trans hs2 hb3.size
  clear hb3 HCM HI1 HI2
  by_cases hlt0 : X < Y
  · have hc1 : cm < 0 := hcm0.2 hlt0
    clear hcm0
    have HN := Lib.hid (normD HX3.out (by omega))
    go_wp2_with fail
    refine HN.out.mono ?_
    rintro e w4 ⟨v4, rfl, hd4, hb4⟩
    have HD4 := Lib.hid hd4
    have HB4 := Lib.hid (below_then HB3.out hb4 hs3)
    clear hd4 hb4
    go_wp2
    go_ret3
    exact ⟨_, rfl, ⟨_, _, rfl, by rw [Nat.div_eq_of_lt hlt0]; exact IsD.zero _, by rw [Nat.mod_eq_of_lt hlt0]; exact HD4.out⟩, HB4.out⟩
  · have hc1 : ¬ cm < 0 := fun h => hlt0 (hcm0.1 h)
    have hle : Y ≤ X := by omega
    clear hcm0
    by_cases h1 : dy.length = 1
    · have g2 : ((dy.length : Int) == 1) = true := by rw [beq_iff_eq]; omega
      obtain ⟨hY0, hY32, hYd⟩ := digs_one (n := Y) (by rw [← HDY.out]; exact h1)
      have hdyY : dy = [Y] := by rw [HDY.out, hYd]
      obtain ⟨b, off, rfl, hb, hc⟩ := HI23.out.digit (i := 0) (by omega)
      have c0 := hc 0 (by omega)
      simp only [hdyY, List.getElem_cons_zero, Nat.add_zero] at c0
      clear hc hYd hdyY
      have HQ := Lib.hid (divDigitD HX3.out (by omega) hY0 hY32)
      have hm32 : X % Y < 4294967296 := Nat.lt_trans (Nat.mod_lt _ hY0) hY32
      obtain ⟨m, hm⟩ : ∃ m, X % Y = m := ⟨_, rfl⟩
      have HM := Lib.hid hm
      rw [hm] at hm32
      unfold QD at HQ
      rw [hm] at HQ
      clear hm
      go_wp2_with fail
      refine HQ.out.mono ?_
      rintro e w4 ⟨v4, rfl, ⟨q4, rfl, hd4⟩, hb4⟩
      have HD4 := Lib.hid hd4
      have HB4 := Lib.hid (below_then HB3.out hb4 hs3)
      have hs4 : w.heap.size ≤ w4.heap.size := Nat.le_trans hs3 hb4.size
      clear hd4 hb4
      have HF := Lib.hid (fromU_any m w4 (by omega))
      go_wp2_with fail
      refine HF.out.mono ?_
      rintro e w5 ⟨v5, rfl, hd5, hb5⟩
      have HD5 := Lib.hid hd5
      have HD45 := Lib.hid (HD4.out.below hb5)
      have HB5 := Lib.hid (below_then HB4.out hb5 hs4)
      clear hd5 hb5
      go_wp2
      go_ret3
      exact ⟨_, rfl, ⟨_, _, rfl, HD45.out, by rw [HM.out]; exact HD5.out⟩, HB5.out⟩
    · have g2 : ((dy.length : Int) == 1) = false := by rw [beq_eq_false_iff_ne]; omega
      have HQ := Lib.hid (longD HX3.out HY3.out (by omega) (by rw [← HDY.out]; omega) hle)
      go_wp2_with fail
      refine HQ.out.mono ?_
      rintro e w4 ⟨v4, rfl, ⟨q4, r4, rfl, hd4, he4⟩, hb4⟩
      have HD4 := Lib.hid hd4
      have HE4 := Lib.hid he4
      have HB4 := Lib.hid (below_then HB3.out hb4 hs3)
      clear hd4 he4 hb4
      go_wp2
      go_ret3
      exact ⟨_, rfl, ⟨_, _, rfl, HD4.out, HE4.out⟩, HB4.out⟩
def GInv (w : World) (G M : Nat) (x y : Value) (wr : World) : Prop := ∃ a b : Nat, IsD wr x a ∧ IsD wr y b ∧ a ≤ M ∧ b ≤ M ∧ Nat.gcd a b = G ∧ Below w.heap.size w wr
theorem IsD.num {W : World} {v : Value} {n : Nat} (h : IsD W v n) : numAt v W = n := by
  obtain ⟨A, c, rfl, hi⟩ := h
  have e := nval_digs n
  generalize digs n = l at *
  cases A with
  | none =>
    have : l = [] := List.eq_nil_of_length_eq_zero (hi.nil rfl).1
    subst this
    exact e
  | some a =>
    rw [← e]
    show nval ((List.range l.length).map fun i => match W.cell? ⟨a.block, a.off + i, none⟩ with
      | some (.int _ d) => d.toNat
      | _ => 0) = nval l
    congr 1
    apply List.ext_getElem
    · simp
    · intro j h1 h2
      obtain ⟨b, off, ea, _, hc⟩ := hi.digit h2
      injection ea with ea
      subst ea
      simp [hc j h2]
set_option maxRecDepth 100000 in
set_option maxHeartbeats 4000000 in
theorem bgcdD {u v : Value} {X Y : Nat} {w : World} (hu : IsD w u X) (hv : IsD w v Y) (hlx : (digs X).length ≤ 1048576) (hly : (digs Y).length ≤ 1048576) : Calls Tryz.prog 157 #[u, v] w (Gives (fun W r => IsD W r (Nat.gcd X Y)) w) := by
  have HC := Lib.hid (normD hu (by omega))
  have HV := Lib.hid hv
  have HLM : Hid (∀ n, n ≤ max X Y → (digs n).length ≤ 1048576) := fun n hn => by
    rcases Nat.le_total X Y with h | h
    · exact Nat.le_trans (digs_length_mono (by omega)) hly
    · exact Nat.le_trans (digs_length_mono (by omega)) hlx
  obtain ⟨A0, c0, rfl, _⟩ := hu
  obtain ⟨B0, e0, rfl, _⟩ := hv
  go_enter Tryz.func157, Tryz.ntmps157
  go_wp2_with fail
  refine HC.out.mono ?_
  rintro e w1 ⟨v1, rfl, hd1, hb1⟩
  have HD1 := Lib.hid hd1
  have HB1 := Lib.hid hb1
  have hs1 := hb1.size
  clear hd1 hb1 HC
  have HC2 := Lib.hid (normD (HV.out.below HB1.out) (by omega))
  go_wp2_with fail
  refine HC2.out.mono ?_
  rintro e w2 ⟨v2, rfl, hd2, hb2⟩
  have HD2 := Lib.hid hd2
  have HD12 := Lib.hid (HD1.out.below hb2)
  have HB2 := Lib.hid (below_then HB1.out hb2 hs1)
  have hs2 : w.heap.size ≤ w2.heap.size := Nat.le_trans hs1 hb2.size
  clear hd2 hb2 HC2
  go_wp2
  go_loopw [5, 6] (fun x y wr => GInv w (Nat.gcd X Y) (max X Y) x y wr) (fun _ y wr => numAt y wr)
  case atStart => exact ⟨X, Y, HD12.out, HD2.out, by omega, by omega, rfl, HB2.out⟩
  case round =>
    obtain ⟨a, b, hx, hy, ha, hb, hg, hbw⟩ := hrel
    have HX := Lib.hid hx
    have HY := Lib.hid hy
    have HG := Lib.hid hg
    have HBW := Lib.hid hbw
    have hsr := hbw.size
    have HNY := Lib.hid hy.num
    obtain ⟨Ax, cx, dx, rfl, hix, hdx⟩ := hx.open_
    obtain ⟨Ay, cy, dy, rfl, hiy, hdy⟩ := hy.open_
    clear hx hy hg hbw hix hiy
    by_cases h0 : 0 < dy.length
    · have hb0 : 0 < b := by
        rcases Nat.eq_zero_or_pos b with h | h
        · rw [hdy.out, h, digs_zero] at h0; simp at h0
        · exact h
      by_cases h1 : dx.length ≤ 2 ∧ dy.length ≤ 2
      · obtain ⟨h1, h2⟩ := h1
        have e2 : (4294967296 ^ 2 : Nat) = 18446744073709551616 := by decide
        have ha64 : a < 18446744073709551616 := by
          have := nval_lt (digs a) (digs_lt a)
          rw [nval_digs, ← hdx.out] at this
          exact Nat.lt_of_lt_of_le this (by rw [← e2]; exact Nat.pow_le_pow_right (by decide) h1)
        have hb64 : b < 18446744073709551616 := by
          have := nval_lt (digs b) (digs_lt b)
          rw [nval_digs, ← hdy.out] at this
          exact Nat.lt_of_lt_of_le this (by rw [← e2]; exact Nat.pow_le_pow_right (by decide) h2)
        have HS := Lib.hid (gcdSmallD HX.out HY.out ha64 hb64)
        rw [HG.out] at HS
        clear e2
        go_wp2_with fail
        refine HS.out.mono ?_
        rintro e w4 ⟨v4, rfl, hd4, hb4⟩
        have HD4 := Lib.hid hd4
        have HB4 := Lib.hid (below_then HBW.out hb4 hsr)
        clear hd4 hb4
        go_wp2
        go_ret
        exact ⟨_, rfl, HD4.out, HB4.out⟩
      · have HS := Lib.hid (divModD HX.out HY.out (HLM.out a ha) (HLM.out b hb) hb0)
        by_cases h2 : dx.length ≤ 2
        · have h3 : ¬ dy.length ≤ 2 := fun h => h1 ⟨h2, h⟩
          go_wp2_with fail
          refine HS.out.mono ?_
          rintro e w4 ⟨v4, rfl, ⟨q4, r4, rfl, hd4, he4⟩, hb4⟩
          have HE4 := Lib.hid he4
          have HY4 := Lib.hid (HY.out.below hb4)
          have HB4 := Lib.hid (below_then HBW.out hb4 hsr)
          clear hd4 he4 hb4
          go_wp2
          go_roundw
          case rel => exact ⟨b, a % b, HY4.out, HE4.out, hb, by have := Nat.mod_le a b; omega, by rw [← HG.out, Nat.gcd_comm b, ← Nat.gcd_rec, Nat.gcd_comm], HB4.out⟩
          case measure => rw [HNY.out, HE4.out.num]; exact Nat.mod_lt _ hb0
        · go_wp2_with fail
          refine HS.out.mono ?_
          rintro e w4 ⟨v4, rfl, ⟨q4, r4, rfl, hd4, he4⟩, hb4⟩
          have HE4 := Lib.hid he4
          have HY4 := Lib.hid (HY.out.below hb4)
          have HB4 := Lib.hid (below_then HBW.out hb4 hsr)
          clear hd4 he4 hb4
          go_wp2
          go_roundw
          case rel => exact ⟨b, a % b, HY4.out, HE4.out, hb, by have := Nat.mod_le a b; omega, by rw [← HG.out, Nat.gcd_comm b, ← Nat.gcd_rec, Nat.gcd_comm], HB4.out⟩
          case measure => rw [HNY.out, HE4.out.num]; exact Nat.mod_lt _ hb0
    · have hb0 : b = 0 := digs_len0.1 (by rw [← hdy.out]; omega)
      have hga : Nat.gcd X Y = a := by rw [← HG.out, hb0, Nat.gcd_zero_right]
      have HGA := Lib.hid hga
      clear hga
      go_wp2
      go_ret
      exact ⟨_, rfl, by rw [HGA.out]; exact HX.out, HBW.out⟩
end Go.Proofs.YtpinhcdcnaaihaaGreatDoor
namespace Go.Proofs.YtpinhcdcnaaihaaGreatDoor
open Go.RowKit
def IsQ (W : World) (v : Value) (ng : Bool) (N D : Nat) : Prop := ∃ vn vd, v = .agg #[.bool ng, vn, vd] ∧ IsD W vn N ∧ IsD W vd D
def mkq (ng : Bool) (N D : Nat) : Rat := mkRat (if ng then -(N : Int) else (N : Int)) D
theorem mkq_zero (ng : Bool) (D : Nat) : mkq ng 0 D = 0 := by cases ng <;> simp [mkq]
theorem mkq_den0 (ng : Bool) (N : Nat) : mkq ng N 0 = 0 := by simp [mkq]
theorem mkq_self (q : Rat) : mkq (decide (q.num < 0)) q.num.natAbs q.den = q := by
  unfold mkq
  have : (if decide (q.num < 0) = true then -(q.num.natAbs : Int) else (q.num.natAbs : Int)) = q.num := by
    by_cases h : q.num < 0
    · simp only [h, decide_true, if_true]; omega
    · simp only [h, decide_false]; simp; omega
  rw [this]
  exact Rat.mkRat_self q
theorem mkq_parts (ng : Bool) {N D : Nat} (hN : 0 < N) (hD : 0 < D) : decide ((mkq ng N D).num < 0) = ng ∧ (mkq ng N D).num.natAbs = N / Nat.gcd N D ∧ (mkq ng N D).den = D / Nat.gcd N D := by
  have hD0 : D ≠ 0 := by omega
  have e1 := Rat.num_mkRat (if ng then -(N : Int) else (N : Int)) D
  have e2 := Rat.den_mkRat (if ng then -(N : Int) else (N : Int)) D
  rw [if_neg hD0] at e1 e2
  have ha : (if ng then -(N : Int) else (N : Int)).natAbs = N := by cases ng <;> simp
  rw [ha, Nat.gcd_comm] at e1 e2
  have hg0 : 0 < Nat.gcd N D := Nat.gcd_pos_of_pos_left _ hN
  obtain ⟨m, hm⟩ := Nat.gcd_dvd_left N D
  obtain ⟨g, hg⟩ : ∃ g, Nat.gcd N D = g := ⟨_, rfl⟩
  rw [hg] at e1 e2 hg0 hm ⊢
  have hm0 : 0 < m := by
    rcases Nat.eq_zero_or_pos m with h | h
    · rw [h] at hm; simp at hm; omega
    · exact h
  have hdiv : N / g = m := by rw [hm, Nat.mul_div_cancel_left _ hg0]
  have e3 : (mkq ng N D).num = if ng then -(m : Int) else (m : Int) := by
    unfold mkq
    rw [e1]
    cases ng
    · simp only [Bool.false_eq_true, if_false]
      rw [← Int.natCast_ediv, hdiv]
    · simp only [if_true]
      rw [hm, Int.natCast_mul, Int.neg_mul_eq_mul_neg, Int.mul_ediv_cancel_left _ (by omega)]
  refine ⟨?_, ?_, e2⟩
  · rw [e3]; cases ng <;> simp <;> omega
  · rw [e3, hdiv]; cases ng <;> simp
theorem digs_last : ∀ {n : Nat}, n ≠ 0 → (digs n).getD ((digs n).length - 1) 0 ≠ 0 := by
  intro n
  induction n using Nat.strongRecOn with
  | ind n ih =>
    intro h
    rw [digs_step h]
    by_cases h1 : n / 4294967296 = 0
    · rw [h1, digs_zero]
      simp; omega
    · have := ih (n / 4294967296) (by omega) h1
      have hl : 0 < (digs (n / 4294967296)).length := by
        rcases Nat.eq_zero_or_pos (digs (n / 4294967296)).length with h2 | h2
        · exact absurd (digs_len0.1 h2) h1
        · exact h2
      rw [List.length_cons, show (digs (n / 4294967296)).length + 1 - 1 = (digs (n / 4294967296)).length - 1 + 1 by omega]
      simpa [List.getD] using this
theorem nbits_zero {n : Nat} : nbits n = 0 ↔ n = 0 := by
  constructor
  · intro h
    rcases Nat.eq_zero_or_pos n with h0 | h0
    · exact h0
    · exfalso
      unfold nbits at h
      rw [if_neg (by omega)] at h
      have h1 := digs_last (n := n) (by omega)
      have h2 : (digs n).getD ((digs n).length - 1) 0 < 2 ^ 64 := by
        rw [List.getD]
        cases h3 : (digs n)[(digs n).length - 1]? with
        | none => simp
        | some d =>
          have := digs_lt n d (List.mem_of_getElem? h3)
          simp
          have e : (2 : Nat) ^ 64 = 18446744073709551616 := by decide
          omega
      have := bitLen_pos (d := (digs n).getD ((digs n).length - 1) 0) (by omega) h2
      omega
  · rintro rfl; rfl
structure Fit (L : Nat) (q : Rat) : Prop where
  num : (digs q.num.natAbs).length ≤ L
  den : (digs q.den).length ≤ L
end Go.Proofs.YtpinhcdcnaaihaaGreatDoor
namespace Go.Proofs.YtpinhcdcnaaihaaGreatDoor
open Go.RowKit
structure Col where
  name : ByteArray
  ty : Int
  key : Bool
structure Sch where
  name : ByteArray
  cert : Bool
  cols : List Col
structure Tp where
  vals : List V
  prob : Rat
structure Rel where
  sch : Sch
  tups : List Tp
def V.tree (v : V) : Tree := .agg [.sc (.int .i64 v.t), .sc (.int .i64 v.n), .sc (.string v.s)]
def natT (n : Nat) : Tree := .sl ((digs n).map fun d => .sc (.int .u32 (d : Nat)))
def fracT (ng : Bool) (N D : Nat) : Tree := .agg [.sc (.bool ng), natT N, natT D]
def ratT (q : Rat) : Tree := fracT (decide (q.num < 0)) q.num.natAbs q.den
theorem V.sized (l : List V) : Sized 3 (l.map V.tree) := Sized.map _ l fun _ => rfl
theorem map_get {α : Type} {f : α → Tree} {l : List α} {i : Nat} {a : α} (h : l[i]? = some a) : (l.map f)[i]? = some (f a) := by rw [List.getElem?_map, h]; rfl
end Go.Proofs.YtpinhcdcnaaihaaGreatDoor
namespace Go.Proofs.YtpinhcdcnaaihaaGreatDoor
open Go.RowKit
def fmtL (t n : Int) (s : ByteArray) : List UInt8 :=
  if validB t n s then (if t = 1 then Lib.itoa n else [39] ++ dbl s.data.toList ++ [39]) else []
theorem format_bad (t n : Int) (s : ByteArray) (w : World) (h : validB t n s = false) :
    Calls Tryz.prog 23 #[.agg #[.int .i64 t, .int .i64 n, .string s]] w fun e w' => e = .returned (.string ⟨(fmtL t n s).toArray⟩) ∧ Below w.heap.size w w' := by
  have HF := Lib.hid (show fmtL t n s = [] by simp [fmtL, h])
  have hv : ∀ w : World, Calls Tryz.prog 59 #[.agg #[.int .i64 t, .int .i64 n, .string s]] w fun e w' => e = .returned (.bool false) ∧ Below w.heap.size w w' := fun w => by
    have := valid_any t n s w; rwa [h] at this
  have HV := Lib.hid hv; clear hv h
  go_enter Tryz.func23, Tryz.ntmps23
  go_wp2_with (go_at_call 59; refine (HV.out _).mono ?_; rintro e w' ⟨rfl, hb⟩)
  go_ret
  exact ⟨by rw [HF.out]; rfl, ((Below.refl _ _).alloc (Nat.le_refl _) _).trans (hb.mono (by simp))⟩
theorem format_int (n : Int) (s : ByteArray) (w : World) (h : validB 1 n s = true) (h0 : -9223372036854775808 ≤ n) (h1 : n ≤ 9223372036854775807) (hE : Env w) :
    Calls Tryz.prog 23 #[.agg #[.int .i64 1, .int .i64 n, .string s]] w fun e w' => e = .returned (.string ⟨(fmtL 1 n s).toArray⟩) ∧ Below w.heap.size w w' := by
  have HF := Lib.hid (show fmtL 1 n s = Lib.itoa n by simp [fmtL, h])
  have hv : ∀ w : World, Calls Tryz.prog 59 #[.agg #[.int .i64 1, .int .i64 n, .string s]] w fun e w' => e = .returned (.bool true) ∧ Below w.heap.size w w' := fun w => by
    have := valid_any 1 n s w; rwa [h] at this
  have HV := Lib.hid hv; clear hv h
  have HE := Lib.hid hE; clear hE
  obtain ⟨W, hW, hb, hz, c0, c1, c2⟩ := box1 w 34 (.int .i64 1) (.int .i64 n) (.string s)
  have HW := Lib.hid hW; clear hW
  have HZ := Lib.hid hz; clear hz
  go_enter Tryz.func23, Tryz.ntmps23
  go_wp2_with fail
  rw [HW.out]
  refine (HV.out _).mono ?_
  rintro e w1 ⟨rfl, hb1⟩
  have d0 := (hb1.cell (p := ⟨w.heap.size, 0, none⟩) (by simp [HZ.out])).trans c0
  have d1 := (hb1.cell (p := ⟨w.heap.size, 1, none⟩) (by simp [HZ.out])).trans c1
  have hb2 : Below w.heap.size w w1 := hb.trans (hb1.mono (by rw [HZ.out]; omega))
  go_wp2_with fail
  refine (formatInt_any n _ h0 h1 (HE.out.below hb2 (Nat.le_refl _))).mono ?_
  rintro e w2 ⟨rfl, hb3⟩
  go_wp2
  go_ret
  exact ⟨by rw [HF.out]; rfl, hb2.trans (hb3.mono hb2.size)⟩
theorem format_str (n : Int) (s : ByteArray) (w : World) (h : validB 2 n s = true) (hE : Env w) :
    Calls Tryz.prog 23 #[.agg #[.int .i64 2, .int .i64 n, .string s]] w fun e w' => e = .returned (.string ⟨(fmtL 2 n s).toArray⟩) ∧ Below w.heap.size w w' := by
  have HF := Lib.hid (show fmtL 2 n s = [39] ++ dbl s.data.toList ++ [39] by simp [fmtL, h])
  have hs : s.size ≤ 64 := by simp [validB] at h; omega
  have hv : ∀ w : World, Calls Tryz.prog 59 #[.agg #[.int .i64 2, .int .i64 n, .string s]] w fun e w' => e = .returned (.bool true) ∧ Below w.heap.size w w' := fun w => by
    have := valid_any 2 n s w; rwa [h] at this
  have HV := Lib.hid hv; clear hv h
  have HE := Lib.hid hE; clear hE
  obtain ⟨W, hW, hb, hz, c0, c1, c2⟩ := box1 w 34 (.int .i64 2) (.int .i64 n) (.string s)
  have HW := Lib.hid hW; clear hW
  have HZ := Lib.hid hz; clear hz
  go_enter Tryz.func23, Tryz.ntmps23
  go_wp2_with fail
  rw [HW.out]
  refine (HV.out _).mono ?_
  rintro e w1 ⟨rfl, hb1⟩
  have d0 := (hb1.cell (p := ⟨w.heap.size, 0, none⟩) (by simp [HZ.out])).trans c0
  have d2 := (hb1.cell (p := ⟨w.heap.size, 2, none⟩) (by simp [HZ.out])).trans c2
  have hb2 : Below w.heap.size w w1 := hb.trans (hb1.mono (by rw [HZ.out]; omega))
  go_wp2_with fail
  refine (replaceAll_any s ⟨#[39]⟩ ⟨#[39, 39]⟩ _ (by omega) (by decide) (by decide) (HE.out.below hb2 (Nat.le_refl _))).mono ?_
  rintro e w2 ⟨rfl, hb3⟩
  have e1 : Lib.replaceAll s.data.toList [39] [39, 39] = dbl s.data.toList := by rw [replaceAll_rep _ (by decide), rep_dbl]
  simp only [e1]
  clear e1
  have hd : (dbl s.data.toList).length ≤ 128 := by have := dbl_length_le s.data.toList; simp at this; omega
  go_wp2
  go_ret
  refine ⟨?_, hb2.trans (hb3.mono hb2.size)⟩
  rw [HF.out, ← app_mk, ← app_mk]
  rfl
theorem format_any (t n : Int) (s : ByteArray) (w : World) (h0 : -9223372036854775808 ≤ n) (h1 : n ≤ 9223372036854775807) (hE : Env w) :
    Calls Tryz.prog 23 #[.agg #[.int .i64 t, .int .i64 n, .string s]] w fun e w' => e = .returned (.string ⟨(fmtL t n s).toArray⟩) ∧ Below w.heap.size w w' := by
  cases h : validB t n s
  · exact format_bad t n s w h
  · by_cases ht : t = 1
    · subst ht; exact format_int n s w h h0 h1 hE
    · have : t = 2 := by simp [validB, ht] at h; exact h.1.1.1
      subst this; exact format_str n s w h hE
end Go.Proofs.YtpinhcdcnaaihaaGreatDoor
namespace Go.Proofs.YtpinhcdcnaaihaaGreatDoor
open Go.RowKit
theorem two_of_valid {t n : Int} {st : ByteArray} (ht : t ≠ 1) (h : validB t n st = true) : t = 2 ∧ n = 0 ∧ st.size ≤ 64 ∧ st.data.toList.all okB = true := by
  simp [validB, ht] at h
  exact ⟨h.1.1.1, h.1.1.2, h.1.2, by simpa using h.2⟩
end Go.Proofs.YtpinhcdcnaaihaaGreatDoor
namespace Go.Proofs.YtpinhcdcnaaihaaGreatDoor
open Go.RowKit
def Enters (f : FuncId) : Prop := ∃ fn, Tryz.prog.funcs[f]? = some fn ∧ (fn.name == "runtime.NumGoroutine") = false ∧ fn.body.isNone = false
theorem PT.uncons {W : World} {G : Nat → Prop} {vs : List Value} {t : Tree} {ts : List Tree} (h : PT W G vs (t :: ts)) : ∃ v us, vs = v :: us ∧ PT W G [v] [t] ∧ PT W G us ts := by
  cases vs with
  | nil => cases h
  | cons v us => exact ⟨v, us, rfl, h.head, h.tail⟩
theorem pt_args1 {W : World} {G : Nat → Prop} {vs : List Value} {t : Tree} (h : PT W G vs [t]) : ∃ v, vs = [v] ∧ PT W G [v] [t] := by
  obtain ⟨v, us, rfl, h1, h2⟩ := h.uncons
  cases h2
  exact ⟨v, rfl, h1⟩
theorem pt_args2 {W : World} {G : Nat → Prop} {vs : List Value} {t u : Tree} (h : PT W G vs [t, u]) : ∃ v x, vs = [v, x] ∧ PT W G [v] [t] ∧ PT W G [x] [u] := by
  obtain ⟨v, us, rfl, h1, h2⟩ := h.uncons
  obtain ⟨x, rfl, h3⟩ := pt_args1 h2
  exact ⟨v, x, rfl, h1, h3⟩
theorem pt_args3 {W : World} {G : Nat → Prop} {vs : List Value} {t u r : Tree} (h : PT W G vs [t, u, r]) : ∃ v x y, vs = [v, x, y] ∧ PT W G [v] [t] ∧ PT W G [x] [u] ∧ PT W G [y] [r] := by
  obtain ⟨v, us, rfl, h1, h2⟩ := h.uncons
  obtain ⟨x, y, rfl, h3, h4⟩ := pt_args2 h2
  exact ⟨v, x, y, rfl, h1, h3, h4⟩
theorem flat_ones {α : Type} (f : α → Tree) (h : ∀ a, (f a).cells = [f a]) : ∀ l : List α, flat (l.map f) = l.map f
  | [] => rfl
  | a :: l => by rw [List.map_cons, flat_cons, h a, flat_ones f h l]; rfl
theorem digT_cells {W : World} {G : Nat → Prop} : ∀ {l : List Nat} {xs : List Value}, PT W G xs (l.map fun d => .sc (.int .u32 (d : Nat))) → xs = cellsN l
  | [], xs, h => by cases h; rfl
  | _ :: l, xs, h => by
    cases h with
    | sc v h => rw [digT_cells h]; rfl
theorem digT_pt (W : World) (G : Nat → Prop) : ∀ l : List Nat, PT W G (cellsN l) (l.map fun d => .sc (.int .u32 (d : Nat)))
  | [] => .nil
  | _ :: l => .sc _ (digT_pt W G l)
theorem pt_isD {W : World} {G : Nat → Prop} {v : Value} {n : Nat} (h : PT W G [v] [natT n]) : IsD W v n := by
  obtain ⟨A, c, h1, h2, h3, h4, h5⟩ := PT.slice h
  rw [List.length_map] at h1 h2 h5
  refine ⟨A, c, h1, fun hp => ?_, fun e => ⟨?_, h4 e⟩, h2, h3, digs_lt n⟩
  · obtain ⟨b, off, xs, rfl, hb, _, hc, hx⟩ := h5 (by simpa [cellsN] using hp)
    rw [flat_ones _ (fun _ => rfl)] at hx
    rw [← digT_cells hx]
    exact ⟨b, off, rfl, hb, hc⟩
  · rcases Nat.eq_zero_or_pos (digs n).length with h0 | h0
    · exact h0
    · obtain ⟨b, off, xs, e', _⟩ := h5 h0
      rw [e] at e'; cases e'
def OkG (G : Nat → Prop) (W : World) : Prop := ∀ g, G g → g < W.heap.size ∧ NoDigB W g
theorem OkG.later {G : Nat → Prop} {W W' : World} (h : OkG G W) (hb : Below W.heap.size W W') : OkG G W' := fun g hg => ⟨Nat.lt_of_lt_of_le (h g hg).1 hb.size, (h g hg).2.of (hb.block g (h g hg).1)⟩
theorem isD_pt {W : World} {G : Nat → Prop} {v : Value} {n : Nat} (hG : OkG G W) (h : IsD W v n) : PT W G [v] [natT n] := by
  obtain ⟨A, c, rfl, hi⟩ := h
  unfold natT
  by_cases h0 : (digs n).length = 0
  · have e : digs n = [] := List.eq_nil_of_length_eq_zero h0
    rw [e]
    exact .sl0 A c (fun e => (hi.nil e).2) hi.max .nil
  · obtain ⟨b, off, rfl, hb, hc⟩ := hi.digit (i := 0) (by omega)
    refine .sl b off c _ (cellsN (digs n)) _ hb (fun hg => ?_) (fun j u hu => ?_) (by simp) (by simpa using hi.cap) hi.max ?_ .nil
    · have := (hG b hg).2 _ _ (hc 0 (by omega))
      simp [noDigV] at this
    · simp only [cellsN, List.getElem?_map, Option.map_eq_some_iff] at hu
      obtain ⟨d, hd, rfl⟩ := hu
      obtain ⟨hj, rfl⟩ := List.getElem?_eq_some_iff.1 hd
      exact hc j hj
    · rw [flat_ones _ (fun _ => rfl)]
      exact digT_pt W G _
theorem pt_isQ {W : World} {G : Nat → Prop} {v : Value} {ng : Bool} {N D : Nat} (h : PT W G [v] [fracT ng N D]) : IsQ W v ng N D := by
  cases h with
  | agg xs cs hx _ =>
    obtain ⟨a, b, c, rfl, h1, h2, h3⟩ := pt_args3 hx
    cases h1
    exact ⟨b, c, rfl, pt_isD h2, pt_isD h3⟩
theorem isQ_pt {W : World} {G : Nat → Prop} {v : Value} {ng : Bool} {N D : Nat} (hG : OkG G W) (h : IsQ W v ng N D) : PT W G [v] [fracT ng N D] := by
  obtain ⟨vn, vd, rfl, h1, h2⟩ := h
  exact .agg [.bool ng, vn, vd] _ (.sc _ ((isD_pt hG h1).cons ((isD_pt hG h2).cons .nil))) .nil
theorem pt_val {W : World} {G : Nat → Prop} {u : Value} {v : V} (h : PT W G [u] [v.tree]) : u = .agg #[.int .i64 v.t, .int .i64 v.n, .string v.s] := by
  cases h with
  | agg xs cs hx _ =>
    obtain ⟨a, b, c, rfl, h1, h2, h3⟩ := pt_args3 hx
    cases h1
    cases h2
    cases h3
    rfl
theorem Ct.sc {f : FuncId} {args : List Tree} {r : Value} (he : Enters f) (h : ∀ (G : Nat → Prop) (w : World) (vs : List Value), Env w → OkG G w → PT w G vs args → Calls Tryz.prog f vs.toArray w fun e w' => e = .returned r ∧ Below w.heap.size w w') : Ct f args (.sc r) :=
  ⟨he, fun G w vs hE hG hp => (h G w vs hE hG hp).mono fun _ _ ⟨h1, h2⟩ => ⟨r, h1, .sc _ .nil, h2⟩⟩
theorem Ct.scG {f : FuncId} {args : List Tree} {r : Value} (he : Enters f) (h : ∀ (G : Nat → Prop) (w : World) (vs : List Value), Env w → OkG G w → PT w G vs args → Calls Tryz.prog f vs.toArray w (Gives (fun _ v => v = r) w)) : Ct f args (.sc r) :=
  ⟨he, fun G w vs hE hG hp => (h G w vs hE hG hp).mono fun _ _ ⟨v, h1, h2, h3⟩ => ⟨v, h1, by rw [h2]; exact .sc _ .nil, h3⟩⟩
theorem Ct.gives {f : FuncId} {args : List Tree} {r : Tree} {K : World → Value → Prop} (he : Enters f) (hK : ∀ (G : Nat → Prop) (W : World) (v : Value), OkG G W → K W v → PT W G [v] [r]) (h : ∀ (G : Nat → Prop) (w : World) (vs : List Value), Env w → OkG G w → PT w G vs args → Calls Tryz.prog f vs.toArray w (Gives K w)) : Ct f args r :=
  ⟨he, fun G w vs hE hG hp => (h G w vs hE hG hp).mono fun _ w' ⟨v, h1, h2, h3⟩ => ⟨v, h1, hK G w' v (OkG.later hG h3) h2, h3⟩⟩
theorem bitLenL_ct (n : Nat) (hn : (digs n).length ≤ 1048576) : Ct 155 [natT n] (.sc (.int .i64 (nbits n))) := Ct.scG ⟨_, Tryz.func155, rfl, rfl⟩ fun G w vs _ _ hp => by
  obtain ⟨u, rfl, h⟩ := pt_args1 hp
  exact bitLenD (pt_isD h) (by omega)
theorem fromU_ct (n : Nat) (hn : n < 18446744073709551616) : Ct 204 [.sc (.int .u64 (n : Nat))] (natT n) := Ct.gives ⟨_, Tryz.func204, rfl, rfl⟩ (fun _ _ _ hG h => isD_pt hG h) fun G w vs _ _ hp => by
  obtain ⟨u, rfl, h⟩ := pt_args1 hp
  cases h
  exact fromU_any n w hn
end Go.Proofs.YtpinhcdcnaaihaaGreatDoor
