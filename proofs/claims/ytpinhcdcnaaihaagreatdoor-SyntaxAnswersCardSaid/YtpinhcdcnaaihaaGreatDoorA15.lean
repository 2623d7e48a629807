import Derived.Test.YtpinhcdcnaaihaaGreatDoorA14
import Derived.Laws.CopyOwn
namespace Go.Proofs.YtpinhcdcnaaihaaGreatDoor
open Go.RowKit
set_option maxRecDepth 100000 in
set_option maxHeartbeats 1000000 in
theorem natOf_any (n : Nat) (w : World) (hn : n < 18446744073709551616) : Calls Tryz.prog 21 #[.int .u64 n] w (NatPost n w) := by
  have hv : nval [n % 4294967296, n / 4294967296] = n := by simp only [nval]; omega
  have hd : Digs [n % 4294967296, n / 4294967296] := fun d hd => by
    simp only [List.mem_cons, List.mem_nil_iff, or_false] at hd
    rcases hd with rfl | rfl <;> omega
  obtain ⟨W, hW, hbW, hgW, hzW⟩ := blk1 w 114 #[.int .u32 ((n : Int) % 4294967296), .int .u32 ((n : Int) / 4294967296)]
  have hi : IsN W (some ⟨w.heap.size, 0, none⟩) 2 [n % 4294967296, n / 4294967296] := by
    refine ⟨fun _ => ⟨w.heap.size, 0, rfl, by omega, fun j u hu => ?_⟩, fun e => (by cases e), by simp, by omega, hd⟩
    rw [Nat.zero_add, hgW.cell j, ← hu]
    simp [cellsN]
  have HNM := Lib.hid (norm_any (some ⟨w.heap.size, 0, none⟩) 2 [n % 4294967296, n / 4294967296] W hi (by simp))
  rw [hv] at HNM
  have HW := Lib.hid hW
  have HB := Lib.hid hbW
  have hs := hbW.size
  clear hv hd hi hW hbW hgW hzW
  go_enter Tryz.func21, Tryz.ntmps21
  go_wp2_with fail
  rw [HW.out]
  refine HNM.out.mono ?_
  rintro e w1 ⟨v1, rfl, ho1, hb1⟩
  have HO1 := Lib.hid (ho1.base_le hs)
  have HB1 := Lib.hid (HB.out.trans (hb1.mono hs))
  clear ho1 hb1
  go_wp2
  go_ret
  exact ⟨v1, rfl, HO1.out, HB1.out⟩
theorem ofIs {P : Program} {f : FuncId} {w : World} {n : Nat} {x : Int} (h : x = (n : Int)) (hc : Calls P f #[.int .u64 (n : Int)] w (NatPost n w)) : Calls P f #[.int .u64 x] w (NatPost n w) := by subst h; exact hc
set_option maxRecDepth 100000 in
set_option maxHeartbeats 1000000 in
theorem size_any (n : Int) (w : World) (h0 : -9223372036854775808 ≤ n) (h1 : n ≤ 9223372036854775807) : Calls Tryz.prog 54 #[.int .i64 n] w (NatPost n.natAbs w) := by
  have HC := Lib.hid (fun w => natOf_any n.natAbs w (by omega))
  by_cases hn : n < 0
  · go_enter Tryz.func54, Tryz.ntmps54
    go_wp2_with fail
    refine (ofIs (n := n.natAbs) (by omega) (HC.out _)).mono ?_
    rintro e w1 ⟨v1, rfl, ho1, hb1⟩
    have HO1 := Lib.hid ho1
    have HB1 := Lib.hid hb1
    clear ho1 hb1
    go_wp2
    go_ret
    exact ⟨v1, rfl, HO1.out, HB1.out⟩
  · have hn' : 0 ≤ n := by omega
    go_enter Tryz.func54, Tryz.ntmps54
    go_wp2_with fail
    refine (ofIs (n := n.natAbs) (by omega) (HC.out _)).mono ?_
    rintro e w1 ⟨v1, rfl, ho1, hb1⟩
    have HO1 := Lib.hid ho1
    have HB1 := Lib.hid hb1
    clear ho1 hb1
    go_wp2
    go_ret
    exact ⟨v1, rfl, HO1.out, HB1.out⟩
theorem gcdN {wr : World} {A B : Option Addr} {c d m n : Nat} (h : IsN wr A c (digs m)) (h' : IsN wr B d (digs n)) (hl : (digs m).length ≤ 1048576) (hl' : (digs n).length ≤ 1048576) : Calls Tryz.prog 55 #[.slice A (digs m).length c, .slice B (digs n).length d] wr (NatPost (Nat.gcd m n) wr) := by
  have := gcd_any A B c d (digs m) (digs n) wr h h' (by omega) (by omega)
  rwa [nval_digs, nval_digs] at this
theorem divN {wr : World} {A B : Option Addr} {c d m n : Nat} (h : IsN wr A c (digs m)) (h' : IsN wr B d (digs n)) (hl : (digs m).length ≤ 1048576) (hl' : (digs n).length ≤ 1048576) (hn : 0 < n) : Calls Tryz.prog 56 #[.slice A (digs m).length c, .slice B (digs n).length d] wr (DivPost m n wr) := by
  have := divmod_any A B c d (digs m) (digs n) wr h h' (by omega) (by omega) (by rw [nval_digs]; exact hn)
  rwa [nval_digs, nval_digs] at this
def IsD (W : World) (v : Value) (n : Nat) : Prop := ∃ A c, v = .slice A (digs n).length c ∧ IsN W A c (digs n)
theorem IsD.below {W W' : World} {v : Value} {n : Nat} (h : IsD W v n) (hb : Below W.heap.size W W') : IsD W' v n := by
  obtain ⟨A, c, e, hi⟩ := h
  exact ⟨A, c, e, hi.below hb⟩
def FracPost (ng : Bool) (N D : Nat) (w : World) (e : Ending) (w' : World) : Prop := ∃ vn vd, e = .returned (.agg #[.bool ng, vn, vd]) ∧ OwnN w' w.heap.size vn (digs N) ∧ OwnN w' w.heap.size vd (digs D) ∧ Below w.heap.size w w'
set_option maxRecDepth 100000 in
set_option maxHeartbeats 2000000 in
theorem frac_any (neg : Bool) (A B : Option Addr) (ca cb X Y : Nat) (w : World) (hA : IsN w A ca (digs X)) (hB : IsN w B cb (digs Y)) (hlx : (digs X).length ≤ 1048576) (hly : (digs Y).length ≤ 1048576) (hY : 0 < Y) :
    Calls Tryz.prog 20 #[.bool neg, .slice A (digs X).length ca, .slice B (digs Y).length cb] w (FracPost (neg && decide (X ≠ 0)) (X / Nat.gcd X Y) (Y / Nat.gcd X Y) w) := by
  have HA := Lib.hid hA
  have HB := Lib.hid hB
  clear hA hB
  obtain ⟨W, hW, hbW, hgW, hzW⟩ := blk1 w 27 #[.bool false, .slice none 0 0, .slice none 0 0]
  have HW := Lib.hid hW
  have HBW := Lib.hid hbW
  have HGW := Lib.hid hgW
  have hsW := hbW.size
  have hzz : w.heap.size < W.heap.size := by omega
  clear hW hbW hgW hzW
  have hg0 : 0 < Nat.gcd X Y := Nat.gcd_pos_of_pos_right _ hY
  have hgY : Nat.gcd X Y ≤ Y := Nat.gcd_le_right _ hY
  have hnz : X / Nat.gcd X Y = 0 ↔ X = 0 := by
    constructor
    · intro h
      have h1 := Nat.div_mul_cancel (Nat.gcd_dvd_left X Y)
      rw [h] at h1; omega
    · intro h; rw [h]; simp
  have hdz : Y / Nat.gcd X Y ≠ 0 := by
    intro h
    have h1 := Nat.div_mul_cancel (Nat.gcd_dvd_right X Y)
    rw [h] at h1; omega
  have hxl : (digs (X / Nat.gcd X Y)).length ≤ 1048576 := Nat.le_trans (digs_length_mono (Nat.div_le_self _ _)) hlx
  have hgl : (digs (Nat.gcd X Y)).length ≤ 1048576 := Nat.le_trans (digs_length_mono hgY) hly
  generalize hg : Nat.gcd X Y = g at *
  have HNZ := Lib.hid hnz
  have HDZ := Lib.hid hdz
  have HGG := Lib.hid hg
  clear hnz hdz hg
  go_enter Tryz.func20, Tryz.ntmps20
  go_wp2_with fail
  rw [HW.out]
  refine (gcdN (HA.out.below HBW.out) (HB.out.below HBW.out) hlx hly).mono ?_
  intro e w1 h1
  rw [HGG.out] at h1
  obtain ⟨A1, c1, rfl, hi1, hb1⟩ := h1.open_
  have HI1 := Lib.hid hi1
  have HB1 := Lib.hid (below_then HBW.out hb1 hsW)
  have hs1 : w.heap.size ≤ w1.heap.size := Nat.le_trans hsW hb1.size
  have hz1 : w.heap.size < w1.heap.size := Nat.lt_of_lt_of_le hzz hb1.size
  have HG1 := Lib.hid (HGW.out.below hb1 HGW.out.lt)
  clear h1 hi1 hb1
  go_wp2_with fail
  refine (divN (HA.out.below HB1.out) HI1.out hlx hgl hg0).mono ?_
  rintro e w2 ⟨q2, r2, rfl, hq2, hr2, hb2⟩
  obtain ⟨A2, c2, e2, hi2⟩ := hq2.is (digs_lt _)
  subst e2
  have HI2 := Lib.hid hi2
  have HB2 := Lib.hid (below_then HB1.out hb2 hs1)
  have hs2 : w.heap.size ≤ w2.heap.size := Nat.le_trans hs1 hb2.size
  have HG2 := Lib.hid (HG1.out.below hb2 HG1.out.lt)
  have HI12 := Lib.hid (HI1.out.below hb2)
  have HO2 := Lib.hid (hq2.base_le (Nat.succ_le_of_lt hz1))
  have hz2 : w.heap.size < w2.heap.size := Nat.lt_of_lt_of_le hz1 hb2.size
  clear hq2 hr2 hi2 hb2
  go_wp2_with fail
  refine (divN (HB.out.below HB2.out) HI12.out hly hgl hg0).mono ?_
  rintro e w3 ⟨q3, r3, rfl, hq3, hr3, hb3⟩
  obtain ⟨A3, c3, e3, hi3⟩ := hq3.is (digs_lt _)
  subst e3
  have HI3 := Lib.hid hi3
  have HB3 := Lib.hid (below_then HB2.out hb3 hs2)
  have hs3 : w.heap.size ≤ w3.heap.size := Nat.le_trans hs2 hb3.size
  have HG3 := Lib.hid (HG2.out.below hb3 HG2.out.lt)
  have HO23 := Lib.hid (HO2.out.below hb3)
  have HO3 := Lib.hid (hq3.base_le (Nat.succ_le_of_lt hz2))
  have hz3 : w.heap.size < w3.heap.size := Nat.lt_of_lt_of_le hz2 hb3.size
  clear hq3 hr3 hi3 hb3
  have hdl : (((digs (Y / g)).length : Int) == 0) = false := by rw [beq_eq_false_iff_ne]; intro h; exact HDZ.out (digs_len0.1 (by omega))
  by_cases hX0 : X = 0
  · have HX0 := Lib.hid hX0
    have g1 : (((digs (X / g)).length : Int) == 0) = true := by rw [beq_iff_eq]; have := digs_len0.2 (HNZ.out.2 hX0); omega
    clear hX0
    go_wp2_with fail
    refine (natOf_any 1 _ (by omega)).mono ?_
    rintro e w4 ⟨v4, rfl, ho4, hb4⟩
    have HO4 := Lib.hid (ho4.base_le (Nat.succ_le_of_lt hz3))
    have HB4 := Lib.hid (below_then HB3.out hb4 hs3)
    have HG4 := Lib.hid (HG3.out.below hb4 HG3.out.lt)
    obtain ⟨d1, d2, d3, f1, f2, f3⟩ := HG4.out.three
    obtain ⟨A4, c4, e4, _⟩ := ho4.is (digs_lt 1)
    subst e4
    clear ho4 hb4
    go_wp2
    clear d1 d2 d3 f1 f2 f3
    obtain ⟨w6, h6, hg6, hb6, hz6, hk6⟩ := store3 HG4.out (.bool false) (.slice none 0 0) (.slice A4 (digs 1).length c4)
    rw [h6]
    obtain ⟨d0, d1, d2, _, _, _⟩ := hg6.three
    have ho6 : OwnN w6 (w.heap.size + 1) (.slice A4 (digs 1).length c4) (digs 1) := own_other HO4.out (own_off HO4.out (Nat.lt_succ_self _)) hk6
    refine bodyPost_ret (v := .agg #[.bool false, .slice none 0 0, .slice A4 (digs 1).length c4]) (by simp [results, Tryz.results20, go_sem, d0, d1, d2]) rfl ⟨.slice none 0 0, .slice A4 (digs 1).length c4, by rw [HX0.out]; simp, ?_, ?_, HB4.out.trans hb6⟩
    · rw [HNZ.out.2 HX0.out]
      exact OwnN.nil _ _
    · have e : Y / g = 1 := by
        have h1 := HGG.out
        rw [HX0.out, Nat.gcd_zero_left] at h1
        rw [← h1]; exact Nat.div_self hY
      rw [e]
      exact ho6.base_le (Nat.le_succ _)
  · have HX0 := Lib.hid hX0
    have g1 : (((digs (X / g)).length : Int) == 0) = false := by rw [beq_eq_false_iff_ne]; intro h; exact hX0 (HNZ.out.1 (digs_len0.1 (by omega)))
    clear hX0
    obtain ⟨d1, d2, d3, f1, f2, f3⟩ := HG3.out.three
    go_wp2
    clear d1 d2 d3 f1 f2 f3
    obtain ⟨w6, h6, hg6, hb6, hz6, hk6⟩ := store3 HG3.out (.bool neg) (.slice A2 (digs (X / g)).length c2) (.slice A3 (digs (Y / g)).length c3)
    rw [h6]
    obtain ⟨d0, d1, d2, _, _, _⟩ := hg6.three
    have ho2 : OwnN w6 (w.heap.size + 1) (.slice A2 (digs (X / g)).length c2) (digs (X / g)) := own_other HO23.out (own_off HO23.out (Nat.lt_succ_self _)) hk6
    have ho3 : OwnN w6 (w.heap.size + 1) (.slice A3 (digs (Y / g)).length c3) (digs (Y / g)) := own_other HO3.out (own_off HO3.out (Nat.lt_succ_self _)) hk6
    refine bodyPost_ret (v := .agg #[.bool neg, .slice A2 (digs (X / g)).length c2, .slice A3 (digs (Y / g)).length c3]) (by simp [results, Tryz.results20, go_sem, d0, d1, d2]) rfl ⟨_, _, ?_, ho2.base_le (Nat.le_succ _), ho3.base_le (Nat.le_succ _), HB3.out.trans hb6⟩
    have hx := HX0.out
    simp [hx]
set_option maxRecDepth 100000 in
set_option maxHeartbeats 1000000 in
theorem fracNorm_any (neg : Bool) (A B : Option Addr) (ca cb X Y : Nat) (w : World) (hA : IsN w A ca (digs X)) (hB : IsN w B cb (digs Y)) (hlx : (digs X).length ≤ 1048576) (hly : (digs Y).length ≤ 1048576) (hY : 0 < Y) :
    Calls Tryz.prog 66 #[.agg #[.bool neg, .slice A (digs X).length ca, .slice B (digs Y).length cb]] w (FracPost (neg && decide (X ≠ 0)) (X / Nat.gcd X Y) (Y / Nat.gcd X Y) w) := by
  have HA := Lib.hid hA
  have HB := Lib.hid hB
  clear hA hB
  obtain ⟨W, hW, hbW, hgW, hgW2, hzW⟩ := blk2 w 27 27 #[.bool neg, .slice A (digs X).length ca, .slice B (digs Y).length cb] #[.bool false, .slice none 0 0, .slice none 0 0]
  have HW := Lib.hid hW
  have HBW := Lib.hid hbW
  have HGW := Lib.hid hgW2
  have hsW := hbW.size
  have hzz : w.heap.size + 1 < W.heap.size := by omega
  clear hW hbW hgW hgW2 hzW
  have HFR := Lib.hid (frac_any neg A B ca cb X Y W (HA.out.below HBW.out) (HB.out.below HBW.out) hlx hly hY)
  go_enter Tryz.func66, Tryz.ntmps66
  go_wp2_with fail
  rw [HW.out]
  refine HFR.out.mono ?_
  rintro e w1 ⟨vn, vd, rfl, hon, hod, hb1⟩
  obtain ⟨An, cn, en, _⟩ := hon.is (digs_lt _)
  obtain ⟨Ad, cd, ed, _⟩ := hod.is (digs_lt _)
  subst en ed
  have HON := Lib.hid hon
  have HOD := Lib.hid hod
  have HB1 := Lib.hid (below_then HBW.out hb1 hsW)
  have HG1 := Lib.hid (HGW.out.below hb1 HGW.out.lt)
  obtain ⟨d1, d2, d3, f1, f2, f3⟩ := HG1.out.three
  clear hon hod hb1
  go_wp2
  clear d1 d2 d3 f1 f2 f3
  obtain ⟨w6, h6, hg6, hb6, hz6, hk6⟩ := store3 HG1.out (.bool (neg && decide (X ≠ 0))) (.slice An (digs (X / Nat.gcd X Y)).length cn) (.slice Ad (digs (Y / Nat.gcd X Y)).length cd)
  first
    | rw [h6]
    | (have h7 := h6; simp only [ne_eq, decide_not] at h7; rw [h7])
  obtain ⟨d0, d1, d2, _, _, _⟩ := hg6.three
  have ho2 := own_other HON.out (own_off HON.out hzz) hk6
  have ho3 := own_other HOD.out (own_off HOD.out hzz) hk6
  exact bodyPost_ret (v := .agg #[.bool (neg && decide (X ≠ 0)), .slice An (digs (X / Nat.gcd X Y)).length cn, .slice Ad (digs (Y / Nat.gcd X Y)).length cd]) (by simp [results, Tryz.results66, go_sem, d0, d1, d2]) rfl ⟨_, _, rfl, OwnN.base_le (l := digs (X / Nat.gcd X Y)) ho2 hsW, OwnN.base_le (l := digs (Y / Nat.gcd X Y)) ho3 hsW, HB1.out.trans (hb6.mono (by omega))⟩
def FracPost2 (ng : Bool) (N D : Nat) (w : World) (e : Ending) (w' : World) : Prop := ∃ vn vd, e = .returned (.tuple #[.agg #[.bool ng, vn, vd], .int .i64 0]) ∧ OwnN w' w.heap.size vn (digs N) ∧ OwnN w' w.heap.size vd (digs D) ∧ Below w.heap.size w w'
theorem abs_len (n : Int) (h0 : -9223372036854775808 ≤ n) (h1 : n ≤ 9223372036854775807) : (digs n.natAbs).length ≤ 2 := digs_length_le (by
  have : (4294967296 ^ 2 : Nat) = 18446744073709551616 := by decide
  omega)
theorem one_len : (digs 1).length ≤ 1 := digs_length_le (by decide)
theorem whole_of {ng : Bool} {X : Nat} (h : ng = true → X ≠ 0) : (ng && decide (X ≠ 0)) = ng ∧ X / Nat.gcd X 1 = X ∧ 1 / Nat.gcd X 1 = 1 := by
  refine ⟨?_, by simp, by simp⟩
  cases ng with
  | false => rfl
  | true => simp [h rfl]
theorem frac_whole {ng : Bool} {A B : Option Addr} {ca cb X : Nat} {w : World} (hA : IsN w A ca (digs X)) (hB : IsN w B cb (digs 1)) (hlx : (digs X).length ≤ 1048576) (h : ng = true → X ≠ 0) : Calls Tryz.prog 20 #[.bool ng, .slice A (digs X).length ca, .slice B (digs 1).length cb] w (FracPost ng X 1 w) := by
  have := frac_any ng A B ca cb X 1 w hA hB hlx (by have := one_len; omega) (by decide)
  rwa [(whole_of h).1, (whole_of h).2.1, (whole_of h).2.2] at this
theorem norm_whole {ng : Bool} {A B : Option Addr} {ca cb X : Nat} {w : World} (hA : IsN w A ca (digs X)) (hB : IsN w B cb (digs 1)) (hlx : (digs X).length ≤ 1048576) (h : ng = true → X ≠ 0) : Calls Tryz.prog 66 #[.agg #[.bool ng, .slice A (digs X).length ca, .slice B (digs 1).length cb]] w (FracPost ng X 1 w) := by
  have := fracNorm_any ng A B ca cb X 1 w hA hB hlx (by have := one_len; omega) (by decide)
  rwa [(whole_of h).1, (whole_of h).2.1, (whole_of h).2.2] at this
set_option maxRecDepth 100000 in
set_option maxHeartbeats 1000000 in
theorem fracNew_any (n : Int) (w : World) (h0 : -9223372036854775808 ≤ n) (h1 : n ≤ 9223372036854775807) :
    Calls Tryz.prog 19 #[.int .i64 n, .int .i64 1] w (FracPost2 (decide (n < 0)) n.natAbs 1 w) := by
  obtain ⟨W, hW, hbW, hgW, hzW⟩ := blk1 w 27 #[.bool false, .slice none 0 0, .slice none 0 0]
  have HW := Lib.hid hW
  have HBW := Lib.hid hbW
  have HGW := Lib.hid hgW
  have hsW := hbW.size
  have hzz : w.heap.size < W.heap.size := by omega
  clear hW hbW hgW hzW
  have hl := abs_len n h0 h1
  have hl1 := one_len
  obtain ⟨ng, hng⟩ : ∃ ng, decide (n < 0) = ng := ⟨_, rfl⟩
  have HNG := Lib.hid hng
  have hne : (ng != false) = ng := by cases ng <;> rfl
  go_enter Tryz.func19, Tryz.ntmps19
  go_wp2_with fail
  rw [HW.out]
  refine (size_any n _ h0 h1).mono ?_
  intro e w1 h2
  obtain ⟨A1, c1, rfl, hi1, hb1⟩ := h2.open_
  have HI1 := Lib.hid hi1
  have HB1 := Lib.hid (below_then HBW.out hb1 hsW)
  have hs1 : w.heap.size ≤ w1.heap.size := Nat.le_trans hsW hb1.size
  have hz1 : w.heap.size < w1.heap.size := Nat.lt_of_lt_of_le hzz hb1.size
  have HG1 := Lib.hid (HGW.out.below hb1 HGW.out.lt)
  clear h2 hi1 hb1
  go_wp2_with fail
  refine (size_any 1 _ (by omega) (by omega)).mono ?_
  intro e w2 h2
  obtain ⟨A2, c2, rfl, hi2, hb2⟩ := h2.open_
  have HI2 := Lib.hid hi2
  have HI12 := Lib.hid (HI1.out.below hb2)
  have HB2 := Lib.hid (below_then HB1.out hb2 hs1)
  have hs2 : w.heap.size ≤ w2.heap.size := Nat.le_trans hs1 hb2.size
  have hz2 : w.heap.size < w2.heap.size := Nat.lt_of_lt_of_le hz1 hb2.size
  have HG2 := Lib.hid (HG1.out.below hb2 HG1.out.lt)
  clear h2 hi2 hb2
  have hab : (1 : Int).natAbs = 1 := rfl
  rw [hab] at HI2 ⊢
  clear hab
  have HNX := Lib.hid (show ng = true → n.natAbs ≠ 0 from fun h => by
    have h1 := HNG.out
    rw [h] at h1
    simp at h1
    omega)
  go_wp2_with fail
  refine (frac_whole HI12.out HI2.out (by omega) HNX.out).mono ?_
  rintro e w3 ⟨vn, vd, rfl, hon, hod, hb3⟩
  obtain ⟨An, cn, en, _⟩ := hon.is (digs_lt _)
  obtain ⟨Ad, cd, ed, _⟩ := hod.is (digs_lt _)
  subst en ed
  have HON := Lib.hid hon
  have HOD := Lib.hid hod
  have HB3 := Lib.hid (below_then HB2.out hb3 hs2)
  have HG3 := Lib.hid (HG2.out.below hb3 HG2.out.lt)
  obtain ⟨d1, d2, d3, f1, f2, f3⟩ := HG3.out.three
  clear hon hod hb3
  go_wp2
  clear d1 d2 d3 f1 f2 f3
  obtain ⟨w6, h6, hg6, hb6, hz6, hk6⟩ := store3 HG3.out (.bool ng) (.slice An (digs n.natAbs).length cn) (.slice Ad (digs 1).length cd)
  rw [h6]
  obtain ⟨d0, d1, d2, _, _, _⟩ := hg6.three
  have ho2 := own_other HON.out (own_off HON.out hz2) hk6
  have ho3 := own_other HOD.out (own_off HOD.out hz2) hk6
  exact bodyPost_ret (v := .tuple #[.agg #[.bool ng, .slice An (digs n.natAbs).length cn, .slice Ad (digs 1).length cd], .int .i64 0]) (by simp [results, Tryz.results19, go_sem, d0, d1, d2]) rfl ⟨_, _, by rw [HNG.out], OwnN.base_le (l := digs n.natAbs) ho2 hs2, OwnN.base_le (l := digs 1) ho3 hs2, HB3.out.trans hb6⟩
end Go.Proofs.YtpinhcdcnaaihaaGreatDoor
namespace Go.Proofs.YtpinhcdcnaaihaaGreatDoor
open Go.RowKit
structure Rd (α : Type) where
  size : Nat
  rd : World → List Value → α → Prop
  len : ∀ {w cs a}, rd w cs a → cs.length = size
  keep : ∀ {w w' cs a}, rd w cs a → Below w.heap.size w w' → rd w' cs a
  one : ∀ {w cs a}, rd w cs a → ∀ u ∈ cs, u.oneCell' = true
inductive Reads {α : Type} (R : Rd α) (W : World) : List Value → List α → Prop
  | nil : Reads R W [] []
  | cons {cs xs : List Value} {a : α} {l : List α} (h : R.rd W cs a) (hs : Reads R W xs l) : Reads R W (cs ++ xs) (a :: l)
variable {α : Type} {R : Rd α}
def Gives (K : World → Value → Prop) (w : World) (e : Ending) (w' : World) : Prop := ∃ v, e = .returned v ∧ K w' v ∧ Below w.heap.size w w'
end Go.Proofs.YtpinhcdcnaaihaaGreatDoor
namespace Go.Proofs.YtpinhcdcnaaihaaGreatDoor
open Go.RowKit
theorem IsD.open_ {W : World} {v : Value} {n : Nat} (h : IsD W v n) : ∃ A c ds, v = .slice A ds.length c ∧ IsN W A c ds ∧ Hid (ds = digs n) := by
  obtain ⟨A, c, e, hi⟩ := h
  exact ⟨A, c, digs n, e, hi, rfl⟩
theorem IsN.isD {W : World} {A : Option Addr} {c n : Nat} {ds : List Nat} (h : IsN W A c ds) (hd : ds = digs n) : IsD W (.slice A ds.length c) n := by subst hd; exact ⟨A, c, rfl, h⟩
theorem OwnN.isD {W : World} {base : Nat} {v : Value} {n : Nat} (h : OwnN W base v (digs n)) : IsD W v n := h.is (digs_lt n)
theorem IsN.cut {W : World} {A : Option Addr} {c k : Nat} {ds : List Nat} (h : IsN W A c ds) (hk : k ≤ ds.length) (ht : ds.take k = digs (nval ds)) (hz : A = none → k = 0) : IsD W (.slice A k k) (nval ds) := by
  have hl : (digs (nval ds)).length = k := by rw [← ht, List.length_take]; omega
  have hc := h.cap
  have hm := h.max
  refine ⟨A, k, by rw [hl], ?_, fun e => ⟨by rw [hl]; exact hz e, hz e⟩, by omega, by omega, digs_lt _⟩
  have := h.at_.takeN k
  rwa [ht] at this
theorem IsN.nz {W : World} {A : Option Addr} {c : Nat} {ds : List Nat} (h : IsN W A c ds) (hl : 0 < ds.length) : ∃ b off, A = some ⟨b, off, none⟩ := by
  obtain ⟨b, off, e, _⟩ := h.digit hl
  exact ⟨b, off, e⟩
set_option maxRecDepth 100000 in
set_option maxHeartbeats 1000000 in
theorem trim_any (A : Option Addr) (c : Nat) (ds : List Nat) (w : World) (h : IsN w A c ds) (_hl : ds.length ≤ 1073741823) :
    Calls Tryz.prog 159 #[.slice A ds.length c] w (Gives (fun W v => IsD W v (nval ds)) w) := by
  have HI := Lib.hid h
  have hcap := h.cap
  have hmax := h.max
  clear h
  go_enter Tryz.func159, Tryz.ntmps159
  go_wp2
  go_loop [3] (fun i => ∃ k : Nat, k ≤ ds.length ∧ i = .int .i64 k ∧ (∀ (j : Nat) (hj : j < ds.length), k ≤ j → ds[j] = 0)) (fun i => (intOf i).toNat)
  case atStart => exact ⟨ds.length, Nat.le_refl _, rfl, fun j hj h => by omega⟩
  case round =>
    obtain ⟨k, hk, rfl, hz⟩ := hrel
    have HZ := Lib.hid hz
    clear hz
    have EXIT : (k = 0 ∨ ∃ h : k - 1 < ds.length, ds[k - 1] ≠ 0) → ds.take k = digs (nval ds) := fun hl' => digs_take ds k hk HI.out.ok HZ.out hl'
    have HX := Lib.hid EXIT
    clear EXIT
    by_cases h0 : 0 < k
    · obtain ⟨b, off, rfl, hb, hc⟩ := HI.out.digit (i := k - 1) (by omega)
      have hce := hc (k - 1) (by omega)
      obtain ⟨d, hd⟩ : ∃ d, ds[k - 1]'(by omega) = d := ⟨_, rfl⟩
      rw [hd] at hce
      have HD := Lib.hid hd
      clear hc hd
      by_cases hd0 : d = 0
      · subst hd0
        go_wp2
        go_round
        case rel =>
          refine ⟨k - 1, by omega, by go_num, fun j hj h => ?_⟩
          by_cases e : j = k - 1
          · subst e; exact HD.out
          · exact HZ.out j hj (by omega)
        case measure => simp [intOf]; omega
      · have HT := Lib.hid (HX.out (.inr ⟨by omega, by rw [HD.out]; exact hd0⟩))
        have hd' : ((d : Int) == 0) = false := by simpa using hd0
        go_wp2
        go_ret
        exact ⟨_, rfl, HI.out.cut hk HT.out (fun e => by cases e), Below.refl _ _⟩
    · obtain rfl : k = 0 := by omega
      have HT := Lib.hid (HX.out (.inl rfl))
      cases A with
      | none =>
        obtain ⟨hl0, rfl⟩ := HI.out.nil rfl
        go_wp2
        go_ret
        exact ⟨_, rfl, HI.out.cut hk HT.out (fun _ => rfl), Below.refl _ _⟩
      | some a =>
        go_wp2
        go_ret
        exact ⟨_, rfl, HI.out.cut hk HT.out (fun _ => rfl), Below.refl _ _⟩
theorem trimD {v : Value} {n : Nat} {w : World} (h : IsD w v n) (hl : (digs n).length ≤ 1073741823) : Calls Tryz.prog 159 #[v] w (Gives (fun W v => IsD W v n) w) := by
  obtain ⟨A, c, rfl, hi⟩ := h
  have := trim_any A c (digs n) w hi hl
  rwa [nval_digs] at this
set_option maxRecDepth 100000 in
set_option maxHeartbeats 1000000 in
theorem fromU_any (n : Nat) (w : World) (hn : n < 18446744073709551616) : Calls Tryz.prog 204 #[.int .u64 n] w (Gives (fun W v => IsD W v n) w) := by
  have hv : nval [n % 4294967296, n / 4294967296] = n := by simp only [nval]; omega
  have hd : Digs [n % 4294967296, n / 4294967296] := fun d hd => by
    simp only [List.mem_cons, List.mem_nil_iff, or_false] at hd
    rcases hd with rfl | rfl <;> omega
  obtain ⟨W, hW, hbW, hgW, hzW⟩ := blk1 w 114 #[.int .u32 ((n : Int) % 4294967296), .int .u32 ((n : Int) / 4294967296)]
  have hi : IsN W (some ⟨w.heap.size, 0, none⟩) 2 [n % 4294967296, n / 4294967296] := by
    refine ⟨fun _ => ⟨w.heap.size, 0, rfl, by omega, fun j u hu => ?_⟩, fun e => (by cases e), by simp, by omega, hd⟩
    rw [Nat.zero_add, hgW.cell j, ← hu]
    simp [cellsN]
  have HNM := Lib.hid (trim_any (some ⟨w.heap.size, 0, none⟩) 2 [n % 4294967296, n / 4294967296] W hi (by simp))
  rw [hv] at HNM
  have HW := Lib.hid hW
  have HB := Lib.hid hbW
  have hs := hbW.size
  clear hv hd hi hW hbW hgW hzW
  go_enter Tryz.func204, Tryz.ntmps204
  go_wp2_with fail
  rw [HW.out]
  refine HNM.out.mono ?_
  rintro e w1 ⟨v1, rfl, ho1, hb1⟩
  have HO1 := Lib.hid ho1
  have HB1 := Lib.hid (HB.out.trans (hb1.mono hs))
  clear ho1 hb1
  go_wp2
  go_ret
  exact ⟨v1, rfl, HO1.out, HB1.out⟩
theorem copy_nats {W : World} {g : Nat} {cur : List Value} {A : Option Addr} {c : Nat} {ds : List Nat} (hg : W.heap[g]? = some (.cells cur.toArray 114 (0, 0))) (hcl : cur.length = ds.length) (hi : IsN W A c ds) :
    ∃ w', (∀ ty, (Builtin.copy_ #[25, 25] ty #[.slice (some ⟨g, 0, none⟩) ds.length ds.length, .slice A ds.length c]).run Tryz.prog W = .ok (.int .i64 (ds.length : Nat)) w') ∧ w'.heap[g]? = some (.cells (cellsN ds).toArray 114 (0, 0)) ∧ Below g W w' := by
  have hu := Tryz.underlying25
  have hs : (Tryz.prog.info? 114).map (·.size) = some 1 := by kernel_rfl
  by_cases h0 : ds.length = 0
  · obtain rfl : ds = [] := List.eq_nil_of_length_eq_zero h0
    obtain rfl : cur = [] := List.eq_nil_of_length_eq_zero hcl
    exact ⟨W, fun ty => by simpa [goInt] using run_copy_none (P := Tryz.prog) W 25 25 ty _ (some ⟨g, 0, none⟩) A 0 0 0 c hu hs rfl, by simpa [cellsN] using hg, Below.refl _ _⟩
  · obtain ⟨b, off, rfl⟩ := hi.nz (by omega)
    have hr := fun ty => run_copy_row (P := Tryz.prog) W 25 25 ty _ g 0 ds.length ds.length ⟨b, off, none⟩ ds.length c cur.toArray _ (cellsN ds) hu hs hg (by rw [cellsN_length]; simp) hi.at_.news (by rw [cellsN_length]; simp; omega) (cellsN_one _)
    have e : ((cur.toArray.toList.take 0 ++ cellsN ds) ++ cur.toArray.toList.drop (0 + (cellsN ds).length)) = cellsN ds := by
      rw [List.drop_of_length_le (by rw [cellsN_length]; simp; omega)]
      simp
    exact ⟨W.setRow g (cellsN ds).toArray, fun ty => by rw [hr ty, e, cellsN_length]; rfl, setRow_heap W g _ _ _ _ hg, below_setRow (Below.refl _ _) (Nat.le_refl _) _⟩
set_option maxRecDepth 100000 in
set_option maxHeartbeats 1000000 in
theorem normD {v : Value} {n : Nat} {w : World} (h : IsD w v n) (hl : (digs n).length ≤ 1073741823) : Calls Tryz.prog 102 #[v] w (Gives (fun W v => IsD W v n) w) := by
  have HC := Lib.hid (trimD h hl)
  obtain ⟨A0, c0, rfl, _⟩ := h
  go_enter Tryz.func102, Tryz.ntmps102
  go_wp2_with fail
  refine HC.out.mono ?_
  rintro e w1 ⟨v1, rfl, hd1, hb1⟩
  obtain ⟨A1, c1, ds, rfl, hi1, hds⟩ := hd1.open_
  have hln : ds.length ≤ 1073741823 := by have := hds.out; rw [this]; exact hl
  have HI1 := Lib.hid hi1
  have HB1 := Lib.hid hb1
  have hs1 := hb1.size
  clear hd1 hi1 hb1
  obtain ⟨W, hmk, hoW, hbW, hzW⟩ := make_nats w1 ds.length (by omega)
  have hmk := hmk .i64 .i64
  have HOW := Lib.hid hoW
  have HBW := Lib.hid hbW
  have HZW := Lib.hid hzW
  clear hoW hbW hzW
  obtain ⟨cur, hcur, hct⟩ : ∃ cur : List Value, W.heap[w1.heap.size]? = some (.cells cur.toArray 114 (0, 0)) ∧ cur.length = ds.length := by
    rcases HOW.out.2 with ⟨hv, _⟩ | ⟨g, cap, cur, hv, _, hg, _, _, hsz, _⟩
    · cases hv
    · injection hv with h1 h2 h3
      injection h1 with h1
      injection h1 with h1
      subst h1 h3
      refine ⟨cur.toList, by simpa using hg, ?_⟩
      simpa using hsz
  have HCU := Lib.hid hcur
  clear hcur
  have HI2 := Lib.hid (HI1.out.below HBW.out)
  obtain ⟨w3, hcp, hg3, hb3⟩ := copy_nats HCU.out hct HI2.out
  have hcp := hcp 3
  have HG3 := Lib.hid hg3
  have HB3 := Lib.hid ((below_then HB1.out HBW.out hs1).trans (hb3.mono hs1))
  clear hg3 hb3
  go_wp2
  go_ret
  refine ⟨_, rfl, ?_, HB3.out⟩
  refine IsN.isD (n := n) ?_ hds.out
  have hg4 := HG3.out
  refine ⟨fun _ => ⟨w1.heap.size, 0, rfl, (Array.getElem?_eq_some_iff.1 hg4).1, fun j u hu => ?_⟩, fun e => (by cases e), Nat.le_refl _, by omega, HI1.out.ok⟩
  rw [cell_of_row w3 w1.heap.size (0 + j) _ _ _ hg4]
  simpa using hu
end Go.Proofs.YtpinhcdcnaaihaaGreatDoor
