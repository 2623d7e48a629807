/-
  credenceref8.Whole and credenceref1.FracFormat at whole numbers, walked: the decimal text of an integer.
-/
import Derived.Test.YtpjfkhbdhdolfaaDoorNati
import Derived.Test.YtpjfkhbdhdolfaaDoorMonb
namespace Go.Proofs.YtpjfkhbdhdolfaaDoor
open Go.RowKit

set_option maxRecDepth 100000 in
set_option maxHeartbeats 1000000 in
theorem whole_any (n : Int) (w : World) (h0 : -9223372036854775808 ≤ n) (h1 : n ≤ 9223372036854775807) :
    Calls Tryd.prog 34 #[.int .i64 n] w (FracPost (decide (n < 0)) n.natAbs 1 w) := by
  obtain ⟨W, hW, hbW, hgW, hzW⟩ := blk1 w 57 #[.bool false, .slice none 0 0, .slice none 0 0]
  have HW := Lib.hid hW
  have HBW := Lib.hid hbW
  have HGW := Lib.hid hgW
  have hsW := hbW.size
  have hzz : w.heap.size < W.heap.size := by omega
  clear hW hbW hgW hzW
  obtain ⟨ng, hng⟩ : ∃ ng, decide (n < 0) = ng := ⟨_, rfl⟩
  have HC := Lib.hid (fracNew_any n W h0 h1)
  rw [hng] at HC
  have HNG := Lib.hid hng
  clear hng
  go_enter Tryd.func34, Tryd.ntmps34
  go_wp2_with fail
  rw [HW.out]
  refine HC.out.mono ?_
  rintro e w1 ⟨vn, vd, rfl, hon, hod, hb1⟩
  obtain ⟨An, cn, en, _⟩ := hon.is (digs_lt _)
  obtain ⟨Ad, cd, ed, _⟩ := hod.is (digs_lt _)
  subst en ed
  have HON := Lib.hid hon
  have HOD := Lib.hid hod
  have HB1 := Lib.hid (below_then HBW.out hb1 hsW)
  have HG1 := Lib.hid (HGW.out.below hb1 HGW.out.lt)
  have hs1 : w.heap.size ≤ w1.heap.size := Nat.le_trans hsW hb1.size
  have hz1 : w.heap.size < w1.heap.size := Nat.lt_of_lt_of_le hzz hb1.size
  obtain ⟨d1, d2, d3, f1, f2, f3⟩ := HG1.out.three
  clear hon hod hb1
  go_wp2
  clear d1 d2 d3 f1 f2 f3
  obtain ⟨w6, h6, hg6, hb6, hz6, hk6⟩ := store3 HG1.out (.bool ng) (.slice An (digs n.natAbs).length cn) (.slice Ad (digs 1).length cd)
  rw [h6]
  have ho2 : OwnN w6 W.heap.size _ (digs n.natAbs) := own_other HON.out (own_off HON.out hzz) hk6
  have ho3 : OwnN w6 W.heap.size _ (digs 1) := own_other HOD.out (own_off HOD.out hzz) hk6
  obtain ⟨d0, d1, d2, _, _, _⟩ := (hg6.alloc (.cells #[.bool ng, .slice An (digs n.natAbs).length cn, .slice Ad (digs 1).length cd] 57)).three
  have hba : Below w6.heap.size w6 (w6.alloc (.cells #[.bool ng, .slice An (digs n.natAbs).length cn, .slice Ad (digs 1).length cd] 57)) := (Below.refl _ _).alloc (Nat.le_refl _) _
  exact bodyPost_ret (v := .agg #[.bool ng, .slice An (digs n.natAbs).length cn, .slice Ad (digs 1).length cd]) (by simp [results, Tryd.results34, go_sem, d0, d1, d2]) rfl ⟨_, _, by rw [HNG.out], (ho2.below hba).base_le hsW, (ho3.below hba).base_le hsW, (HB1.out.trans hb6).trans (hba.mono (by omega))⟩
/-- The text of a whole number. -/
def ffmt (ng : Bool) (X : Nat) : List UInt8 := if ng = true then 45 :: Lib.decDigits X else Lib.decDigits X
def FF5 (g : Nat) (Bd : Option Addr) (cd : Nat) : List (Value → World → Prop) := [
  fun r _ => r = .pointer (some ⟨g, 2, none⟩),
  fun r _ => r = .slice Bd (digs 1).length cd,
  fun r W => IsD W r 1,
  fun r _ => r = .int .i64 0,
  fun r _ => r = .bool false]
theorem FF5_stab (g : Nat) (Bd : Option Addr) (cd : Nat) (W0 : World) : Stab W0 (FF5 g Bd cd) :=
  .eq <| .eq <| .cons (fun _ _ _ _ h hb => h.below hb) <| .eq <| .eq <| .nil
set_option maxRecDepth 100000 in
set_option maxHeartbeats 1000000 in
theorem fracFmt_any (ng : Bool) (A B : Option Addr) (ca cb X : Nat) (w : World) (hA : IsN w A ca (digs X)) (hB : IsN w B cb (digs 1)) (hlx : (digs X).length ≤ 1048576) (hn : ng = true → X ≠ 0) (hD : (Lib.decDigits X).length ≤ 1073741824) :
    Calls Tryd.prog 33 #[.agg #[.bool ng, .slice A (digs X).length ca, .slice B (digs 1).length cb]] w (StrPost (ffmt ng X) w) := by
  obtain ⟨W, hW, hbW, hgW, hzW⟩ := blk1 w 57 #[.bool ng, .slice A (digs X).length ca, .slice B (digs 1).length cb]
  have HW := Lib.hid hW
  have HBW := Lib.hid hbW
  have hsW := hbW.size
  have HC := Lib.hid (norm_whole (hA.below hbW) (hB.below hbW) hlx hn)
  clear hW hbW hgW hzW hA hB hn
  go_enter Tryd.func33, Tryd.ntmps33
  go_wp2_with fail
  rw [HW.out]
  refine HC.out.mono ?_
  rintro e w1 ⟨vn, vd, rfl, hon, hod, hb1⟩
  obtain ⟨An, cn, en, hin⟩ := hon.is (digs_lt _)
  obtain ⟨Bd, cd, ed, hid⟩ := hod.is (digs_lt _)
  subst en ed
  have HB1 := Lib.hid (below_then HBW.out hb1 hsW)
  have hs1 : w.heap.size ≤ w1.heap.size := Nat.le_trans hsW hb1.size
  obtain ⟨W2, hW2, hbW2, hgW2, hzW2⟩ := blk1 w1 57 #[.bool ng, .slice An (digs X).length cn, .slice Bd (digs 1).length cd]
  have HW2 := Lib.hid hW2
  have HIN := Lib.hid (hin.below hbW2)
  have HID := Lib.hid (hid.below hbW2)
  have HG2 := Lib.hid hgW2
  have HB2 := Lib.hid (below_then HB1.out hbW2 hs1)
  have hs2 : w.heap.size ≤ W2.heap.size := Nat.le_trans hs1 hbW2.size
  clear hon hod hb1 hin hid hW2 hbW2 hgW2 hzW2
  have hnf := natFmt_any An cn (digs X) W2 HIN.out hlx (by rw [nval_digs]; exact hD)
  rw [nval_digs] at hnf
  have HNF := Lib.hid hnf
  clear hnf
  go_wp2_with fail
  rw [HW2.out]
  refine HNF.out.mono ?_
  rintro e w3 ⟨rfl, hb3⟩
  have HB3 := Lib.hid (below_then HB2.out hb3 hs2)
  have HDD := Lib.hid (HID.out.below hb3)
  have HG3 := Lib.hid (HG2.out.below hb3 HG2.out.lt)
  have hs3 : w.heap.size ≤ w3.heap.size := Nat.le_trans hs2 hb3.size
  obtain ⟨d0, d1, d2, _, _, _⟩ := HG3.out.three
  have hgl := HG3.out.lt
  generalize hgg : w1.heap.size = g at *
  obtain ⟨D, hDe⟩ : ∃ D, Lib.decDigits X = D := ⟨_, rfl⟩
  have HDE := Lib.hid hDe
  rw [hDe] at hD ⊢
  clear hb3 hDe hgg
  cases ng
  · go_wp2
    have c2 := d2
    refine wp_region_below [some 14, some 15, some 16, some 17, some 18] (FF5 g Bd cd) (by kernel_rfl) (by kernel_rfl) (by rfl) (by rfl) (FF5_stab g Bd cd _) ?_ ?_
    ·
      refine Steps.cons trivial (fun T W hg => ?_) ?_
      · have e3 : T 3 = .pointer (some ⟨g, 0, none⟩) := hg.keep 3 (by rfl)
        have hwi := hg.wi
        clear hg
        refine OpRuns.of_ok (v := .pointer (some ⟨g, 2, none⟩)) (W' := W) ?_ ⟨rfl, Below.refl _ _⟩
        simp only [execOp, evT, e3]
        go_simp
      refine Steps.cons trivial (fun T W hg => ?_) ?_
      · have e14 : T 14 = .pointer (some ⟨g, 2, none⟩) := hg.fact 1 0 14 (by kernel_rfl)
        have hwi := hg.wi
        clear hg
        refine OpRuns.of_ok (v := .slice Bd (digs 1).length cd) (W' := W) ?_ ⟨rfl, Below.refl _ _⟩
        have c2' := (hwi.cell (p := ⟨g, 2, none⟩) hgl).trans c2
        simp only [execOp, evT, e14]
        go_simp
      refine Steps.cons trivial (fun T W hg => ?_) ?_
      · have hwi := hg.wi
        clear hg
        refine OpRuns.of_call ?_ ((natOf_any 1 _ (by omega)).mono fun e W' h => ?_)
        · simp only [execOp, resolve, invoke, List.map_toArray, List.map_cons, List.map_nil, evT]
          go_simp
        · obtain ⟨A', c', he, hi, hb⟩ := h.open_
          exact ⟨_, he, ⟨A', c', rfl, hi⟩, hb⟩
      refine Steps.cons trivial (fun T W hg => ?_) ?_
      · have e15 : T 15 = .slice Bd (digs 1).length cd := hg.fact 1 1 15 (by kernel_rfl)
        have p16 : (fun r W => IsD W r 1) (T 16) W := hg.fact 1 2 16 (by kernel_rfl)
        simp only at p16
        have hwi := hg.wi
        clear hg
        obtain ⟨A', c', e16, hi⟩ := p16
        refine OpRuns.of_call ?_ ((cmpN (HDD.out.below hwi) hi (by have := one_len; omega) (by have := one_len; omega)).mono fun e W' h => ⟨_, h.1, ?_, h.2⟩)
        · simp only [execOp, resolve, invoke, List.map_toArray, List.map_cons, List.map_nil, evT, e15, e16]
          go_simp
        · show Value.int .i64 (cmpI ((1 : Nat) : Int) ((1 : Nat) : Int)) = _
          rw [cmpN_eq rfl]
      refine Steps.cons trivial (fun T W hg => ?_) ?_
      · have e17 : T 17 = .int .i64 0 := hg.fact 1 3 17 (by kernel_rfl)
        have hwi := hg.wi
        clear hg
        refine OpRuns.of_ok (v := .bool false) (W' := W) ?_ ⟨rfl, Below.refl _ _⟩
        simp only [execOp, evT, e17]
        go_simp
      exact Steps.nil
    · intro us W1 hlen hF hb
      obtain ⟨y0, us0, rfl, hl0⟩ := len_cons hlen
      clear hlen
      obtain ⟨y1, us1, rfl, hl1⟩ := len_cons hl0
      clear hl0
      obtain ⟨y2, us2, rfl, hl2⟩ := len_cons hl1
      clear hl1
      obtain ⟨y3, us3, rfl, hl3⟩ := len_cons hl2
      clear hl2
      obtain ⟨y4, us4, rfl, hl4⟩ := len_cons hl3
      clear hl3
      obtain rfl := len_nil hl4
      clear hl4
      have f4 : y4 = .bool false := hF 4 (by decide)
      clear hF
      subst f4
      simp only [updO, List.zip_cons_cons, List.zip_nil_right, List.setIfInBounds_toArray, List.set_cons_succ, List.set_cons_zero]
      have HB4 := Lib.hid (below_then HB3.out hb hs3)
      clear hb c2 d0 d1 d2
      go_wp2
      go_ret
      exact ⟨by rw [show ffmt false X = D from HDE.out]; rfl, HB4.out⟩
  · go_wp2
    have c2 := d2
    refine wp_region_below [some 14, some 15, some 16, some 17, some 18] (FF5 g Bd cd) (by kernel_rfl) (by kernel_rfl) (by rfl) (by rfl) (FF5_stab g Bd cd _) ?_ ?_
    ·
      refine Steps.cons trivial (fun T W hg => ?_) ?_
      · have e3 : T 3 = .pointer (some ⟨g, 0, none⟩) := hg.keep 3 (by rfl)
        have hwi := hg.wi
        clear hg
        refine OpRuns.of_ok (v := .pointer (some ⟨g, 2, none⟩)) (W' := W) ?_ ⟨rfl, Below.refl _ _⟩
        simp only [execOp, evT, e3]
        go_simp
      refine Steps.cons trivial (fun T W hg => ?_) ?_
      · have e14 : T 14 = .pointer (some ⟨g, 2, none⟩) := hg.fact 1 0 14 (by kernel_rfl)
        have hwi := hg.wi
        clear hg
        refine OpRuns.of_ok (v := .slice Bd (digs 1).length cd) (W' := W) ?_ ⟨rfl, Below.refl _ _⟩
        have c2' := (hwi.cell (p := ⟨g, 2, none⟩) hgl).trans c2
        simp only [execOp, evT, e14]
        go_simp
      refine Steps.cons trivial (fun T W hg => ?_) ?_
      · have hwi := hg.wi
        clear hg
        refine OpRuns.of_call ?_ ((natOf_any 1 _ (by omega)).mono fun e W' h => ?_)
        · simp only [execOp, resolve, invoke, List.map_toArray, List.map_cons, List.map_nil, evT]
          go_simp
        · obtain ⟨A', c', he, hi, hb⟩ := h.open_
          exact ⟨_, he, ⟨A', c', rfl, hi⟩, hb⟩
      refine Steps.cons trivial (fun T W hg => ?_) ?_
      · have e15 : T 15 = .slice Bd (digs 1).length cd := hg.fact 1 1 15 (by kernel_rfl)
        have p16 : (fun r W => IsD W r 1) (T 16) W := hg.fact 1 2 16 (by kernel_rfl)
        simp only at p16
        have hwi := hg.wi
        clear hg
        obtain ⟨A', c', e16, hi⟩ := p16
        refine OpRuns.of_call ?_ ((cmpN (HDD.out.below hwi) hi (by have := one_len; omega) (by have := one_len; omega)).mono fun e W' h => ⟨_, h.1, ?_, h.2⟩)
        · simp only [execOp, resolve, invoke, List.map_toArray, List.map_cons, List.map_nil, evT, e15, e16]
          go_simp
        · show Value.int .i64 (cmpI ((1 : Nat) : Int) ((1 : Nat) : Int)) = _
          rw [cmpN_eq rfl]
      refine Steps.cons trivial (fun T W hg => ?_) ?_
      · have e17 : T 17 = .int .i64 0 := hg.fact 1 3 17 (by kernel_rfl)
        have hwi := hg.wi
        clear hg
        refine OpRuns.of_ok (v := .bool false) (W' := W) ?_ ⟨rfl, Below.refl _ _⟩
        simp only [execOp, evT, e17]
        go_simp
      exact Steps.nil
    · intro us W1 hlen hF hb
      obtain ⟨y0, us0, rfl, hl0⟩ := len_cons hlen
      clear hlen
      obtain ⟨y1, us1, rfl, hl1⟩ := len_cons hl0
      clear hl0
      obtain ⟨y2, us2, rfl, hl2⟩ := len_cons hl1
      clear hl1
      obtain ⟨y3, us3, rfl, hl3⟩ := len_cons hl2
      clear hl2
      obtain ⟨y4, us4, rfl, hl4⟩ := len_cons hl3
      clear hl3
      obtain rfl := len_nil hl4
      clear hl4
      have f4 : y4 = .bool false := hF 4 (by decide)
      clear hF
      subst f4
      simp only [updO, List.zip_cons_cons, List.zip_nil_right, List.setIfInBounds_toArray, List.set_cons_succ, List.set_cons_zero]
      have HB4 := Lib.hid (below_then HB3.out hb hs3)
      clear hb c2 d0 d1 d2
      go_wp2
      go_ret
      refine ⟨?_, HB4.out⟩
      rw [show ffmt true X = 45 :: D by rw [ffmt, if_pos rfl, HDE.out]]
      have := app_mk [45] D
      simp at this ⊢
      first | rfl | exact this
end Go.Proofs.YtpjfkhbdhdolfaaDoor
