/-
  The reference's Parse, walked: the path of an integer.
-/
import Derived.Test.YtpjfkhbdhdolfaaDoorRefp
namespace Go.Proofs.YtpjfkhbdhdolfaaDoor
open Go.RowKit

theorem w64_in (n : Int) (h : -9223372036854775808 ≤ n ∧ n ≤ 9223372036854775807) : wrap64 n = n := by unfold wrap64; omega
/-- One digit more, the number kept below zero; any other byte leaves it. -/
def stp (a : Int) (b : UInt8) : Int := if 48 ≤ b.toNat ∧ b.toNat ≤ 57 then wrap64 (wrap64 (10 * a) - ((b.toNat : Int) - 48)) else a
def cand (l : List UInt8) : Int := if l.head? ≠ some 45 ∧ l.foldl stp 0 ≠ -9223372036854775808 then - l.foldl stp 0 else l.foldl stp 0
theorem stp_range (a : Int) (b : UInt8) (h : -9223372036854775808 ≤ a ∧ a ≤ 9223372036854775807) : -9223372036854775808 ≤ stp a b ∧ stp a b ≤ 9223372036854775807 := by
  unfold stp
  split
  · simp only [wrap64]; constructor <;> omega
  · exact h
theorem fold_range : ∀ (l : List UInt8) (a : Int), -9223372036854775808 ≤ a ∧ a ≤ 9223372036854775807 → -9223372036854775808 ≤ l.foldl stp a ∧ l.foldl stp a ≤ 9223372036854775807
  | [], _, h => h
  | b :: l, a, h => fold_range l _ (stp_range a b h)
theorem cand_range (l : List UInt8) : -9223372036854775808 ≤ cand l ∧ cand l ≤ 9223372036854775807 := by
  have := fold_range l 0 (by omega)
  unfold cand
  split <;> omega
theorem fold_dec (u : Nat) (h : u ≤ 9223372036854775808) : (Lib.decDigits u).foldl stp 0 = -(u : Int) := by
  induction u using Nat.strongRecOn with
  | ind u ih =>
    have hd : ∀ (k : Nat), k < 10 → (48 ≤ (UInt8.ofNat (48 + k)).toNat ∧ (UInt8.ofNat (48 + k)).toNat ≤ 57) ∧ (UInt8.ofNat (48 + k)).toNat = 48 + k := by decide
    rw [Lib.decDigits]
    split
    · rename_i h10
      obtain ⟨h1, h2⟩ := hd u h10
      simp only [List.foldl_cons, List.foldl_nil, stp]
      rw [if_pos h1, h2, w64_in (10 * 0) (by omega), w64_in _ (by omega)]
      omega
    · rename_i h10
      obtain ⟨h1, h2⟩ := hd (u % 10) (Nat.mod_lt _ (by decide))
      rw [List.foldl_append, ih (u / 10) (by omega) (by omega)]
      simp only [List.foldl_cons, List.foldl_nil, stp]
      rw [if_pos h1, h2, w64_in (10 * _) (by omega), w64_in _ (by omega)]
      omega
theorem dec_no45 (u : Nat) : (Lib.decDigits u).head? ≠ some 45 := by
  induction u using Nat.strongRecOn with
  | ind u ih =>
    have hd : ∀ (k : Nat), k < 10 → UInt8.ofNat (48 + k) ≠ 45 := by decide
    rw [Lib.decDigits]
    split
    · rename_i h10
      simpa using hd u h10
    · rename_i h10
      have := ih (u / 10) (by omega)
      cases hc : Lib.decDigits (u / 10) with
      | nil => simpa using hd (u % 10) (Nat.mod_lt _ (by decide))
      | cons a r => rw [hc] at this; simpa using this
theorem cand_itoa (n : Int) (h0 : -9223372036854775808 ≤ n) (h1 : n ≤ 9223372036854775807) : cand (Lib.itoa n) = n := by
  unfold cand Lib.itoa
  by_cases h : n < 0
  · rw [if_pos h]
    have h45 : stp 0 45 = 0 := by decide
    simp only [List.head?_cons, ne_eq, not_true, false_and, if_false, List.foldl_cons]
    rw [h45, fold_dec _ (by omega)]
    omega
  · rw [if_neg h, if_pos ⟨dec_no45 _, by rw [fold_dec _ (by omega)]; omega⟩, fold_dec _ (by omega)]
    omega
def IntInv (w : World) (l : List UInt8) (i : Value) (wr : World) : Prop := ∃ (k : Nat) (a : Int), i = .int .i64 k ∧ k ≤ l.length ∧ (l.take k).foldl stp 0 = a ∧ IsBlk wr (w.heap.size + 1) 23 #[.int .i64 1, .int .i64 a, .string ⟨#[]⟩] ∧ IsBlk wr w.heap.size 23 #[.int .i64 0, .int .i64 0, .string ⟨#[]⟩] ∧ Below w.heap.size w wr
theorem fold_take {l : List UInt8} {k : Nat} (h : k < l.length) : (l.take (k + 1)).foldl stp 0 = stp ((l.take k).foldl stp 0) l[k] := by
  rw [← List.take_append_getElem h, List.foldl_append]; rfl
set_option maxRecDepth 100000 in
set_option maxHeartbeats 2000000 in
theorem refParse_int (s : ByteArray) (w : World) (n : Int) (h0 : 0 < s.size) (h130 : s.size ≤ 130) (hq : s[0].toNat ≠ 39) (hn : cand s.data.toList = n) :
    Calls Tryd.prog 13 #[.string s] w (PPost 1 n ⟨#[]⟩ s.data.toList w) := by
  have hll : s.data.toList.length = s.size := by simp
  have hne : s.toList.isEmpty = false := by
    rw [Lib.toList_data]
    cases h : s.data.toList with
    | nil => rw [h] at hll; simp at hll; omega
    | cons a l => rfl
  have hne2 : s.toList ≠ [] := by
    intro e; rw [e] at hne; cases hne
  have hne3 : (s.toList == []) = false := by
    rw [beq_eq_false_iff_ne]; exact hne2
  have HLL := Lib.hid hll
  have HN := Lib.hid hn
  have hq0 : ((s[0].toNat : Int) == 39) = false := by rw [beq_eq_false_iff_ne]; omega
  clear hne2 hll hn
  go_enter Tryd.func13, Tryd.ntmps13
  go_wp2
  obtain ⟨W, hW, hbW, hgW1, hgW2, hzW⟩ := blk2 w 23 23 #[.int .i64 0, .int .i64 0, .string ⟨#[]⟩] #[.int .i64 1, .int .i64 0, .string ⟨#[]⟩]
  first
    | rw [hW]
    | (go_outline; fail)
  have HB0 := Lib.hid hbW
  have HG1 := Lib.hid hgW1
  have HG2 := Lib.hid hgW2
  clear hW hbW hgW1 hgW2 hzW
  obtain ⟨l, hl⟩ : ∃ l, s.data.toList = l := ⟨_, rfl⟩
  have HL := Lib.hid hl
  rw [hl] at HLL
  clear hl
  go_loopw [6] (fun i wr => IntInv w l i wr) (fun i _ => 200 - (intOf i).toNat)
  case atStart => exact ⟨0, 0, rfl, by omega, by simp, HG2.out, HG1.out, HB0.out⟩
  case round =>
    obtain ⟨k, a, rfl, hkl, hfold, hg2, hg1, hbw⟩ := hrel
    have HU := Lib.hid hfold
    have HG2 := Lib.hid hg2
    have HG1 := Lib.hid hg1
    have HBW := Lib.hid hbw
    have HA := Lib.hid (show -9223372036854775808 ≤ a ∧ a ≤ 9223372036854775807 by rw [← hfold]; exact fold_range _ 0 (by omega))
    clear hfold hg2 hg1 hbw
    by_cases hlt : k < s.size
    · obtain ⟨d0, d1, d2, f0, f1, f2⟩ := HG2.out.three
      by_cases hd : 48 ≤ s[k].toNat ∧ s[k].toNat ≤ 57
      · have e1 := hd.1
        have e2 := hd.2
        clear hd
        go_wp2
        have q1 : IntKind.u8.wrap ((s[k].toNat : Int) - 48) = (s[k].toNat : Int) - 48 := IntWalk.u8_in _ (by omega)
        have q2 : IntKind.i64.wrap ((s[k].toNat : Int) - 48) = (s[k].toNat : Int) - 48 := IntWalk.i64_in _ (by omega)
        refine wp_region_still_tail 10 (by kernel_rfl) (by kernel_rfl) ?_
        simp only [List.take_succ_cons, List.take_zero, List.drop_succ_cons, List.drop_zero]
        change wpStill _ _ wr.drew _ _ _
        iterate 10 still_step
        refine wpStill_nil ?_
        clear q1 q2
        go_wp2
        have hw := HG2.out.put 1 (.int .i64 (wrap64 (wrap64 (10 * a) - ((s[k].toNat : Int) - 48))))
        refine ⟨⟨k + 1, _, by congr 1, by have := HLL.out; omega, ?_, hw, ?_, ?_⟩, by simp only [intOf]; omega⟩
        · rw [fold_take (by have := HLL.out; omega), HU.out]
          have : l[k]'(by have := HLL.out; omega) = s[k] := by simp only [← HL.out]; rfl
          rw [this, stp, if_pos ⟨e1, e2⟩]
        · exact (Below.heap_setCell _ _ _ _ (by simp)).trans HG1.out
        · exact (HBW.out.setCell (p := ⟨w.heap.size + 1, 1, none⟩) (by simp) _).drew
      · have HD := Lib.hid hd
        have h57 : ¬ 48 ≤ s[k].toNat ∨ ¬ s[k].toNat ≤ 57 := by omega
        clear hd
        rcases h57 with h57 | h57
        all_goals
          go_wp2
          refine ⟨⟨k + 1, a, by congr 1, by have := HLL.out; omega, ?_, HG2.out, HG1.out, HBW.out⟩, by simp only [intOf]; omega⟩
          rw [fold_take (by have := HLL.out; omega), HU.out]
          have : l[k]'(by have := HLL.out; omega) = s[k] := by simp only [← HL.out]; rfl
          rw [this, stp, if_neg HD.out]
    · have hwhole : s.data.toList.foldl stp 0 = a := by
        rw [HL.out, ← HU.out, List.take_of_length_le (by have := HLL.out; omega)]
      have hhead : s.data.toList.head? = some s[0] := by
        rw [List.head?_eq_getElem?]
        exact List.getElem?_eq_getElem _
      have HR := Lib.hid (show -9223372036854775808 ≤ n ∧ n ≤ 9223372036854775807 by rw [← HN.out]; exact cand_range _)
      have hcand := HN.out
      unfold cand at hcand
      rw [hwhole, hhead] at hcand
      obtain ⟨d0, d1, d2, f0, f1, f2⟩ := HG2.out.three
      clear hwhole hhead
      by_cases h45 : s[0].toNat = 45
      · have hna : a = n := by
          rw [if_neg] at hcand
          · exact hcand
          · intro hc; exact hc.1 (congrArg some (UInt8.toNat.inj h45))
        rw [hna] at HG2
        clear hcand hna
        clear d0 d1 d2 f0 f1 f2
        obtain ⟨c0, c1, c2, f0, f1, f2⟩ := HG2.out.three
        go_wp2_with fail
        clear c0 c1 c2 f0 f1 f2
        refine (refFmt_any 1 n ⟨#[]⟩ _ HR.out.1 HR.out.2 (by decide)).mono ?_
        rintro e w5 ⟨rfl, hb5⟩
        have HB5 := Lib.hid (HBW.out.trans (hb5.mono HBW.out.size))
        have HG5 := Lib.hid (HG2.out.below hb5 HG2.out.lt)
        have HR5 := Lib.hid (HG1.out.below hb5 HG1.out.lt)
        clear hb5 HG1 HG2 HBW
        obtain ⟨c0, c1, c2, f0, f1, f2⟩ := HG5.out.three
        obtain ⟨d0, d1, d2, g0, g1, g2⟩ := HR5.out.three
        by_cases hsame : fmtL 1 n ⟨#[]⟩ = s.data.toList
        · have hbq := beq_yes (fmtL 1 n ⟨#[]⟩) s hsame.symm
          go_wp2
          clear c0 c1 c2 f0 f1 f2 d0 d1 d2 g0 g1 g2
          obtain ⟨w6, h6, hg6, hb6, hz6, hk6⟩ := store3 HR5.out (.int .i64 1) (.int .i64 n) (.string ⟨#[]⟩)
          rw [h6]
          obtain ⟨d0, d1, d2, _, _, _⟩ := hg6.three
          exact bodyPost_ret (v := .tuple #[.agg #[.int .i64 1, .int .i64 n, .string ⟨#[]⟩], .bool true]) (by simp [results, Tryd.results13, go_sem, d0, d1, d2]) rfl ⟨fun _ => rfl, fun hn => absurd hsame hn, HB5.out.trans hb6⟩
        · have hbq := beq_no (fmtL 1 n ⟨#[]⟩) s (fun e => hsame e.symm)
          go_wp2
          clear c0 c1 c2 f0 f1 f2 d0 d1 d2 g0 g1 g2
          obtain ⟨w6, h6, hg6, hb6, hz6, hk6⟩ := store3 HR5.out (.int .i64 0) (.int .i64 0) (.string ⟨#[]⟩)
          rw [h6]
          obtain ⟨d0, d1, d2, _, _, _⟩ := hg6.three
          exact bodyPost_ret (v := .tuple #[.agg #[.int .i64 0, .int .i64 0, .string ⟨#[]⟩], .bool false]) (by simp [results, Tryd.results13, go_sem, d0, d1, d2]) rfl ⟨fun hn => absurd hn hsame, fun _ => rfl, HB5.out.trans hb6⟩
      · by_cases hmin : a = -9223372036854775808
        · have hna : a = n := by
            rw [if_neg] at hcand
            · exact hcand
            · intro hc; exact hc.2 hmin
          rw [hna] at HG2 hmin
          clear hcand hna
          subst hmin
          clear d0 d1 d2 f0 f1 f2
          obtain ⟨c0, c1, c2, f0, f1, f2⟩ := HG2.out.three
          go_wp2_with fail
          clear c0 c1 c2 f0 f1 f2
          refine (refFmt_any 1 (-9223372036854775808) ⟨#[]⟩ _ HR.out.1 HR.out.2 (by decide)).mono ?_
          rintro e w5 ⟨rfl, hb5⟩
          have HB5 := Lib.hid (HBW.out.trans (hb5.mono HBW.out.size))
          have HG5 := Lib.hid (HG2.out.below hb5 HG2.out.lt)
          have HR5 := Lib.hid (HG1.out.below hb5 HG1.out.lt)
          clear hb5 HG1 HG2 HBW
          obtain ⟨c0, c1, c2, f0, f1, f2⟩ := HG5.out.three
          obtain ⟨d0, d1, d2, g0, g1, g2⟩ := HR5.out.three
          by_cases hsame : fmtL 1 (-9223372036854775808) ⟨#[]⟩ = s.data.toList
          · have hbq := beq_yes (fmtL 1 (-9223372036854775808) ⟨#[]⟩) s hsame.symm
            go_wp2
            clear c0 c1 c2 f0 f1 f2 d0 d1 d2 g0 g1 g2
            obtain ⟨w6, h6, hg6, hb6, hz6, hk6⟩ := store3 HR5.out (.int .i64 1) (.int .i64 (-9223372036854775808)) (.string ⟨#[]⟩)
            rw [h6]
            obtain ⟨d0, d1, d2, _, _, _⟩ := hg6.three
            exact bodyPost_ret (v := .tuple #[.agg #[.int .i64 1, .int .i64 (-9223372036854775808), .string ⟨#[]⟩], .bool true]) (by simp [results, Tryd.results13, go_sem, d0, d1, d2]) rfl ⟨fun _ => rfl, fun hn => absurd hsame hn, HB5.out.trans hb6⟩
          · have hbq := beq_no (fmtL 1 (-9223372036854775808) ⟨#[]⟩) s (fun e => hsame e.symm)
            go_wp2
            clear c0 c1 c2 f0 f1 f2 d0 d1 d2 g0 g1 g2
            obtain ⟨w6, h6, hg6, hb6, hz6, hk6⟩ := store3 HR5.out (.int .i64 0) (.int .i64 0) (.string ⟨#[]⟩)
            rw [h6]
            obtain ⟨d0, d1, d2, _, _, _⟩ := hg6.three
            exact bodyPost_ret (v := .tuple #[.agg #[.int .i64 0, .int .i64 0, .string ⟨#[]⟩], .bool false]) (by simp [results, Tryd.results13, go_sem, d0, d1, d2]) rfl ⟨fun hn => absurd hn hsame, fun _ => rfl, HB5.out.trans hb6⟩
        · have hna : -a = n := by
            rw [if_pos] at hcand
            · exact hcand
            · exact ⟨fun e => h45 (by rw [Option.some.inj e]; rfl), hmin⟩
          clear hcand
          have q1 : wrap64 (-a) = n := by rw [hna]; exact w64_in _ HR.out
          have q2 : ((s[0].toNat : Int) != 45) = true := by rw [bne_iff_ne]; omega
          have q3 : (a != -9223372036854775808) = true := by rw [bne_iff_ne]; exact hmin
          clear hna
          go_wp2_with fail
          clear q1 q2 q3 d0 d1 d2 f0 f1 f2
          obtain ⟨W2, hW2⟩ : ∃ W2, wr.setCell ⟨w.heap.size + 1, 1, none⟩ (.int .i64 n) = W2 := ⟨_, rfl⟩
          have hg2 := HG2.out.put 1 (.int .i64 n)
          have hg1 := (Below.heap_setCell wr ⟨w.heap.size + 1, 1, none⟩ (.int .i64 n) w.heap.size (by simp)).trans HG1.out
          have hb2 := HBW.out.setCell (p := ⟨w.heap.size + 1, 1, none⟩) (by simp) (.int .i64 n)
          rw [hW2] at hg2 hg1 hb2 ⊢
          clear HG2 HG1 HBW
          have HG2 := Lib.hid (show IsBlk W2 (w.heap.size + 1) 23 #[.int .i64 1, .int .i64 n, .string ⟨#[]⟩] from hg2)
          have HG1 := Lib.hid (show IsBlk W2 w.heap.size 23 #[.int .i64 0, .int .i64 0, .string ⟨#[]⟩] from hg1)
          have HBW := Lib.hid hb2
          clear hg2 hg1 hb2 hW2
          refine (refFmt_any 1 n ⟨#[]⟩ _ HR.out.1 HR.out.2 (by decide)).mono ?_
          rintro e w5 ⟨rfl, hb5⟩
          have HB5 := Lib.hid (HBW.out.trans (hb5.mono HBW.out.size))
          have HG5 := Lib.hid (HG2.out.below hb5 HG2.out.lt)
          have HR5 := Lib.hid (HG1.out.below hb5 HG1.out.lt)
          clear hb5 HG1 HG2 HBW
          obtain ⟨c0, c1, c2, f0, f1, f2⟩ := HG5.out.three
          obtain ⟨d0, d1, d2, g0, g1, g2⟩ := HR5.out.three
          by_cases hsame : fmtL 1 n ⟨#[]⟩ = s.data.toList
          · have hbq := beq_yes (fmtL 1 n ⟨#[]⟩) s hsame.symm
            go_wp2
            clear c0 c1 c2 f0 f1 f2 d0 d1 d2 g0 g1 g2
            obtain ⟨w6, h6, hg6, hb6, hz6, hk6⟩ := store3 HR5.out (.int .i64 1) (.int .i64 n) (.string ⟨#[]⟩)
            rw [h6]
            obtain ⟨d0, d1, d2, _, _, _⟩ := hg6.three
            exact bodyPost_ret (v := .tuple #[.agg #[.int .i64 1, .int .i64 n, .string ⟨#[]⟩], .bool true]) (by simp [results, Tryd.results13, go_sem, d0, d1, d2]) rfl ⟨fun _ => rfl, fun hn => absurd hsame hn, HB5.out.trans hb6⟩
          · have hbq := beq_no (fmtL 1 n ⟨#[]⟩) s (fun e => hsame e.symm)
            go_wp2
            clear c0 c1 c2 f0 f1 f2 d0 d1 d2 g0 g1 g2
            obtain ⟨w6, h6, hg6, hb6, hz6, hk6⟩ := store3 HR5.out (.int .i64 0) (.int .i64 0) (.string ⟨#[]⟩)
            rw [h6]
            obtain ⟨d0, d1, d2, _, _, _⟩ := hg6.three
            exact bodyPost_ret (v := .tuple #[.agg #[.int .i64 0, .int .i64 0, .string ⟨#[]⟩], .bool false]) (by simp [results, Tryd.results13, go_sem, d0, d1, d2]) rfl ⟨fun hn => absurd hn hsame, fun _ => rfl, HB5.out.trans hb6⟩
end Go.Proofs.YtpjfkhbdhdolfaaDoor
