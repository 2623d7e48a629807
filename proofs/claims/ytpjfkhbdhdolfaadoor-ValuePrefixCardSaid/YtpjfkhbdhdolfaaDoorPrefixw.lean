/-
  The law ValuePrefix, walked: for every two lists of values it returns true.
-/
import Derived.Test.YtpjfkhbdhdolfaaDoorAppo
import Derived.Test.YtpjfkhbdhdolfaaDoorIsb
import Derived.IntWalk
namespace Go.Proofs.YtpjfkhbdhdolfaaDoor
open Go.RowKit

theorem encL_append (a b : List V) : encL (a ++ b) = encL a ++ encL b := by simp [encL]
theorem encS_append {a b : List V} (ha : a.all V.ok = true) (hb : b.all V.ok = true) : encS ([] ++ a ++ b) = encS a ++ encS b := by
  have h : ([] ++ a ++ b).all V.ok = true := by rw [List.nil_append, List.all_append, ha, hb]; rfl
  unfold encS
  rw [if_pos h, if_pos ha, if_pos hb, List.nil_append, encL_append]
theorem cmpVV_self (v : V) : cmpVV v v = 0 := by
  unfold cmpVV cmpV
  have h1 : ∀ x : Int, cmpI x x = 0 := fun x => cmpI_eq (by omega) (by omega)
  have h2 : ∀ l : List UInt8, Lib.compareBytes l l = 0 := compareBytes_self
  rw [h1, h1, h2]; rfl
theorem cmpL_prefix (p q : List V) : cmpL p (p ++ q) = -(min (q.length : Int) 1) := by
  induction p with
  | nil =>
    cases q with
    | nil => rfl
    | cons v q => simp only [List.nil_append, cmpL, List.length_cons]; omega
  | cons v p ih => simp only [List.cons_append, cmpL, cmpVV_self, if_true]; exact ih
theorem prefix_ranges {p q : List V} (hp : ∀ v ∈ p, -9223372036854775808 ≤ v.n ∧ v.n ≤ 9223372036854775807) (hq : ∀ v ∈ q, -9223372036854775808 ≤ v.n ∧ v.n ≤ 9223372036854775807) : ∀ v ∈ ([] ++ p ++ q : List V), -9223372036854775808 ≤ v.n ∧ v.n ≤ 9223372036854775807 := by
  intro v hv
  simp only [List.nil_append, List.mem_append] at hv
  exact hv.elim (hp v) (hq v)
def PF5 (w7 : World) (Ap Aq : Option Addr) (cp cq : Nat) (p q : List V) (v7 : Value) : List (Value → World → Prop) := [
  fun r W => OwnV W w7.heap.size r [],
  fun r _ => r = .slice Ap p.length cp,
  fun r W => OwnV W w7.heap.size r ([] ++ p),
  fun r _ => r = .slice Aq q.length cq,
  fun r W => OwnV W w7.heap.size r ([] ++ p ++ q),
  fun r W => IsB W r (encS p ++ encS q),
  fun r _ => r = .string ⟨(encS p ++ encS q).toArray⟩,
  fun r _ => r = v7,
  fun r _ => r = .string ⟨(encS p ++ encS q).toArray⟩,
  fun r _ => r = .bool true,
  fun r _ => r = .bool true,
  fun r _ => r = .slice Ap p.length cp,
  fun r W => OwnV W w7.heap.size r [],
  fun r _ => r = .slice Ap p.length cp,
  fun r W => OwnV W w7.heap.size r ([] ++ p),
  fun r _ => r = .slice Aq q.length cq,
  fun r W => OwnV W w7.heap.size r ([] ++ p ++ q),
  fun r _ => r = .int .i64 (-(min (q.length : Int) 1)),
  fun r _ => r = .slice Aq q.length cq,
  fun r _ => r = .int .i64 (q.length : Int),
  fun r _ => r = .int .i64 (min (q.length : Int) 1),
  fun r _ => r = .int .i64 (-(min (q.length : Int) 1)),
  fun r _ => r = .bool true,
  fun r _ => r = .bool true,
  fun r _ => r = .bool true,
  fun r _ => r = .bool true,
  fun r _ => r = .bool true,
  fun r _ => r = .bool true]
theorem PF5_stab (w7 : World) (Ap Aq : Option Addr) (cp cq : Nat) (p q : List V) (v7 : Value) (W0 : World) : Stab W0 (PF5 w7 Ap Aq cp cq p q v7) :=
  .cons (fun _ _ _ _ h hb => h.below hb) <| .eq <| .cons (fun _ _ _ _ h hb => h.below hb) <| .eq <| .cons (fun _ _ _ _ h hb => h.below hb) <| .cons (fun _ _ _ _ h hb => h.below hb) <| .eq <| .eq <| .eq <| .eq <| .eq <| .eq <| .cons (fun _ _ _ _ h hb => h.below hb) <| .eq <| .cons (fun _ _ _ _ h hb => h.below hb) <| .eq <| .cons (fun _ _ _ _ h hb => h.below hb) <| .eq <| .eq <| .eq <| .eq <| .eq <| .eq <| .eq <| .eq <| .eq <| .eq <| .eq <| .nil
theorem PF5_pure (w7 : World) (Ap Aq : Option Addr) (cp cq : Nat) (p q : List V) (v7 : Value) : PureF (PF5 w7 Ap Aq cp cq p q v7) [false, true, false, true, false, false, true, true, true, true, true, true, false, true, false, true, false, true, true, true, true, true, true, true, true, true, true, true] :=
  .any <| .eq <| .any <| .eq <| .any <| .any <| .eq <| .eq <| .eq <| .eq <| .eq <| .eq <| .any <| .eq <| .any <| .eq <| .any <| .eq <| .eq <| .eq <| .eq <| .eq <| .eq <| .eq <| .eq <| .eq <| .eq <| .eq <| .nil

set_option maxRecDepth 100000 in
set_option maxHeartbeats 4000000 in
theorem prefix_main (A B : Option Addr) (ca cb : Nat) (a b : List V) (w : World) (hA : At w w.heap.size A (cellsV a)) (hB : At w w.heap.size B (cellsV b)) (hE : Env w)
    (hra : ∀ v ∈ a, -9223372036854775808 ≤ v.n ∧ v.n ≤ 9223372036854775807) (hrb : ∀ v ∈ b, -9223372036854775808 ≤ v.n ∧ v.n ≤ 9223372036854775807) (hfa : fitsB a = true) (hfb : fitsB b = true) :
    Calls Tryd.prog 7 #[.slice A a.length ca, .slice B b.length cb] w (LawPost w) := by
  have hla : a.length ≤ 8 := by simp [fitsB] at hfa; exact hfa.1
  have hlb : b.length ≤ 8 := by simp [fitsB] at hfb; exact hfb.1
  have HFA := Lib.hid (fits_any A ca a w hA (by omega))
  have HFB := Lib.hid (fits_any B cb b w hB (by omega))
  rw [hfa] at HFA
  rw [hfb] at HFB
  have HA := Lib.hid hA
  have HB := Lib.hid hB
  have HE := Lib.hid hE
  obtain ⟨p, hp⟩ : ∃ p, a.map mkV = p := ⟨_, rfl⟩
  obtain ⟨q, hq⟩ : ∃ q, b.map mkV = q := ⟨_, rfl⟩
  have hlp : p.length ≤ 8 := by rw [← hp]; simpa using hla
  have hlq : q.length ≤ 8 := by rw [← hq]; simpa using hlb
  have HPE := Lib.hid hp
  have HQE := Lib.hid hq
  have HRP := Lib.hid (mk_ranges hra)
  have HRQ := Lib.hid (mk_ranges hrb)
  have HOP := Lib.hid (mk_oks a)
  have HOQ := Lib.hid (mk_oks b)
  rw [hp] at HRP HOP
  rw [hq] at HRQ HOQ
  have HRR := Lib.hid (prefix_ranges HRP.out HRQ.out)
  have HEN := Lib.hid (encS_append HOP.out HOQ.out)
  have HCM : Hid (cmpL p ([] ++ p ++ q) = -(min (q.length : Int) 1)) := by rw [List.nil_append]; exact cmpL_prefix p q
  have hep : (encS p).length ≤ 1000 := by have := encL_length HOP.out; unfold encS; rw [if_pos HOP.out]; omega
  have heq : (encS q).length ≤ 1000 := by have := encL_length HOQ.out; unfold encS; rw [if_pos HOQ.out]; omega
  clear hA hB hE hra hrb hfa hfb hp hq
  go_enter Tryd.func7, Tryd.ntmps7
  go_wp2_with fail
  refine HFA.out.mono ?_
  rintro e w' ⟨rfl, rfl⟩
  go_wp2_with fail
  refine HFB.out.mono ?_
  rintro e w' ⟨rfl, rfl⟩
  go_wp2_with fail
  refine (valids_any A ca a _ HA.out (by omega)).mono ?_
  rintro e w1 ⟨pv, rfl, hop, hb1⟩
  rw [HPE.out] at hop
  obtain ⟨Ap, cp, rfl, hatp, hnp⟩ := IsV.of_own hop
  have HP1 := Lib.hid hatp
  have HNP := Lib.hid hnp
  have HBW1 := Lib.hid hb1
  have hsz1 := hb1.size
  clear hop hatp hb1 hnp
  go_wp2_with fail
  refine (valids_any B cb b _ ((HB.out.below HBW1.out).more hsz1) (by omega)).mono ?_
  rintro e w2 ⟨qv, rfl, hoq, hb2⟩
  rw [HQE.out] at hoq
  obtain ⟨Aq, cq, rfl, hatq, hnq⟩ := IsV.of_own hoq
  have HNQ := Lib.hid hnq
  have hsz2 := hb2.size
  have HBW2 := Lib.hid (below_then HBW1.out hb2 hsz1)
  have HP2 := Lib.hid ((HP1.out.below hb2).more hsz2)
  have HQ2 := Lib.hid hatq
  have hszw := HBW2.out.size
  clear hoq hatq hb2 hnq HP1
  obtain ⟨W3, hW3, hB3, _, hz3⟩ := blk1 w2 5 #[]
  have HW3 := Lib.hid hW3
  have HB3 := Lib.hid hB3
  have HO3 := Lib.hid (OwnB.empty w2 w2.heap.size (Nat.le_refl _))
  rw [hW3] at HO3
  have hsz3 := hB3.size
  clear hW3 hB3 hz3
  go_wp2_with fail
  rw [HW3.out]
  refine (enc_walk Ap cp p _ ((HP2.out.below HB3.out).more hsz3) (by omega) HRP.out).mono ?_
  intro e w4 h4
  obtain ⟨v4, rfl, hv4, hb4⟩ := isB_of_enc h4
  obtain ⟨A4, c4, rfl, hat4, hn4⟩ := hv4
  have HAT4 := Lib.hid hat4
  have HN4 := Lib.hid hn4
  have HB4 := Lib.hid hb4
  have HO4 := Lib.hid (HO3.out.below hb4)
  have hsz4 : w2.heap.size ≤ w4.heap.size := Nat.le_trans hsz3 hb4.size
  clear h4 hat4 hn4 hb4
  generalize hxp : encS p = xp at HAT4 HN4 hep ⊢
  have HXP := Lib.hid hxp
  clear hxp
  go_wp2_with (at_builtin; refine app_bytes w2.heap.size _ [] xp A4 c4 (.tmp 20) (.tmp 22) rfl rfl rfl rfl HO4.out HAT4.out HN4.out (by simp; omega) hsz4 ?_; intro v5 w5 hown5 hgr5; have HO5 := Lib.hid (show OwnB w5 w2.heap.size v5 xp by simpa using hown5); have HR5 := Lib.hid hgr5; clear hown5 hgr5)
  have HB5 := Lib.hid ((HB3.out.trans (HB4.out.mono hsz3)).trans HR5.out.below)
  have hsz5 : w2.heap.size ≤ w5.heap.size := Nat.le_trans hsz4 HR5.out.size
  go_wp2_with fail
  refine (enc_walk Aq cq q _ ((HQ2.out.below HB5.out).more hsz5) (by omega) HRQ.out).mono ?_
  intro e w6 h6
  obtain ⟨v6, rfl, hv6, hb6⟩ := isB_of_enc h6
  obtain ⟨A6, c6, rfl, hat6, hn6⟩ := hv6
  have HAT6 := Lib.hid hat6
  have HN6 := Lib.hid hn6
  have HB6 := Lib.hid (HB5.out.trans (hb6.mono hsz5))
  have HO6 := Lib.hid (HO5.out.below hb6)
  have hsz6 : w2.heap.size ≤ w6.heap.size := Nat.le_trans hsz5 hb6.size
  clear h6 hat6 hn6 hb6
  generalize hxq : encS q = xq at HAT6 HN6 heq ⊢
  have HXQ := Lib.hid hxq
  clear hxq
  go_wp2_with (at_builtin; refine app_bytes w2.heap.size v5 xp xq A6 c6 (.tmp 23) (.tmp 25) rfl rfl rfl rfl HO6.out HAT6.out HN6.out (by omega) hsz6 ?_; intro v7 w7 hown7 hgr7; have HO7 := Lib.hid hown7; have HR7 := Lib.hid hgr7; clear hown7 hgr7)
  have HB7 := Lib.hid (HB6.out.trans HR7.out.below)
  have hsz7 : w2.heap.size ≤ w7.heap.size := Nat.le_trans hsz6 HR7.out.size
  have HP := Lib.hid ((HP2.out.below HB7.out).more hsz7)
  have HQ := Lib.hid ((HQ2.out.below HB7.out).more hsz7)
  have HX := Lib.hid (IsB.of_own HO7.out)
  rw [← HXP.out, ← HXQ.out] at HX
  have HBW7 := Lib.hid (HBW2.out.trans (HB7.out.mono hszw))
  have HE2 := Lib.hid (HE.out.below HBW7.out (Nat.le_refl _))
  have hnp := HNP.out
  have hnq := HNQ.out
  have hqb : (q.length : Int) ≤ 8 := by omega
  clear HO7 HR7 HO6 HO5 HO4 HO3 HAT6 HAT4 HN6 HN4 HXP HXQ HW3 hep heq HR5
  refine wp_region_rows [some 27, some 28, some 29, some 30, some 31, some 32, some 33, some 34, some 35, some 36, some 37, some 38, some 39, some 40, some 41, some 42, some 43, some 44, some 45, some 46, some 47, some 48, some 49, some 50, some 51, some 52, some 53, some 4] (PF5 w7 Ap Aq cp cq p q v7) [false, true, false, true, false, false, true, true, true, true, true, true, false, true, false, true, false, true, true, true, true, true, true, true, true, true, true, true] [some 2, none, some 4, none, some 5, some 6, none, none, none, none, none, none, some 14, none, some 16, none, some 17, none, none, none, none, none, none, none, none, none, none, none] [2, 4, 14, 16] (w7.heap.size) (by kernel_rfl) (by kernel_rfl) (by rfl) (by rfl) (Nat.le_refl _) (fun W => PF5_stab w7 Ap Aq cp cq p q v7 W) (PF5_pure w7 Ap Aq cp cq p q v7) (by kernel_rfl) ?_ ?_
  ·
    refine StepsC.cons trivial (fun T W hg => ?_) ?_
    · have hwi := hg.below
      have hsz := hg.size
      clear hg
      refine OpRuns.of_ok (v := .slice (some ⟨W.heap.size, 0, none⟩) 0 0) (W' := W.alloc (.cells #[] 23)) ?_ ⟨OwnV.empty W _ hsz, (Below.refl _ _).alloc (Nat.le_refl _) _⟩
      simp only [execOp, evT]
      go_simp
    refine StepsC.cons trivial (fun T W hg => ?_) ?_
    · have e5 : T 5 = .slice Ap p.length cp := hg.keep 5 (by rfl)
      have hwi := hg.below
      have hsz := hg.size
      clear hg
      refine OpRuns.of_ok (v := .slice Ap p.length cp) (W' := W) ?_ ⟨rfl, Below.refl _ _⟩
      simp only [execOp, evT, e5]
      go_simp
    refine StepsC.cons trivial (fun T W hg => ?_) ?_
    · have p27 : (fun r W => OwnV W w7.heap.size r []) (T 27) W := hg.fact  0 27 (by kernel_rfl)
      simp only at p27
      have e28 : T 28 = .slice Ap p.length cp := hg.fact  1 28 (by kernel_rfl)
      have hwi := hg.below
      have hsz := hg.size
      clear hg
      refine op_append_vals w7.heap.size (T 27) ([]) p Ap cp (.tmp 27) (.tmp 28) rfl rfl e28 p27 ((HP.out.below hwi).more hsz) hnp (by simp; omega) hsz ?_
      intro v' W' h2 h3
      exact ⟨h2, h3.below, h3.size⟩
    refine StepsC.cons trivial (fun T W hg => ?_) ?_
    · have e6 : T 6 = .slice Aq q.length cq := hg.keep 6 (by rfl)
      have hwi := hg.below
      have hsz := hg.size
      clear hg
      refine OpRuns.of_ok (v := .slice Aq q.length cq) (W' := W) ?_ ⟨rfl, Below.refl _ _⟩
      simp only [execOp, evT, e6]
      go_simp
    refine StepsC.cons trivial (fun T W hg => ?_) ?_
    · have p29 : (fun r W => OwnV W w7.heap.size r ([] ++ p)) (T 29) W := hg.fact  2 29 (by kernel_rfl)
      simp only at p29
      have e30 : T 30 = .slice Aq q.length cq := hg.fact  3 30 (by kernel_rfl)
      have hwi := hg.below
      have hsz := hg.size
      clear hg
      refine op_append_vals w7.heap.size (T 29) ([] ++ p) q Aq cq (.tmp 29) (.tmp 30) rfl rfl e30 p29 ((HQ.out.below hwi).more hsz) hnq (by simp; omega) hsz ?_
      intro v' W' h2 h3
      exact ⟨h2, h3.below, h3.size⟩
    refine StepsC.cons trivial (fun T W hg => ?_) ?_
    · have p31 : (fun r W => OwnV W w7.heap.size r ([] ++ p ++ q)) (T 31) W := hg.fact  4 31 (by kernel_rfl)
      simp only at p31
      have hwi := hg.below
      have hsz := hg.size
      clear hg
      obtain ⟨A', c', e31, hat⟩ := p31.slice
      refine OpRuns.of_call ?_ ((enc_walk A' c' ([] ++ p ++ q) _ hat (by simp; omega) HRR.out).mono fun e W' h => ?_)
      · simp only [execOp, resolve, invoke, List.map_toArray, List.map_cons, List.map_nil, evT, e31]
        go_simp
      · obtain ⟨v, he, hv, hb⟩ := isB_of_enc h
        rw [HEN.out] at hv
        exact ⟨v, he, hv, hb⟩
    refine StepsC.cons trivial (fun T W hg => ?_) ?_
    · have p32 : (fun r W => IsB W r (encS p ++ encS q)) (T 32) W := hg.fact  5 32 (by kernel_rfl)
      simp only at p32
      have hwi := hg.below
      have hsz := hg.size
      clear hg
      refine OpRuns.of_ok (v := .string ⟨(encS p ++ encS q).toArray⟩) (W' := W) ?_ ⟨rfl, Below.refl _ _⟩
      obtain ⟨A', c', e32, hat, _⟩ := p32
      have hcv := conv_at c' hat
      simp only [execOp, evT, e32]
      generalize encS p ++ encS q = xl at hcv
      go_simp
    refine StepsC.cons trivial (fun T W hg => ?_) ?_
    · have e7 : T 7 = v7 := hg.keep 7 (by rfl)
      have hwi := hg.below
      have hsz := hg.size
      clear hg
      refine OpRuns.of_ok (v := v7) (W' := W) ?_ ⟨rfl, Below.refl _ _⟩
      simp only [execOp, evT, e7]
      go_simp
    refine StepsC.cons trivial (fun T W hg => ?_) ?_
    · have e34 : T 34 = v7 := hg.fact  7 34 (by kernel_rfl)
      have hwi := hg.below
      have hsz := hg.size
      clear hg
      refine OpRuns.of_ok (v := .string ⟨(encS p ++ encS q).toArray⟩) (W' := W) ?_ ⟨rfl, Below.refl _ _⟩
      obtain ⟨A', c', ex, hat, _⟩ := HX.out.below hwi
      have hcv := conv_at c' hat
      simp only [execOp, evT, e34, ex]
      generalize encS p ++ encS q = xl at hcv
      go_simp
    refine StepsC.cons trivial (fun T W hg => ?_) ?_
    · have e33 : T 33 = .string ⟨(encS p ++ encS q).toArray⟩ := hg.fact  6 33 (by kernel_rfl)
      have e35 : T 35 = .string ⟨(encS p ++ encS q).toArray⟩ := hg.fact  8 35 (by kernel_rfl)
      have hwi := hg.below
      have hsz := hg.size
      clear hg
      refine OpRuns.of_ok (v := .bool true) (W' := W) ?_ ⟨rfl, Below.refl _ _⟩
      simp only [execOp, evT, e33, e35]
      go_simp
    refine StepsC.cons trivial (fun T W hg => ?_) ?_
    · have e36 : T 36 = .bool true := hg.fact  9 36 (by kernel_rfl)
      have hwi := hg.below
      have hsz := hg.size
      clear hg
      refine OpRuns.of_ok (v := .bool true) (W' := W) ?_ ⟨rfl, Below.refl _ _⟩
      simp only [execOp, evT, e36]
      go_simp
    refine StepsC.cons ⟨37, by kernel_rfl, fun _ _ h => h⟩ (fun T W hg => ?_) ?_
    · have e5 : T 5 = .slice Ap p.length cp := hg.keep 5 (by rfl)
      have hwi := hg.below
      have hsz := hg.size
      clear hg
      refine OpRuns.of_ok (v := .slice Ap p.length cp) (W' := W) ?_ ⟨rfl, Below.refl _ _⟩
      simp only [execOp, evT, e5]
      go_simp
    refine StepsC.cons ⟨37, by kernel_rfl, fun _ _ h => h⟩ (fun T W hg => ?_) ?_
    · have hwi := hg.below
      have hsz := hg.size
      clear hg
      refine OpRuns.of_ok (v := .slice (some ⟨W.heap.size, 0, none⟩) 0 0) (W' := W.alloc (.cells #[] 23)) ?_ ⟨OwnV.empty W _ hsz, (Below.refl _ _).alloc (Nat.le_refl _) _⟩
      simp only [execOp, evT]
      go_simp
    refine StepsC.cons ⟨37, by kernel_rfl, fun _ _ h => h⟩ (fun T W hg => ?_) ?_
    · have e5 : T 5 = .slice Ap p.length cp := hg.keep 5 (by rfl)
      have hwi := hg.below
      have hsz := hg.size
      clear hg
      refine OpRuns.of_ok (v := .slice Ap p.length cp) (W' := W) ?_ ⟨rfl, Below.refl _ _⟩
      simp only [execOp, evT, e5]
      go_simp
    refine StepsC.cons ⟨37, by kernel_rfl, fun _ _ h => h⟩ (fun T W hg => ?_) ?_
    · have p39 : (fun r W => OwnV W w7.heap.size r []) (T 39) W := hg.fact  12 39 (by kernel_rfl)
      simp only at p39
      have e40 : T 40 = .slice Ap p.length cp := hg.fact  13 40 (by kernel_rfl)
      have hwi := hg.below
      have hsz := hg.size
      clear hg
      refine op_append_vals w7.heap.size (T 39) ([]) p Ap cp (.tmp 39) (.tmp 40) rfl rfl e40 p39 ((HP.out.below hwi).more hsz) hnp (by simp; omega) hsz ?_
      intro v' W' h2 h3
      exact ⟨h2, h3.below, h3.size⟩
    refine StepsC.cons ⟨37, by kernel_rfl, fun _ _ h => h⟩ (fun T W hg => ?_) ?_
    · have e6 : T 6 = .slice Aq q.length cq := hg.keep 6 (by rfl)
      have hwi := hg.below
      have hsz := hg.size
      clear hg
      refine OpRuns.of_ok (v := .slice Aq q.length cq) (W' := W) ?_ ⟨rfl, Below.refl _ _⟩
      simp only [execOp, evT, e6]
      go_simp
    refine StepsC.cons ⟨37, by kernel_rfl, fun _ _ h => h⟩ (fun T W hg => ?_) ?_
    · have p41 : (fun r W => OwnV W w7.heap.size r ([] ++ p)) (T 41) W := hg.fact  14 41 (by kernel_rfl)
      simp only at p41
      have e42 : T 42 = .slice Aq q.length cq := hg.fact  15 42 (by kernel_rfl)
      have hwi := hg.below
      have hsz := hg.size
      clear hg
      refine op_append_vals w7.heap.size (T 41) ([] ++ p) q Aq cq (.tmp 41) (.tmp 42) rfl rfl e42 p41 ((HQ.out.below hwi).more hsz) hnq (by simp; omega) hsz ?_
      intro v' W' h2 h3
      exact ⟨h2, h3.below, h3.size⟩
    refine StepsC.cons ⟨37, by kernel_rfl, fun _ _ h => h⟩ (fun T W hg => ?_) ?_
    · have e38 : T 38 = .slice Ap p.length cp := hg.fact  11 38 (by kernel_rfl)
      have p43 : (fun r W => OwnV W w7.heap.size r ([] ++ p ++ q)) (T 43) W := hg.fact  16 43 (by kernel_rfl)
      simp only at p43
      have hwi := hg.below
      have hsz := hg.size
      clear hg
      obtain ⟨A', c', e43, hat⟩ := p43.slice
      refine OpRuns.of_call ?_ ((tuples_any Ap A' cp c' p ([] ++ p ++ q) _ ((HP.out.below hwi).more hsz) hat (by omega) (by simp; omega)).mono fun e W' ⟨he, hb⟩ => ⟨_, he, ?_, hb⟩)
      · simp only [execOp, resolve, invoke, List.map_toArray, List.map_cons, List.map_nil, evT, e38, e43]
        go_simp
      · show Value.int .i64 (cmpL p ([] ++ p ++ q)) = _
        rw [HCM.out]
    refine StepsC.cons ⟨37, by kernel_rfl, fun _ _ h => h⟩ (fun T W hg => ?_) ?_
    · have e6 : T 6 = .slice Aq q.length cq := hg.keep 6 (by rfl)
      have hwi := hg.below
      have hsz := hg.size
      clear hg
      refine OpRuns.of_ok (v := .slice Aq q.length cq) (W' := W) ?_ ⟨rfl, Below.refl _ _⟩
      simp only [execOp, evT, e6]
      go_simp
    refine StepsC.cons ⟨37, by kernel_rfl, fun _ _ h => h⟩ (fun T W hg => ?_) ?_
    · have e45 : T 45 = .slice Aq q.length cq := hg.fact  18 45 (by kernel_rfl)
      have hwi := hg.below
      have hsz := hg.size
      clear hg
      refine OpRuns.of_ok (v := .int .i64 (q.length : Int)) (W' := W) ?_ ⟨rfl, Below.refl _ _⟩
      simp only [execOp, resolve, invoke, List.map_toArray, List.map_cons, List.map_nil, evT, e45]
      go_simp
    refine StepsC.cons ⟨37, by kernel_rfl, fun _ _ h => h⟩ (fun T W hg => ?_) ?_
    · have e46 : T 46 = .int .i64 (q.length : Int) := hg.fact  19 46 (by kernel_rfl)
      have hwi := hg.below
      have hsz := hg.size
      clear hg
      refine OpRuns.of_ok (v := .int .i64 (min (q.length : Int) 1)) (W' := W) ?_ ⟨rfl, Below.refl _ _⟩
      simp only [execOp, resolve, invoke, List.map_toArray, List.map_cons, List.map_nil, evT, e46]
      go_simp
    refine StepsC.cons ⟨37, by kernel_rfl, fun _ _ h => h⟩ (fun T W hg => ?_) ?_
    · have e47 : T 47 = .int .i64 (min (q.length : Int) 1) := hg.fact  20 47 (by kernel_rfl)
      have hwi := hg.below
      have hsz := hg.size
      clear hg
      refine OpRuns.of_ok (v := .int .i64 (-(min (q.length : Int) 1))) (W' := W) ?_ ⟨rfl, Below.refl _ _⟩
      simp only [execOp, evT, e47]
      go_simp
      exact IntWalk.i64_in _ (by omega)
    refine StepsC.cons ⟨37, by kernel_rfl, fun _ _ h => h⟩ (fun T W hg => ?_) ?_
    · have e44 : T 44 = .int .i64 (-(min (q.length : Int) 1)) := hg.fact  17 44 (by kernel_rfl)
      have e48 : T 48 = .int .i64 (-(min (q.length : Int) 1)) := hg.fact  21 48 (by kernel_rfl)
      have hwi := hg.below
      have hsz := hg.size
      clear hg
      refine OpRuns.of_ok (v := .bool true) (W' := W) ?_ ⟨rfl, Below.refl _ _⟩
      simp only [execOp, evT, e44, e48]
      go_simp
    refine StepsC.cons trivial (fun T W hg => ?_) ?_
    · have e37 : T 37 = .bool true := hg.fact  10 37 (by kernel_rfl)
      have e49 : T 49 = .bool true := hg.fact  22 49 (by kernel_rfl)
      have hwi := hg.below
      have hsz := hg.size
      clear hg
      refine OpRuns.of_ok (v := .bool true) (W' := W) ?_ ⟨rfl, Below.refl _ _⟩
      simp only [execOp, evT, e37, e49]
      go_simp
    refine StepsC.cons trivial (fun T W hg => ?_) ?_
    · have e50 : T 50 = .bool true := hg.fact  23 50 (by kernel_rfl)
      have hwi := hg.below
      have hsz := hg.size
      clear hg
      refine OpRuns.of_ok (v := .bool true) (W' := W) ?_ ⟨rfl, Below.refl _ _⟩
      simp only [execOp, evT, e50]
      go_simp
    refine StepsC.cons ⟨51, by kernel_rfl, fun _ _ h => h⟩ (fun T W hg => ?_) ?_
    · have hwi := hg.below
      have hsz := hg.size
      clear hg
      refine OpRuns.of_call ?_ ((known_any _ (HE2.out.below hwi (Nat.le_refl _))).mono fun e W' ⟨he, hb⟩ => ⟨_, he, rfl, hb⟩)
      simp only [execOp, resolve, invoke, List.map_toArray, List.map_nil, evT]
      go_simp
    refine StepsC.cons trivial (fun T W hg => ?_) ?_
    · have e51 : T 51 = .bool true := hg.fact  24 51 (by kernel_rfl)
      have e52 : T 52 = .bool true := hg.fact  25 52 (by kernel_rfl)
      have hwi := hg.below
      have hsz := hg.size
      clear hg
      refine OpRuns.of_ok (v := .bool true) (W' := W) ?_ ⟨rfl, Below.refl _ _⟩
      simp only [execOp, evT, e51, e52]
      go_simp
    refine StepsC.cons trivial (fun T W hg => ?_) ?_
    · have e53 : T 53 = .bool true := hg.fact  26 53 (by kernel_rfl)
      have hwi := hg.below
      have hsz := hg.size
      clear hg
      refine OpRuns.of_ok (v := .bool true) (W' := W) ?_ ⟨rfl, Below.refl _ _⟩
      simp only [execOp, evT, e53]
      go_simp
    exact StepsC.nil
  · intro us W1 hlen hF hb hsz1
    obtain ⟨y0, us0, rfl, hl0⟩ := len_cons hlen
    clear hlen
    obtain ⟨y1, us1, rfl, hl1⟩ := len_cons hl0
    clear hl0
    obtain ⟨y2, us2, rfl, hl2⟩ := len_cons hl1
    clear hl1
    obtain ⟨y3, us3, rfl, hl3⟩ := len_cons hl2
    clear hl2
    obtain ⟨y4, us4, rfl, hl4⟩ := len_cons hl3
    clear hl3
    obtain ⟨y5, us5, rfl, hl5⟩ := len_cons hl4
    clear hl4
    obtain ⟨y6, us6, rfl, hl6⟩ := len_cons hl5
    clear hl5
    obtain ⟨y7, us7, rfl, hl7⟩ := len_cons hl6
    clear hl6
    obtain ⟨y8, us8, rfl, hl8⟩ := len_cons hl7
    clear hl7
    obtain ⟨y9, us9, rfl, hl9⟩ := len_cons hl8
    clear hl8
    obtain ⟨y10, us10, rfl, hl10⟩ := len_cons hl9
    clear hl9
    obtain ⟨y11, us11, rfl, hl11⟩ := len_cons hl10
    clear hl10
    obtain ⟨y12, us12, rfl, hl12⟩ := len_cons hl11
    clear hl11
    obtain ⟨y13, us13, rfl, hl13⟩ := len_cons hl12
    clear hl12
    obtain ⟨y14, us14, rfl, hl14⟩ := len_cons hl13
    clear hl13
    obtain ⟨y15, us15, rfl, hl15⟩ := len_cons hl14
    clear hl14
    obtain ⟨y16, us16, rfl, hl16⟩ := len_cons hl15
    clear hl15
    obtain ⟨y17, us17, rfl, hl17⟩ := len_cons hl16
    clear hl16
    obtain ⟨y18, us18, rfl, hl18⟩ := len_cons hl17
    clear hl17
    obtain ⟨y19, us19, rfl, hl19⟩ := len_cons hl18
    clear hl18
    obtain ⟨y20, us20, rfl, hl20⟩ := len_cons hl19
    clear hl19
    obtain ⟨y21, us21, rfl, hl21⟩ := len_cons hl20
    clear hl20
    obtain ⟨y22, us22, rfl, hl22⟩ := len_cons hl21
    clear hl21
    obtain ⟨y23, us23, rfl, hl23⟩ := len_cons hl22
    clear hl22
    obtain ⟨y24, us24, rfl, hl24⟩ := len_cons hl23
    clear hl23
    obtain ⟨y25, us25, rfl, hl25⟩ := len_cons hl24
    clear hl24
    obtain ⟨y26, us26, rfl, hl26⟩ := len_cons hl25
    clear hl25
    obtain ⟨y27, us27, rfl, hl27⟩ := len_cons hl26
    clear hl26
    obtain rfl := len_nil hl27
    clear hl27
    have f26 : y26 = .bool true := hF 26 (by decide) rfl
    have f27 : y27 = .bool true := hF 27 (by decide) rfl
    clear hF
    subst f26
    subst f27
    simp only [updO, List.zip_cons_cons, List.zip_nil_right, List.setIfInBounds_toArray, List.set_cons_succ, List.set_cons_zero]
    have HB8 := Lib.hid hb
    clear hb
    go_wp2
    go_ret
    exact ⟨rfl, HBW7.out.trans (HB8.out.mono HBW7.out.size)⟩
set_option maxRecDepth 100000 in
set_option maxHeartbeats 1000000 in
theorem prefix_any (A B : Option Addr) (ca cb : Nat) (a b : List V) (w : World) (hA : At w w.heap.size A (cellsV a)) (hB : At w w.heap.size B (cellsV b)) (hE : Env w)
    (hra : ∀ v ∈ a, -9223372036854775808 ≤ v.n ∧ v.n ≤ 9223372036854775807) (hrb : ∀ v ∈ b, -9223372036854775808 ≤ v.n ∧ v.n ≤ 9223372036854775807) (hla : a.length ≤ 9223372036854775807) (hlb : b.length ≤ 9223372036854775807) :
    Calls Tryd.prog 7 #[.slice A a.length ca, .slice B b.length cb] w (LawPost w) := by
  have HFA := Lib.hid (fits_any A ca a w hA hla)
  have HFB := Lib.hid (fits_any B cb b w hB hlb)
  cases hfa : fitsB a
  · rw [hfa] at HFA
    clear hra hrb hE hA hB hfa HFB
    go_enter Tryd.func7, Tryd.ntmps7
    go_wp2_with fail
    refine HFA.out.mono ?_
    rintro e w' ⟨rfl, rfl⟩
    go_wp2
    go_ret
    exact ⟨rfl, Below.refl _ _⟩
  · cases hfb : fitsB b
    · rw [hfa] at HFA
      rw [hfb] at HFB
      clear hra hrb hE hA hB hfa hfb
      go_enter Tryd.func7, Tryd.ntmps7
      go_wp2_with fail
      refine HFA.out.mono ?_
      rintro e w' ⟨rfl, rfl⟩
      go_wp2_with fail
      refine HFB.out.mono ?_
      rintro e w' ⟨rfl, rfl⟩
      go_wp2
      go_ret
      exact ⟨rfl, Below.refl _ _⟩
    · exact prefix_main A B ca cb a b w hA hB hE hra hrb hfa hfb
end Go.Proofs.YtpjfkhbdhdolfaaDoor
