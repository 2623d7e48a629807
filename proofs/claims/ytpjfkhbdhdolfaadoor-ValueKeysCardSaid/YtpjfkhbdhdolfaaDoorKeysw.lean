/-
  The law ValueKeys, walked: for every two lists of values it returns true.
-/
import Derived.Test.YtpjfkhbdhdolfaaDoorSame
import Derived.Test.YtpjfkhbdhdolfaaDoorDecb
import Derived.Lib.ConvBytes
import Derived.Lib.SmallJoins
namespace Go.Proofs.YtpjfkhbdhdolfaaDoor
open Go.RowKit

/-- []byte(s): a new row that holds the string's bytes. -/
theorem conv_bytes (w : World) (l : List UInt8) (hl : l.length ≤ 9223372036854775807) : ∃ c W, (convert 9 24 (.string ⟨l.toArray⟩)).run Tryd.prog w = .ok (.slice (some ⟨w.heap.size, 0, none⟩) l.length c) W ∧ At W W.heap.size (some ⟨w.heap.size, 0, none⟩) (cellsB l) ∧ l.length ≤ c ∧ c ≤ 9223372036854775807 ∧ Below w.heap.size w W := by
  have hsz : (⟨l.toArray⟩ : ByteArray).size = l.length := by simp [ByteArray.size]
  refine ⟨grownCap w l.length 0 5, Lib.bytesWorld w 5 ⟨l.toArray⟩, ?_, ?_, grownCap_ge _ _ _ _, ?_, ?_⟩
  · have := Lib.run_convert_string_bytes (P := Tryd.prog) w 9 24 5 ⟨l.toArray⟩ Tryd.underlying9 Tryd.underlying24 Tryd.underlying5
    rwa [hsz] at this
  · intro _
    refine ⟨w.heap.size, 0, rfl, by rw [Lib.bytesWorld_size]; omega, fun j u hu => ?_⟩
    have hj : j < l.length := by
      have := (List.getElem?_eq_some_iff.1 hu).1
      rwa [cellsB_length] at this
    rw [Nat.zero_add, Lib.bytesWorld_cell w 5 ⟨l.toArray⟩ j (by rw [hsz]; exact hj), ← hu]
    simp [cellsB, List.getElem?_eq_getElem hj, List.getD]
  · have := grownCap_le_maxLen w l.length 0 5 (by unfold maxLen; omega)
    unfold maxLen at this
    omega
  · exact Joins.below_bytesWorld _ w _ _ (Nat.le_refl _)
def KY4 (Ap Aq : Option Addr) (cp cq : Nat) (p q : List V) (X Y : List UInt8) : List (Value → World → Prop) := [
  fun r _ => r = .slice Ap p.length cp,
  fun r W => IsB W r X,
  fun r _ => r = .string ⟨X.toArray⟩,
  fun r _ => r = .slice Aq q.length cq,
  fun r W => IsB W r Y,
  fun r _ => r = .string ⟨Y.toArray⟩,
  fun r _ => r = .string ⟨X.toArray⟩,
  fun r _ => r = .string ⟨Y.toArray⟩]
theorem KY4_stab (Ap Aq : Option Addr) (cp cq : Nat) (p q : List V) (X Y : List UInt8) (W0 : World) : Stab W0 (KY4 Ap Aq cp cq p q X Y) :=
  .eq <| .cons (fun _ _ _ _ h hb => h.below hb) <| .eq <| .eq <| .cons (fun _ _ _ _ h hb => h.below hb) <| .eq <| .eq <| .eq <| .nil

set_option maxRecDepth 100000 in
set_option maxHeartbeats 4000000 in
theorem keys_main (A B : Option Addr) (ca cb : Nat) (a b : List V) (w : World) (hA : At w w.heap.size A (cellsV a)) (hB : At w w.heap.size B (cellsV b)) (hE : Env w)
    (hra : ∀ v ∈ a, -9223372036854775808 ≤ v.n ∧ v.n ≤ 9223372036854775807) (hrb : ∀ v ∈ b, -9223372036854775808 ≤ v.n ∧ v.n ≤ 9223372036854775807) (hfa : fitsB a = true) (hfb : fitsB b = true) :
    Calls Tryd.prog 9 #[.slice A a.length ca, .slice B b.length cb] w (LawPost w) := by
  have hla : a.length ≤ 8 := by simp [fitsB] at hfa; exact hfa.1
  have hlb : b.length ≤ 8 := by simp [fitsB] at hfb; exact hfb.1
  have HFA := Lib.hid (fits_any A ca a w hA (by omega))
  have HFB := Lib.hid (fits_any B cb b w hB (by omega))
  rw [hfa] at HFA
  rw [hfb] at HFB
  have HA := Lib.hid hA
  have HB := Lib.hid hB
  have HE := Lib.hid hE
  obtain ⟨p, hp⟩ : ∃ p, a.map mkV = p := ⟨_, rfl⟩
  obtain ⟨q, hq⟩ : ∃ q, b.map mkV = q := ⟨_, rfl⟩
  have hlp : p.length ≤ 8 := by rw [← hp]; simpa using hla
  have hlq : q.length ≤ 8 := by rw [← hq]; simpa using hlb
  have HPE := Lib.hid hp
  have HQE := Lib.hid hq
  have HRP := Lib.hid (mk_ranges hra)
  have HRQ := Lib.hid (mk_ranges hrb)
  have HOP := Lib.hid (mk_oks a)
  have HOQ := Lib.hid (mk_oks b)
  rw [hp] at HRP HOP
  rw [hq] at HRQ HOQ
  obtain ⟨X, hX⟩ : ∃ X, encS p = X := ⟨_, rfl⟩
  obtain ⟨Y, hY⟩ : ∃ Y, encS q = Y := ⟨_, rfl⟩
  have hXe : encL p = X := by rw [← hX, encS, if_pos HOP.out]
  have hYe : encL q = Y := by rw [← hY, encS, if_pos HOQ.out]
  have hep : X.length ≤ 1000 := by have := encL_length HOP.out; rw [← hXe]; omega
  have HX := Lib.hid hX
  have HY := Lib.hid hY
  have HDX : Hid (decL X = some p) := by rw [← hXe]; exact decL_enc p HOP.out HRP.out
  obtain ⟨o, ho⟩ : ∃ o, cmpL p q = o := ⟨_, rfl⟩
  have HCM : Hid (Lib.compareBytes X Y = o) := by rw [← hXe, ← hYe, ← ho]; exact cmp_encL p q HOP.out HOQ.out HRP.out HRQ.out
  have HO := Lib.hid ho
  have hXn : (X.length = 0 ↔ p.length = 0) := by
    rw [← hXe]
    cases p with
    | nil => simp [encL]
    | cons v p =>
      rw [encL_cons]
      have := enc_ne_nil v
      simp [this]
  have HXN := Lib.hid hXn
  clear hA hB hE hra hrb hfa hfb hp hq hX hY hXe hYe ho hXn
  go_enter Tryd.func9, Tryd.ntmps9
  go_wp2_with fail
  refine HFA.out.mono ?_
  rintro e w' ⟨rfl, rfl⟩
  go_wp2_with fail
  refine HFB.out.mono ?_
  rintro e w' ⟨rfl, rfl⟩
  go_wp2_with fail
  refine (valids_any A ca a _ HA.out (by omega)).mono ?_
  rintro e w1 ⟨pv, rfl, hop, hb1⟩
  rw [HPE.out] at hop
  obtain ⟨Ap, cp, rfl, hatp, _⟩ := IsV.of_own hop
  have HP1 := Lib.hid hatp
  have HBW1 := Lib.hid hb1
  have hsz1 := hb1.size
  clear hop hatp hb1
  go_wp2_with fail
  refine (valids_any B cb b _ ((HB.out.below HBW1.out).more hsz1) (by omega)).mono ?_
  rintro e w2 ⟨qv, rfl, hoq, hb2⟩
  rw [HQE.out] at hoq
  obtain ⟨Aq, cq, rfl, hatq, _⟩ := IsV.of_own hoq
  have hsz2 := hb2.size
  have HBW2 := Lib.hid (below_then HBW1.out hb2 hsz1)
  have HP := Lib.hid ((HP1.out.below hb2).more hsz2)
  have HQ := Lib.hid hatq
  have hszw := HBW2.out.size
  clear hoq hatq hb2 HP1
  go_wp2
  refine wp_region_below [some 24, some 25, some 26, some 27, some 28, some 29, some 7, some 8] (KY4 Ap Aq cp cq p q X Y) (by kernel_rfl) (by kernel_rfl) (by rfl) (by rfl) (KY4_stab Ap Aq cp cq p q X Y _) ?_ ?_
  ·
    refine Steps.cons trivial (fun T W hg => ?_) ?_
    · have e5 : T 5 = .slice Ap p.length cp := hg.keep 5 (by rfl)
      have hwi := hg.wi
      clear hg
      refine OpRuns.of_ok (v := .slice Ap p.length cp) (W' := W) ?_ ⟨rfl, Below.refl _ _⟩
      simp only [execOp, evT, e5]
      go_simp
    refine Steps.cons trivial (fun T W hg => ?_) ?_
    · have e24 : T 24 = .slice Ap p.length cp := hg.fact 1 0 24 (by kernel_rfl)
      have hwi := hg.wi
      clear hg
      refine OpRuns.of_call ?_ ((enc_walk Ap cp p _ ((HP.out.below hwi).more hwi.size) (by omega) HRP.out).mono fun e W' h => ?_)
      · simp only [execOp, resolve, invoke, List.map_toArray, List.map_cons, List.map_nil, evT, e24]; go_simp
      · obtain ⟨v, he, hv, hb⟩ := isB_of_enc h
        rw [HX.out] at hv
        exact ⟨v, he, hv, hb⟩
    refine Steps.cons trivial (fun T W hg => ?_) ?_
    · have p25 : (fun r W => IsB W r X) (T 25) W := hg.fact 1 1 25 (by kernel_rfl)
      simp only at p25
      have hwi := hg.wi
      clear hg
      refine OpRuns.of_ok (v := .string ⟨X.toArray⟩) (W' := W) ?_ ⟨rfl, Below.refl _ _⟩
      obtain ⟨A', c', e25, hat, _⟩ := p25
      have hcv := conv_at c' hat
      simp only [execOp, evT, e25]
      go_simp
    refine Steps.cons trivial (fun T W hg => ?_) ?_
    · have e6 : T 6 = .slice Aq q.length cq := hg.keep 6 (by rfl)
      have hwi := hg.wi
      clear hg
      refine OpRuns.of_ok (v := .slice Aq q.length cq) (W' := W) ?_ ⟨rfl, Below.refl _ _⟩
      simp only [execOp, evT, e6]
      go_simp
    refine Steps.cons trivial (fun T W hg => ?_) ?_
    · have e27 : T 27 = .slice Aq q.length cq := hg.fact 1 3 27 (by kernel_rfl)
      have hwi := hg.wi
      clear hg
      refine OpRuns.of_call ?_ ((enc_walk Aq cq q _ ((HQ.out.below hwi).more hwi.size) (by omega) HRQ.out).mono fun e W' h => ?_)
      · simp only [execOp, resolve, invoke, List.map_toArray, List.map_cons, List.map_nil, evT, e27]; go_simp
      · obtain ⟨v, he, hv, hb⟩ := isB_of_enc h
        rw [HY.out] at hv
        exact ⟨v, he, hv, hb⟩
    refine Steps.cons trivial (fun T W hg => ?_) ?_
    · have p28 : (fun r W => IsB W r Y) (T 28) W := hg.fact 1 4 28 (by kernel_rfl)
      simp only at p28
      have hwi := hg.wi
      clear hg
      refine OpRuns.of_ok (v := .string ⟨Y.toArray⟩) (W' := W) ?_ ⟨rfl, Below.refl _ _⟩
      obtain ⟨A', c', e28, hat, _⟩ := p28
      have hcv := conv_at c' hat
      simp only [execOp, evT, e28]
      go_simp
    refine Steps.cons trivial (fun T W hg => ?_) ?_
    · have e26 : T 26 = .string ⟨X.toArray⟩ := hg.fact 1 2 26 (by kernel_rfl)
      have hwi := hg.wi
      clear hg
      refine OpRuns.of_ok (v := .string ⟨X.toArray⟩) (W' := W) ?_ ⟨rfl, Below.refl _ _⟩
      simp only [execOp, evT, e26]
      go_simp
    refine Steps.cons trivial (fun T W hg => ?_) ?_
    · have e29 : T 29 = .string ⟨Y.toArray⟩ := hg.fact 1 5 29 (by kernel_rfl)
      have hwi := hg.wi
      clear hg
      refine OpRuns.of_ok (v := .string ⟨Y.toArray⟩) (W' := W) ?_ ⟨rfl, Below.refl _ _⟩
      simp only [execOp, evT, e29]
      go_simp
    exact Steps.nil
  · intro us W1 hlen hF hb
    obtain ⟨y0, us0, rfl, hl0⟩ := len_cons hlen
    clear hlen
    obtain ⟨y1, us1, rfl, hl1⟩ := len_cons hl0
    clear hl0
    obtain ⟨y2, us2, rfl, hl2⟩ := len_cons hl1
    clear hl1
    obtain ⟨y3, us3, rfl, hl3⟩ := len_cons hl2
    clear hl2
    obtain ⟨y4, us4, rfl, hl4⟩ := len_cons hl3
    clear hl3
    obtain ⟨y5, us5, rfl, hl5⟩ := len_cons hl4
    clear hl4
    obtain ⟨y6, us6, rfl, hl6⟩ := len_cons hl5
    clear hl5
    obtain ⟨y7, us7, rfl, hl7⟩ := len_cons hl6
    clear hl6
    obtain rfl := len_nil hl7
    clear hl7
    have f6 : y6 = .string ⟨X.toArray⟩ := hF 6 (by decide)
    have f7 : y7 = .string ⟨Y.toArray⟩ := hF 7 (by decide)
    clear hF
    subst f6
    subst f7
    simp only [updO, List.zip_cons_cons, List.zip_nil_right, List.setIfInBounds_toArray, List.set_cons_succ, List.set_cons_zero]
    have HB3 := Lib.hid hb
    have hsz3 := hb.size
    clear hb
    have HP3 := Lib.hid ((HP.out.below HB3.out).more hsz3)
    have HQ3 := Lib.hid ((HQ.out.below HB3.out).more hsz3)
    have HBW3 := Lib.hid (HBW2.out.trans (HB3.out.mono hszw))
    have hszw3 := HBW3.out.size
    have h3 := compareBytes_three X Y
    rw [HCM.out] at h3
    have k1 : Op.bytesLess X Y = decide (o < 0) := by rw [less_cmp, HCM.out]
    have k2 : (X == Y) = decide (o = 0) := by
      rw [Bool.eq_iff_iff]
      simp only [beq_iff_eq, decide_eq_true_eq]
      rw [← compareBytes_eq, HCM.out]
    have HE3 := Lib.hid (HE.out.below HBW3.out (Nat.le_refl _))
    obtain ⟨cx, W4, hcv, hat4, hlc4, hcm4, hb4⟩ := conv_bytes W1 X (by omega)
    have HAT4 := Lib.hid hat4
    have HB4 := Lib.hid hb4
    have hsz4 := hb4.size
    clear hat4 hb4
    have HDW := Lib.hid (dec_walk _ cx X W4 HAT4.out hlc4 hcm4 (by omega))
    have hxp : (0 < X.length ∧ 0 < p.length) ∨ (X.length = 0 ∧ p.length = 0) := by have := HXN.out; omega
    clear hlc4 hcm4
    have TAIL : ∀ (w5 : World) (e : Ending), DecPost X W4 e w5 → ∃ Ar cr, e = .returned (.tuple #[.slice Ar p.length cr, .int .i64 0]) ∧ At w5 w5.heap.size Ar (cellsV p) ∧ Below W1.heap.size W1 w5 := by
      intro w5 e h5
      obtain ⟨h51, _, hb5⟩ := h5
      obtain ⟨rv, rfl, hrv⟩ := h51 p HDX.out
      obtain ⟨Ar, cr, rfl, hatr, _⟩ := IsV.of_own hrv
      exact ⟨Ar, cr, rfl, hatr, below_then HB4.out hb5 hsz4⟩
    have HT := Lib.hid TAIL
    clear TAIL
    rcases h3 with rfl | rfl | rfl
    · replace k1 : Op.bytesLess X Y = true := k1.trans (by decide)
      replace k2 : (X == Y) = false := k2.trans (by decide)
      go_wp2_with fail
      refine HDW.out.mono ?_
      intro e w5 h5
      obtain ⟨Ar, cr, rfl, hatr, hb5⟩ := HT.out w5 e h5
      have HAR := Lib.hid hatr
      have HB5 := Lib.hid hb5
      have hsz5 := hb5.size
      have HP5 := Lib.hid ((HP3.out.below hb5).more hsz5)
      have HQ5 := Lib.hid ((HQ3.out.below hb5).more hsz5)
      clear h5 hatr hb5 hcv k1 k2
      go_wp2_with fail
      refine (tuples_any Ap Aq cp cq p q _ HP5.out HQ5.out (by omega) (by omega)).mono ?_
      rintro e w6 ⟨he, hb6⟩
      rw [HO.out] at he
      subst he
      have HB6 := Lib.hid hb6
      have hsz6 := hb6.size
      clear hb6
      go_wp2_with fail
      refine (same_any Ar Ap cr cp p _ ((HAR.out.below HB6.out).more hsz6) ((HP5.out.below HB6.out).more hsz6) (by omega)).mono ?_
      rintro e w7 ⟨rfl, hb7⟩
      have HB7 := Lib.hid (below_then (below_then HB5.out HB6.out hsz5) hb7 (Nat.le_trans hsz5 hsz6))
      clear hb7
      rcases hxp with ⟨hx1, hx2⟩ | ⟨hx1, hx2⟩
      all_goals
        go_wp2_with fail
        refine (known_any _ (HE3.out.below HB7.out (Nat.le_refl _))).mono ?_
        rintro e w8 ⟨rfl, hb8⟩
        have HB8 := Lib.hid (below_then HB7.out hb8 HB7.out.size)
        clear hb8
        go_wp2
        go_ret
        exact ⟨rfl, HBW3.out.trans (HB8.out.mono hszw3)⟩
    · replace k1 : Op.bytesLess X Y = false := k1.trans (by decide)
      replace k2 : (X == Y) = true := k2.trans (by decide)
      go_wp2_with fail
      refine HDW.out.mono ?_
      intro e w5 h5
      obtain ⟨Ar, cr, rfl, hatr, hb5⟩ := HT.out w5 e h5
      have HAR := Lib.hid hatr
      have HB5 := Lib.hid hb5
      have hsz5 := hb5.size
      have HP5 := Lib.hid ((HP3.out.below hb5).more hsz5)
      have HQ5 := Lib.hid ((HQ3.out.below hb5).more hsz5)
      clear h5 hatr hb5 hcv k1 k2
      go_wp2_with fail
      refine (tuples_any Ap Aq cp cq p q _ HP5.out HQ5.out (by omega) (by omega)).mono ?_
      rintro e w6 ⟨he, hb6⟩
      rw [HO.out] at he
      subst he
      have HB6 := Lib.hid hb6
      have hsz6 := hb6.size
      clear hb6
      go_wp2_with fail
      refine (same_any Ar Ap cr cp p _ ((HAR.out.below HB6.out).more hsz6) ((HP5.out.below HB6.out).more hsz6) (by omega)).mono ?_
      rintro e w7 ⟨rfl, hb7⟩
      have HB7 := Lib.hid (below_then (below_then HB5.out HB6.out hsz5) hb7 (Nat.le_trans hsz5 hsz6))
      clear hb7
      rcases hxp with ⟨hx1, hx2⟩ | ⟨hx1, hx2⟩
      all_goals
        go_wp2_with fail
        refine (known_any _ (HE3.out.below HB7.out (Nat.le_refl _))).mono ?_
        rintro e w8 ⟨rfl, hb8⟩
        have HB8 := Lib.hid (below_then HB7.out hb8 HB7.out.size)
        clear hb8
        go_wp2
        go_ret
        exact ⟨rfl, HBW3.out.trans (HB8.out.mono hszw3)⟩
    · replace k1 : Op.bytesLess X Y = false := k1.trans (by decide)
      replace k2 : (X == Y) = false := k2.trans (by decide)
      go_wp2_with fail
      refine HDW.out.mono ?_
      intro e w5 h5
      obtain ⟨Ar, cr, rfl, hatr, hb5⟩ := HT.out w5 e h5
      have HAR := Lib.hid hatr
      have HB5 := Lib.hid hb5
      have hsz5 := hb5.size
      have HP5 := Lib.hid ((HP3.out.below hb5).more hsz5)
      have HQ5 := Lib.hid ((HQ3.out.below hb5).more hsz5)
      clear h5 hatr hb5 hcv k1 k2
      go_wp2_with fail
      refine (tuples_any Ap Aq cp cq p q _ HP5.out HQ5.out (by omega) (by omega)).mono ?_
      rintro e w6 ⟨he, hb6⟩
      rw [HO.out] at he
      subst he
      have HB6 := Lib.hid hb6
      have hsz6 := hb6.size
      clear hb6
      go_wp2_with fail
      refine (same_any Ar Ap cr cp p _ ((HAR.out.below HB6.out).more hsz6) ((HP5.out.below HB6.out).more hsz6) (by omega)).mono ?_
      rintro e w7 ⟨rfl, hb7⟩
      have HB7 := Lib.hid (below_then (below_then HB5.out HB6.out hsz5) hb7 (Nat.le_trans hsz5 hsz6))
      clear hb7
      rcases hxp with ⟨hx1, hx2⟩ | ⟨hx1, hx2⟩
      all_goals
        go_wp2_with fail
        refine (known_any _ (HE3.out.below HB7.out (Nat.le_refl _))).mono ?_
        rintro e w8 ⟨rfl, hb8⟩
        have HB8 := Lib.hid (below_then HB7.out hb8 HB7.out.size)
        clear hb8
        go_wp2
        go_ret
        exact ⟨rfl, HBW3.out.trans (HB8.out.mono hszw3)⟩
set_option maxRecDepth 100000 in
set_option maxHeartbeats 1000000 in
theorem keys_any (A B : Option Addr) (ca cb : Nat) (a b : List V) (w : World) (hA : At w w.heap.size A (cellsV a)) (hB : At w w.heap.size B (cellsV b)) (hE : Env w)
    (hra : ∀ v ∈ a, -9223372036854775808 ≤ v.n ∧ v.n ≤ 9223372036854775807) (hrb : ∀ v ∈ b, -9223372036854775808 ≤ v.n ∧ v.n ≤ 9223372036854775807) (hla : a.length ≤ 9223372036854775807) (hlb : b.length ≤ 9223372036854775807) :
    Calls Tryd.prog 9 #[.slice A a.length ca, .slice B b.length cb] w (LawPost w) := by
  have HFA := Lib.hid (fits_any A ca a w hA hla)
  have HFB := Lib.hid (fits_any B cb b w hB hlb)
  cases hfa : fitsB a
  · rw [hfa] at HFA
    clear hra hrb hE hA hB hfa HFB
    go_enter Tryd.func9, Tryd.ntmps9
    go_wp2_with fail
    refine HFA.out.mono ?_
    rintro e w' ⟨rfl, rfl⟩
    go_wp2
    go_ret
    exact ⟨rfl, Below.refl _ _⟩
  · cases hfb : fitsB b
    · rw [hfa] at HFA
      rw [hfb] at HFB
      clear hra hrb hE hA hB hfa hfb
      go_enter Tryd.func9, Tryd.ntmps9
      go_wp2_with fail
      refine HFA.out.mono ?_
      rintro e w' ⟨rfl, rfl⟩
      go_wp2_with fail
      refine HFB.out.mono ?_
      rintro e w' ⟨rfl, rfl⟩
      go_wp2
      go_ret
      exact ⟨rfl, Below.refl _ _⟩
    · exact keys_main A B ca cb a b w hA hB hE hra hrb hfa hfb
end Go.Proofs.YtpjfkhbdhdolfaaDoor
