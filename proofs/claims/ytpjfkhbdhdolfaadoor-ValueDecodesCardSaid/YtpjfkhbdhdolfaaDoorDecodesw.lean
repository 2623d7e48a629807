/-
  The law ValueDecodes, walked: for all bytes, every list of values, every place and every byte it returns true.
-/
import Derived.Test.YtpjfkhbdhdolfaaDoorRefd
import Derived.Test.YtpjfkhbdhdolfaaDoorSame
namespace Go.Proofs.YtpjfkhbdhdolfaaDoor
open Go.RowKit

/-- A row of bytes that is not empty: where it lies. -/
theorem OwnB.lies {w : World} {base : Nat} {v : Value} {l : List UInt8} (h : OwnB w base v l) (hl : 0 < l.length) :
    ∃ g cap cur, v = .slice (some ⟨g, 0, none⟩) l.length cap ∧ base ≤ g ∧ w.heap[g]? = some (.cells cur 5 (0, 0)) ∧ l.length ≤ cap ∧ cap ≤ 9223372036854775807 ∧ g < w.heap.size := by
  rcases h.2 with ⟨_, hn⟩ | ⟨g, cap, cur, rfl, hb, hg, hn, hm, _⟩
  · omega
  · exact ⟨g, cap, cur, rfl, hb, hg, hn, by unfold maxLen at hm; omega, (Array.getElem?_eq_some_iff.1 hg).1⟩
theorem cells_set (l : List UInt8) (i : Nat) (y : UInt8) : cellsB (l.set i y) = (cellsB l).set i (.int .u8 y.toNat) := by simp [cellsB, List.map_set]
/-- One byte of such a row stored anew. -/
theorem OwnB.set {w : World} {base g cap i : Nat} {l : List UInt8} (h : OwnB w base (.slice (some ⟨g, 0, none⟩) l.length cap) l) (y : UInt8) :
    OwnB (w.setCell ⟨g, i, none⟩ (.int .u8 y.toNat)) base (.slice (some ⟨g, 0, none⟩) (l.set i y).length cap) (l.set i y) := by
  rcases h.2 with ⟨hv, _⟩ | ⟨g', cap', cur, hv, hb, hg, hn, hm, hs, ht⟩
  · cases hv
  · injection hv with h1 h2 h3
    injection h1 with h1
    injection h1 with h1
    subst h1 h3
    unfold OwnB
    rw [List.length_set]
    refine ⟨by rw [cellsB_length, List.length_set]; omega, .inr ⟨g, cap, cur.setIfInBounds i (.int .u8 y.toNat), rfl, hb, ?_, hn, hm, by simpa using hs, ?_⟩⟩
    · simp [World.setCell, Array.getElem?_modify, hg]
    · rw [cells_set, ← ht, Array.toList_setIfInBounds, Nat.mul_one, List.take_set]
theorem row_cell {w : World} {base g cap i : Nat} {l : List UInt8} {d : UInt8} (h : OwnB w base (.slice (some ⟨g, 0, none⟩) l.length cap) l) (hi : i < l.length) (hd : l[i] = d) : w.cell? ⟨g, i, none⟩ = some (.int .u8 d.toNat) := by
  obtain ⟨b, off, e, _, hc⟩ := (h.at_).byte hi
  cases e
  have := hc i hi
  rwa [Nat.zero_add, hd] at this
theorem row_free {w : World} {g : Nat} {cur : Array Value} {t : TypeId} (h : w.heap[g]? = some (.cells cur t (0, 0))) (i : Nat) : w.frozen? ⟨g, i, none⟩ = false := by simp [World.frozen?, h]
theorem xor_byte (d y : UInt8) : bits .xor .u8 (d.toNat : Int) (y.toNat : Int) = ((d ^^^ y).toNat : Int) := by
  rw [u8_xor_nat _ _ d.toNat_lt y.toNat_lt]
  simp [UInt8.toNat_xor]
theorem decN_length : ∀ (n : Nat) (b : List UInt8) (l : List V), b.length ≤ n → decN n b = some l → l.length ≤ b.length
  | 0, b, l, _, h => by
    simp only [decN, Option.some.injEq] at h
    subst h; simp
  | n + 1, [], l, _, h => by
    simp only [decN, Option.some.injEq] at h
    subst h; simp
  | n + 1, c :: b, l, hn, h => by
    simp only [decN] at h
    cases hd : dec1 (c :: b) with
    | none => rw [hd] at h; cases h
    | some p =>
      obtain ⟨v, k⟩ := p
      have hk := dec1_pos hd
      rw [hd] at h
      dsimp only at h
      split at h
      · cases hr : decN n ((c :: b).drop k) with
        | none => rw [hr] at h; cases h
        | some m =>
          rw [hr] at h
          simp only [Option.map_some, Option.some.injEq] at h
          have := decN_length n ((c :: b).drop k) m (by simp only [List.length_drop, List.length_cons] at hn ⊢; omega) hr
          subst h
          simp only [List.length_drop, List.length_cons] at this hk ⊢
          omega
      · cases h
theorem decL_length {b : List UInt8} {l : List V} (h : decL b = some l) : l.length ≤ b.length := decN_length _ b l (Nat.le_refl _) h
set_option maxRecDepth 100000 in
set_option maxHeartbeats 4000000 in
theorem decodes_main (A B : Option Addr) (ca cb : Nat) (b : List UInt8) (l : List V) (n : Int) (y : UInt8) (w : World) (hA : At w w.heap.size A (cellsB b)) (hcl : b.length ≤ ca) (hcm : ca ≤ 9223372036854775807) (hB : At w w.heap.size B (cellsV l)) (hE : Env w)
    (hrl : ∀ v ∈ l, -9223372036854775808 ≤ v.n ∧ v.n ≤ 9223372036854775807) (hb100 : b.length ≤ 100) (hfl : fitsB l = true) :
    Calls Tryd.prog 8 #[.slice A b.length ca, .slice B l.length cb, .int .i64 n, .int .u8 y.toNat] w (LawPost w) := by
  have hll : l.length ≤ 8 := by simp [fitsB] at hfl; exact hfl.1
  have HFL := Lib.hid (fits_any B cb l w hB (by omega))
  rw [hfl] at HFL
  have HA := Lib.hid hA
  have HB := Lib.hid hB
  have HE := Lib.hid hE
  obtain ⟨p, hp⟩ : ∃ p, l.map mkV = p := ⟨_, rfl⟩
  have hlp : p.length ≤ 8 := by rw [← hp]; simpa using hll
  have HPE := Lib.hid hp
  have HRP := Lib.hid (mk_ranges hrl)
  have HSP := Lib.hid (mk_sizes l)
  have HOP := Lib.hid (mk_oks l)
  rw [hp] at HRP HOP HSP
  obtain ⟨X, hX⟩ : ∃ X, encL p = X := ⟨_, rfl⟩
  have hep : X.length ≤ 1000 := by have := encL_length HOP.out; rw [← hX]; omega
  have HX := Lib.hid hX
  obtain ⟨C, hC⟩ : ∃ C, X ++ [1] = C := ⟨_, rfl⟩
  have hlC : 1 ≤ C.length ∧ C.length ≤ 1001 := by rw [← hC]; simp; omega
  obtain ⟨hlC1, hlC2⟩ := hlC
  have HC := Lib.hid hC
  have hU : 0 ≤ IntKind.u64.wrap n := by rw [IntKind.wrap_u64]; omega
  obtain ⟨i, hi⟩ : ∃ i : Nat, IntKind.u64.wrap n % (C.length : Int) = (i : Int) := ⟨(IntKind.u64.wrap n % (C.length : Int)).toNat, by
    have := Int.emod_nonneg (IntKind.u64.wrap n) (show (C.length : Int) ≠ 0 by omega); omega⟩
  have hil : i < C.length := by
    have := Int.emod_lt_of_pos (IntKind.u64.wrap n) (show (0 : Int) < (C.length : Int) by omega); omega
  obtain ⟨d, hd⟩ : ∃ d, C[i] = d := ⟨_, rfl⟩
  have HD := Lib.hid hd
  have HXR := Lib.hid (xor_byte d y)
  have hd1 : (d.toNat : Int) ≤ 255 := by have := d.toNat_lt; omega
  clear hA hB hE hrl hfl hp hX hC hd
  have hy0 : (0 : Int) ≤ (y.toNat : Int) := by omega
  have hy1 : (y.toNat : Int) ≤ 255 := by have := y.toNat_lt; omega
  go_enter Tryd.func8, Tryd.ntmps8
  go_wp2_with fail
  refine HFL.out.mono ?_
  rintro e w' ⟨rfl, rfl⟩
  go_wp2_with fail
  refine (valids_any B cb l _ HB.out (by omega)).mono ?_
  rintro e w1 ⟨pv, rfl, hop, hb1⟩
  rw [HPE.out] at hop
  obtain ⟨Ap, cp, rfl, hatp, _⟩ := IsV.of_own hop
  have HP1 := Lib.hid hatp
  have HBW1 := Lib.hid hb1
  have hsz1 := hb1.size
  clear hop hatp hb1
  go_wp2_with fail
  refine (refEnc_walk Ap cp p _ HP1.out (by omega) HRP.out HSP.out).mono ?_
  rintro e w2 ⟨v2, rfl, h21, _, hb2⟩
  have HO2 := Lib.hid (h21 HOP.out)
  rw [HX.out] at HO2
  have HBW2 := Lib.hid hb2
  have hsz2 := hb2.size
  clear h21 hb2
  go_wp2_with (at_builtin; refine app_byte w1.heap.size v2 X 1 1 (.tmp 28) (.tmp 29) rfl rfl rfl rfl HO2.out rfl (by omega) hsz2 ?_; intro v3 w3 hown3 hgr3; rw [HC.out] at hown3; obtain ⟨g, cap, cur, rfl, hbg, hheap, hlcap, hcapm, hglt⟩ := hown3.lies hlC1; have HO3 := Lib.hid hown3; have HR3 := Lib.hid hgr3; have hce := row_cell hown3 hil HD.out; have hfr := row_free hheap i; have HHP := Lib.hid hheap; clear hown3 hgr3 hheap)
  rw [HXR.out]
  obtain ⟨C', hC'⟩ : ∃ C', C.set i (d ^^^ y) = C' := ⟨_, rfl⟩
  have hlen : C'.length = C.length := by rw [← hC', List.length_set]
  obtain ⟨w4, hw4⟩ : ∃ w4, w3.setCell ⟨g, i, none⟩ (.int .u8 (d ^^^ y).toNat) = w4 := ⟨_, rfl⟩
  have HO4 := Lib.hid (HO3.out.set (i := i) (d ^^^ y))
  rw [hC', hw4] at HO4
  have HB4 := Lib.hid (((HBW2.out.trans HR3.out.below).setCell (p := ⟨g, i, none⟩) hbg (.int .u8 (d ^^^ y).toNat)))
  rw [hw4] at HB4
  rw [hw4]
  have HBW4 := Lib.hid (HBW1.out.trans (HB4.out.mono hsz1))
  have hsz4 := HBW4.out.size
  have HE4 := Lib.hid (HE.out.below HBW4.out (Nat.le_refl _))
  have HA4 := Lib.hid ((HA.out.below HBW4.out).more hsz4)
  have hlC' : C'.length ≤ cap := by omega
  have hlC2' : C'.length ≤ 1001 := by omega
  have HLEN := Lib.hid hlen
  clear hC' hw4 hlen hce hfr HO3 HR3 HHP hi hU HX HC HD HXR HO2 HBW2 HFL hglt hbg cur
  cases hdb : decL b with
  | none =>
    have HDB := Lib.hid hdb
    clear hdb
    cases hdc : decL C' with
    | none =>
      have HDC := Lib.hid hdc
      clear hdc
      go_wp2_with fail
      refine (dec_walk A ca b _ HA4.out hcl hcm (by omega)).mono ?_
      intro e w5 h
      obtain ⟨h1, h2, hb⟩ := h
      have he := h2 HDB.out
      subst he
      have HS1 := Lib.hid hb
      have hs1 := hb.size
      clear h1 h2 hb
      have HA5 := Lib.hid ((HA4.out.below HS1.out).more hs1)
      go_wp2_with fail
      refine (refDec_walk A ca b _ HA5.out hcl hcm (by omega)).mono ?_
      intro e w6 h
      obtain ⟨h1, h2, hb⟩ := h
      have he := h2 HDB.out
      subst he
      have HS2 := Lib.hid hb
      have hs2 := hb.size
      clear h1 h2 hb
      have HS12 := Lib.hid (below_then HS1.out HS2.out hs1)
      have hs12 : w4.heap.size ≤ w6.heap.size := Nat.le_trans hs1 hs2
      have HO6 := Lib.hid (HO4.out.below HS12.out)
      have HDW := Lib.hid (dec_walk _ cap C' w6 HO6.out.at_ hlC' hcapm (by omega))
      rw [HLEN.out] at HDW
      go_wp2_with fail
      refine (HDW.out).mono ?_
      intro e w7 h
      obtain ⟨h1, h2, hb⟩ := h
      have he := h2 HDC.out
      subst he
      have HS3 := Lib.hid hb
      have hs3 := hb.size
      clear h1 h2 hb
      have HO7 := Lib.hid (HO6.out.below HS3.out)
      have HDV := Lib.hid (refDec_walk _ cap C' w7 HO7.out.at_ hlC' hcapm (by omega))
      rw [HLEN.out] at HDV
      go_wp2_with fail
      refine (HDV.out).mono ?_
      intro e w8 h
      obtain ⟨h1, h2, hb⟩ := h
      have he := h2 HDC.out
      subst he
      have HS4 := Lib.hid hb
      have hs4 := hb.size
      clear h1 h2 hb
      have HS34 := Lib.hid (below_then HS3.out HS4.out hs3)
      have hs34 : w6.heap.size ≤ w8.heap.size := Nat.le_trans hs3 hs4
      have HS14 := Lib.hid (below_then HS12.out HS34.out hs12)
      have hs14 : w4.heap.size ≤ w8.heap.size := Nat.le_trans hs12 hs34
      go_wp2_with fail
      refine (known_any _ (HE4.out.below HS14.out (Nat.le_refl _))).mono ?_
      rintro e wz ⟨rfl, hb⟩
      have HSZ := Lib.hid (below_then HS14.out hb HS14.out.size)
      clear hb
      go_wp2
      go_ret
      exact ⟨rfl, HBW4.out.trans (HSZ.out.mono hsz4)⟩
    | some lc =>
      have hlc : lc.length ≤ C'.length := decL_length hdc
      have HDC := Lib.hid hdc
      clear hdc
      go_wp2_with fail
      refine (dec_walk A ca b _ HA4.out hcl hcm (by omega)).mono ?_
      intro e w5 h
      obtain ⟨h1, h2, hb⟩ := h
      have he := h2 HDB.out
      subst he
      have HS1 := Lib.hid hb
      have hs1 := hb.size
      clear h1 h2 hb
      have HA5 := Lib.hid ((HA4.out.below HS1.out).more hs1)
      go_wp2_with fail
      refine (refDec_walk A ca b _ HA5.out hcl hcm (by omega)).mono ?_
      intro e w6 h
      obtain ⟨h1, h2, hb⟩ := h
      have he := h2 HDB.out
      subst he
      have HS2 := Lib.hid hb
      have hs2 := hb.size
      clear h1 h2 hb
      have HS12 := Lib.hid (below_then HS1.out HS2.out hs1)
      have hs12 : w4.heap.size ≤ w6.heap.size := Nat.le_trans hs1 hs2
      have HO6 := Lib.hid (HO4.out.below HS12.out)
      have HDW := Lib.hid (dec_walk _ cap C' w6 HO6.out.at_ hlC' hcapm (by omega))
      rw [HLEN.out] at HDW
      go_wp2_with fail
      refine (HDW.out).mono ?_
      intro e w7 h
      obtain ⟨h1, h2, hb⟩ := h
      obtain ⟨r, he, ho⟩ := h1 lc HDC.out
      obtain ⟨A3, c3, e3, hat, _⟩ := IsV.of_own ho
      subst e3 he
      have HR3 := Lib.hid hat
      have HS3 := Lib.hid hb
      have hs3 := hb.size
      clear h1 h2 hb ho hat
      have HO7 := Lib.hid (HO6.out.below HS3.out)
      have HDV := Lib.hid (refDec_walk _ cap C' w7 HO7.out.at_ hlC' hcapm (by omega))
      rw [HLEN.out] at HDV
      go_wp2_with fail
      refine (HDV.out).mono ?_
      intro e w8 h
      obtain ⟨h1, h2, hb⟩ := h
      obtain ⟨r, he, ho⟩ := h1 lc HDC.out
      obtain ⟨A4, c4, e4, hat, _⟩ := IsV.of_own ho
      subst e4 he
      have HR4 := Lib.hid hat
      have HS4 := Lib.hid hb
      have hs4 := hb.size
      clear h1 h2 hb ho hat
      have HS34 := Lib.hid (below_then HS3.out HS4.out hs3)
      have hs34 : w6.heap.size ≤ w8.heap.size := Nat.le_trans hs3 hs4
      have HS14 := Lib.hid (below_then HS12.out HS34.out hs12)
      have hs14 : w4.heap.size ≤ w8.heap.size := Nat.le_trans hs12 hs34
      have HR39 := Lib.hid ((HR3.out.below HS4.out).more hs4)
      have HR49 := Lib.hid HR4.out
      go_wp2_with fail
      refine (same_any A3 A4 c3 c4 lc _ HR39.out HR49.out (by omega)).mono ?_
      rintro e wa ⟨rfl, hb⟩
      have HS1a := Lib.hid (below_then HS14.out hb HS14.out.size)
      clear hb
      go_wp2_with fail
      refine (known_any _ (HE4.out.below HS1a.out (Nat.le_refl _))).mono ?_
      rintro e wz ⟨rfl, hb⟩
      have HSZ := Lib.hid (below_then HS1a.out hb HS1a.out.size)
      clear hb
      go_wp2
      go_ret
      exact ⟨rfl, HBW4.out.trans (HSZ.out.mono hsz4)⟩
  | some lb =>
    have hlb : lb.length ≤ b.length := decL_length hdb
    have HDB := Lib.hid hdb
    clear hdb
    cases hdc : decL C' with
    | none =>
      have HDC := Lib.hid hdc
      clear hdc
      go_wp2_with fail
      refine (dec_walk A ca b _ HA4.out hcl hcm (by omega)).mono ?_
      intro e w5 h
      obtain ⟨h1, h2, hb⟩ := h
      obtain ⟨r, he, ho⟩ := h1 lb HDB.out
      obtain ⟨A1, c1, e1, hat, _⟩ := IsV.of_own ho
      subst e1 he
      have HR1 := Lib.hid hat
      have HS1 := Lib.hid hb
      have hs1 := hb.size
      clear h1 h2 hb ho hat
      have HA5 := Lib.hid ((HA4.out.below HS1.out).more hs1)
      go_wp2_with fail
      refine (refDec_walk A ca b _ HA5.out hcl hcm (by omega)).mono ?_
      intro e w6 h
      obtain ⟨h1, h2, hb⟩ := h
      obtain ⟨r, he, ho⟩ := h1 lb HDB.out
      obtain ⟨A2, c2, e2, hat, _⟩ := IsV.of_own ho
      subst e2 he
      have HR2 := Lib.hid hat
      have HS2 := Lib.hid hb
      have hs2 := hb.size
      clear h1 h2 hb ho hat
      have HS12 := Lib.hid (below_then HS1.out HS2.out hs1)
      have hs12 : w4.heap.size ≤ w6.heap.size := Nat.le_trans hs1 hs2
      have HO6 := Lib.hid (HO4.out.below HS12.out)
      have HDW := Lib.hid (dec_walk _ cap C' w6 HO6.out.at_ hlC' hcapm (by omega))
      rw [HLEN.out] at HDW
      go_wp2_with fail
      refine (HDW.out).mono ?_
      intro e w7 h
      obtain ⟨h1, h2, hb⟩ := h
      have he := h2 HDC.out
      subst he
      have HS3 := Lib.hid hb
      have hs3 := hb.size
      clear h1 h2 hb
      have HO7 := Lib.hid (HO6.out.below HS3.out)
      have HDV := Lib.hid (refDec_walk _ cap C' w7 HO7.out.at_ hlC' hcapm (by omega))
      rw [HLEN.out] at HDV
      go_wp2_with fail
      refine (HDV.out).mono ?_
      intro e w8 h
      obtain ⟨h1, h2, hb⟩ := h
      have he := h2 HDC.out
      subst he
      have HS4 := Lib.hid hb
      have hs4 := hb.size
      clear h1 h2 hb
      have HS34 := Lib.hid (below_then HS3.out HS4.out hs3)
      have hs34 : w6.heap.size ≤ w8.heap.size := Nat.le_trans hs3 hs4
      have HS14 := Lib.hid (below_then HS12.out HS34.out hs12)
      have hs14 : w4.heap.size ≤ w8.heap.size := Nat.le_trans hs12 hs34
      have HR18 := Lib.hid ((HR1.out.below (below_then HS2.out HS34.out hs2)).more (Nat.le_trans hs2 hs34))
      have HR28 := Lib.hid ((HR2.out.below HS34.out).more hs34)
      go_wp2_with fail
      refine (same_any A1 A2 c1 c2 lb _ HR18.out HR28.out (by omega)).mono ?_
      rintro e w9 ⟨rfl, hb⟩
      have HS9 := Lib.hid hb
      have hs9 := hb.size
      have HS19 := Lib.hid (below_then HS14.out hb hs14)
      clear hb
      go_wp2_with fail
      refine (known_any _ (HE4.out.below HS19.out (Nat.le_refl _))).mono ?_
      rintro e wz ⟨rfl, hb⟩
      have HSZ := Lib.hid (below_then HS19.out hb HS19.out.size)
      clear hb
      go_wp2
      go_ret
      exact ⟨rfl, HBW4.out.trans (HSZ.out.mono hsz4)⟩
    | some lc =>
      have hlc : lc.length ≤ C'.length := decL_length hdc
      have HDC := Lib.hid hdc
      clear hdc
      go_wp2_with fail
      refine (dec_walk A ca b _ HA4.out hcl hcm (by omega)).mono ?_
      intro e w5 h
      obtain ⟨h1, h2, hb⟩ := h
      obtain ⟨r, he, ho⟩ := h1 lb HDB.out
      obtain ⟨A1, c1, e1, hat, _⟩ := IsV.of_own ho
      subst e1 he
      have HR1 := Lib.hid hat
      have HS1 := Lib.hid hb
      have hs1 := hb.size
      clear h1 h2 hb ho hat
      have HA5 := Lib.hid ((HA4.out.below HS1.out).more hs1)
      go_wp2_with fail
      refine (refDec_walk A ca b _ HA5.out hcl hcm (by omega)).mono ?_
      intro e w6 h
      obtain ⟨h1, h2, hb⟩ := h
      obtain ⟨r, he, ho⟩ := h1 lb HDB.out
      obtain ⟨A2, c2, e2, hat, _⟩ := IsV.of_own ho
      subst e2 he
      have HR2 := Lib.hid hat
      have HS2 := Lib.hid hb
      have hs2 := hb.size
      clear h1 h2 hb ho hat
      have HS12 := Lib.hid (below_then HS1.out HS2.out hs1)
      have hs12 : w4.heap.size ≤ w6.heap.size := Nat.le_trans hs1 hs2
      have HO6 := Lib.hid (HO4.out.below HS12.out)
      have HDW := Lib.hid (dec_walk _ cap C' w6 HO6.out.at_ hlC' hcapm (by omega))
      rw [HLEN.out] at HDW
      go_wp2_with fail
      refine (HDW.out).mono ?_
      intro e w7 h
      obtain ⟨h1, h2, hb⟩ := h
      obtain ⟨r, he, ho⟩ := h1 lc HDC.out
      obtain ⟨A3, c3, e3, hat, _⟩ := IsV.of_own ho
      subst e3 he
      have HR3 := Lib.hid hat
      have HS3 := Lib.hid hb
      have hs3 := hb.size
      clear h1 h2 hb ho hat
      have HO7 := Lib.hid (HO6.out.below HS3.out)
      have HDV := Lib.hid (refDec_walk _ cap C' w7 HO7.out.at_ hlC' hcapm (by omega))
      rw [HLEN.out] at HDV
      go_wp2_with fail
      refine (HDV.out).mono ?_
      intro e w8 h
      obtain ⟨h1, h2, hb⟩ := h
      obtain ⟨r, he, ho⟩ := h1 lc HDC.out
      obtain ⟨A4, c4, e4, hat, _⟩ := IsV.of_own ho
      subst e4 he
      have HR4 := Lib.hid hat
      have HS4 := Lib.hid hb
      have hs4 := hb.size
      clear h1 h2 hb ho hat
      have HS34 := Lib.hid (below_then HS3.out HS4.out hs3)
      have hs34 : w6.heap.size ≤ w8.heap.size := Nat.le_trans hs3 hs4
      have HS14 := Lib.hid (below_then HS12.out HS34.out hs12)
      have hs14 : w4.heap.size ≤ w8.heap.size := Nat.le_trans hs12 hs34
      have HR18 := Lib.hid ((HR1.out.below (below_then HS2.out HS34.out hs2)).more (Nat.le_trans hs2 hs34))
      have HR28 := Lib.hid ((HR2.out.below HS34.out).more hs34)
      go_wp2_with fail
      refine (same_any A1 A2 c1 c2 lb _ HR18.out HR28.out (by omega)).mono ?_
      rintro e w9 ⟨rfl, hb⟩
      have HS9 := Lib.hid hb
      have hs9 := hb.size
      have HS19 := Lib.hid (below_then HS14.out hb hs14)
      clear hb
      have HR39 := Lib.hid ((HR3.out.below (below_then HS4.out HS9.out hs4)).more (Nat.le_trans hs4 hs9))
      have HR49 := Lib.hid ((HR4.out.below HS9.out).more hs9)
      go_wp2_with fail
      refine (same_any A3 A4 c3 c4 lc _ HR39.out HR49.out (by omega)).mono ?_
      rintro e wa ⟨rfl, hb⟩
      have HS1a := Lib.hid (below_then HS19.out hb HS19.out.size)
      clear hb
      go_wp2_with fail
      refine (known_any _ (HE4.out.below HS1a.out (Nat.le_refl _))).mono ?_
      rintro e wz ⟨rfl, hb⟩
      have HSZ := Lib.hid (below_then HS1a.out hb HS1a.out.size)
      clear hb
      go_wp2
      go_ret
      exact ⟨rfl, HBW4.out.trans (HSZ.out.mono hsz4)⟩
set_option maxRecDepth 100000 in
set_option maxHeartbeats 1000000 in
theorem decodes_any (A B : Option Addr) (ca cb : Nat) (b : List UInt8) (l : List V) (n x : Int) (w : World) (hA : At w w.heap.size A (cellsB b)) (hcl : b.length ≤ ca) (hcm : ca ≤ 9223372036854775807) (hB : At w w.heap.size B (cellsV l)) (hE : Env w)
    (hrl : ∀ v ∈ l, -9223372036854775808 ≤ v.n ∧ v.n ≤ 9223372036854775807) (hll : l.length ≤ 9223372036854775807) (hx0 : 0 ≤ x) (hx1 : x ≤ 255) :
    Calls Tryd.prog 8 #[.slice A b.length ca, .slice B l.length cb, .int .i64 n, .int .u8 x] w (LawPost w) := by
  rcases Nat.lt_or_ge 100 b.length with h1 | h1
  · have h1' : (100 : Int) < (b.length : Int) := by omega
    clear hrl hE hA hB
    go_enter Tryd.func8, Tryd.ntmps8
    go_wp2
    go_ret
    exact ⟨rfl, Below.refl _ _⟩
  · cases hfl : fitsB l
    · have HFL := Lib.hid (fits_any B cb l w hB hll)
      rw [hfl] at HFL
      clear hrl hE hA hB hfl
      go_enter Tryd.func8, Tryd.ntmps8
      go_wp2_with fail
      refine HFL.out.mono ?_
      rintro e w' ⟨rfl, rfl⟩
      go_wp2
      go_ret
      exact ⟨rfl, Below.refl _ _⟩
    · have hx : x = (((UInt8.ofNat x.toNat).toNat : Nat) : Int) := by
        have : (UInt8.ofNat x.toNat).toNat = x.toNat := by simp [UInt8.toNat_ofNat']; omega
        rw [this]; omega
      rw [hx]
      exact decodes_main A B ca cb b l n _ w hA hcl hcm hB hE hrl h1 hfl
end Go.Proofs.YtpjfkhbdhdolfaaDoor
