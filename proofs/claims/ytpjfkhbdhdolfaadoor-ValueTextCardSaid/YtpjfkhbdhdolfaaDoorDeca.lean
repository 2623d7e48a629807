/-
  value.decodeInt and value.decodeString, walked.
-/
import Derived.Test.YtpjfkhbdhdolfaaDoorDec
import Derived.Laws.BitsAllLaws
import Derived.Laws.Bits64
namespace Go.Proofs.YtpjfkhbdhdolfaaDoor
open Go.RowKit

theorem At.subB {w : World} {B b off : Nat} {l : List UInt8} (h : At w B (some ⟨b, off, none⟩) (cellsB l)) (k m : Nat) : At w B (some ⟨b, off + k, none⟩) (cellsB ((l.drop k).take m)) := fun hp => by
  rw [cellsB_length, List.length_take, List.length_drop] at hp
  obtain ⟨b', off', e, hb, hc⟩ := h (by rw [cellsB_length]; omega)
  cases e
  refine ⟨b, off + k, rfl, hb, fun j u hu => ?_⟩
  rw [Nat.add_assoc]
  refine hc (k + j) u ?_
  simp only [cellsB, List.map_take, List.map_drop] at hu ⊢
  rw [List.getElem?_take] at hu
  split at hu
  · rwa [List.getElem?_drop] at hu
  · cases hu
theorem At.byte {w : World} {B : Nat} {A : Option Addr} {l : List UInt8} {i : Nat} (h : At w B A (cellsB l)) (hi : i < l.length) :
    ∃ b off, A = some ⟨b, off, none⟩ ∧ b < B ∧ ∀ (j : Nat) (hj : j < l.length), w.cell? ⟨b, off + j, none⟩ = some (.int .u8 l[j].toNat) := by
  obtain ⟨b, off, e, hb, hc⟩ := h (by rw [cellsB_length]; omega)
  exact ⟨b, off, e, hb, fun j hj => hc j _ (by simp [cellsB, List.getElem?_eq_getElem hj])⟩
theorem take_take8 (l : List UInt8) (k : Nat) (hk : k < 8) (hl : 9 ≤ l.length) : bval ((((l.drop 1).take 8)).take (k + 1)) = bval (((l.drop 1).take 8).take k) * 256 + (l[1 + k]'(by omega)).toNat := by
  have h : k < ((l.drop 1).take 8).length := by simp; omega
  rw [List.take_succ_eq_append_getElem h, bval_snoc]
  simp [Nat.add_comm]
theorem bval_small {l : List UInt8} {k : Nat} (h : l.length ≤ k) (hk : k ≤ 7) : bval l < 72057594037927936 := by
  have h1 := bval_lt l
  have h2 : 256 ^ l.length ≤ 256 ^ 7 := Nat.pow_le_pow_right (by decide) (by omega)
  have h3 : (256 ^ 7 : Nat) = 72057594037927936 := by decide
  omega
theorem or_byte (N x : Nat) (hN : N < 72057594037927936) (hx : x < 256) : bits .or .u64 ((N : Int) * 256) (x : Int) = ((N * 256 + x : Nat) : Int) := by
  have h := u64_or_nat (N * 256) x (by omega) (by omega)
  have e : ((N * 256 : Nat) : Int) = (N : Int) * 256 := by omega
  rw [e] at h
  rw [h]
  have h2 : N * 256 ||| x = N * 256 + x := by
    have := Nat.shiftLeft_add_eq_or_of_lt (i := 8) (b := x) hx N
    rw [Nat.shiftLeft_eq] at this
    exact this.symm
  rw [h2]
theorem flip_back (N : Nat) (hN : N < 18446744073709551616) : wrap64 (bits .xor .u64 (N : Int) 9223372036854775808) = (N : Int) - 9223372036854775808 := by
  have h := u64_xor_nat N 9223372036854775808 hN (by decide)
  rw [show ((9223372036854775808 : Nat) : Int) = 9223372036854775808 from rfl] at h
  rw [h, xor_top N hN]
  simp only [wrap64]
  omega
set_option maxRecDepth 100000 in
theorem decInt_no (A : Option Addr) (c : Nat) (l : List UInt8) (w : World) (h : l.length < 9) :
    Calls Tryd.prog 44 #[.slice A l.length c] w fun e w' => e = .returned (.tuple #[.agg #[.int .i64 0, .int .i64 0, .string ⟨#[]⟩], .int .i64 0]) ∧ Below w.heap.size w w' := by
  go_enter Tryd.func44, Tryd.ntmps44
  go_wp2
  exact bodyPost_ret (v := .tuple #[.agg #[.int .i64 0, .int .i64 0, .string ⟨#[]⟩], .int .i64 0]) (by simp [results, Tryd.results44, go_sem]) rfl ⟨rfl, (Below.refl _ _).alloc (Nat.le_refl _) _⟩
set_option maxRecDepth 100000 in
set_option maxHeartbeats 1000000 in
theorem decInt_yes (b off c : Nat) (l : List UInt8) (w : World) (h9 : 9 ≤ l.length) (hc : l.length ≤ c) (hm : c ≤ 9223372036854775807) (hb : b < w.heap.size) (hcell : ∀ (j : Nat) (hj : j < l.length), w.cell? ⟨b, off + j, none⟩ = some (.int .u8 l[j].toNat)) :
    Calls Tryd.prog 44 #[.slice (some ⟨b, off, none⟩) l.length c] w fun e w' => e = .returned (.tuple #[.agg #[.int .i64 1, .int .i64 ((bval ((l.drop 1).take 8) : Int) - 9223372036854775808), .string ⟨#[]⟩], .int .i64 9]) ∧ Below w.heap.size w w' := by
  have HC := Lib.hid hcell
  clear hcell
  have hz9 : (9 : Int) ≤ (l.length : Int) := by omega
  have hzc : (l.length : Int) ≤ (c : Int) := by omega
  go_enter Tryd.func44, Tryd.ntmps44
  obtain ⟨W, hW, hbW, hgW, _⟩ := blk1 w 23 #[.int .i64 0, .int .i64 0, .string ⟨#[]⟩]
  have HW := Lib.hid hW
  have HBW := Lib.hid hbW
  have HGW := Lib.hid hgW
  clear hW hbW hgW
  go_wp2
  rw [HW.out]
  go_loop [4, 14] (fun n i => ∃ k : Nat, k ≤ 8 ∧ i = .int .i64 k ∧ n = .int .u64 (bval (((l.drop 1).take 8).take k) : Int)) (fun _ i => 8 - (intOf i).toNat)
  case atStart => exact ⟨0, by omega, rfl, by simp [bval]⟩
  case round =>
    obtain ⟨k, hk, rfl, rfl⟩ := hrel
    by_cases hlt : k < 8
    · have HS := Lib.hid (take_take8 l k hlt h9)
      have hsm := bval_small (l := ((l.drop 1).take 8).take k) (k := k) (by simp; omega) (by omega)
      have hce : W.cell? ⟨b, off + 1 + k, none⟩ = some (.int .u8 (l[1 + k]'(by omega)).toNat) := by
        rw [Nat.add_assoc]
        exact (HBW.out.cell (p := ⟨b, off + (1 + k), none⟩) hb).trans (HC.out (1 + k) (by omega))
      have hby : (l[1 + k]'(by omega)).toNat < 256 := UInt8.toNat_lt _
      generalize (l[1 + k]'(by omega)).toNat = x at HS hce hby
      generalize bval (((l.drop 1).take 8).take k) = N at HS hsm ⊢
      have HOR := Lib.hid (or_byte N x hsm hby)
      go_wp2
      go_round
      case rel => exact ⟨k + 1, by omega, by go_num, by rw [HOR.out, HS.out]⟩
      case measure => simp [intOf]; omega
    · obtain rfl : k = 8 := by omega
      have HM := Lib.hid (show bval (((l.drop 1).take 8).take 8) = bval ((l.drop 1).take 8) by rw [List.take_take]; rfl)
      have hlt64 : bval ((l.drop 1).take 8) < 18446744073709551616 := by
        have h1 := bval_lt ((l.drop 1).take 8)
        have h2 : ((l.drop 1).take 8).length = 8 := by simp; omega
        rw [h2] at h1
        have h3 : (256 ^ 8 : Nat) = 18446744073709551616 := by decide
        omega
      have HFL := Lib.hid (flip_back _ hlt64)
      generalize hN : bval (((l.drop 1).take 8).take 8) = N at HM ⊢
      have HNN := Lib.hid hN
      clear hN hlt64
      obtain ⟨M, hM⟩ : ∃ M, bval ((l.drop 1).take 8) = M := ⟨_, rfl⟩
      rw [hM] at HM HFL
      have HMM := Lib.hid hM
      clear hM
      obtain rfl : N = M := HM.out
      go_wp2_with fail
      rw [HFL.out]
      refine (newInt_any _ _).mono ?_
      rintro e w1 ⟨rfl, hb1⟩
      have HG1 := HGW.out.below hb1 HGW.out.lt
      obtain ⟨d0, d1, d2, f0, f1, f2⟩ := HG1.three
      have HB1 := Lib.hid hb1
      clear hb1
      go_wp2
      clear d0 d1 d2 f0 f1 f2
      obtain ⟨w6, h6, hg6, hb6, hz6, hk6⟩ := store3 HG1 (.int .i64 1) (.int .i64 ((N : Int) - 9223372036854775808)) (.string ⟨#[]⟩)
      rw [h6]
      obtain ⟨d0, d1, d2, _, _, _⟩ := hg6.three
      refine bodyPost_ret (v := .tuple #[.agg #[.int .i64 1, .int .i64 ((N : Int) - 9223372036854775808), .string ⟨#[]⟩], .int .i64 9]) (by simp [results, Tryd.results44, go_sem, d0, d1, d2]) rfl ⟨by rw [HMM.out], ?_⟩
      exact (below_then HBW.out HB1.out HBW.out.size).trans hb6
theorem zpos_step : ∀ (l : List UInt8) (k : Nat) (hk : k < l.length), k ≤ zpos l → l[k].toNat ≠ 0 → k + 1 ≤ zpos l
  | [], k, hk, _, _ => by simp at hk
  | c :: l, 0, hk, _, h => by
    have hc : c ≠ 0 := fun e => h (by subst e; rfl)
    simp only [zpos, if_neg hc]; omega
  | c :: l, k + 1, hk, hz, h => by
    simp only [zpos] at hz ⊢
    split at hz
    · omega
    · rename_i hc
      rw [if_neg hc]
      have := zpos_step l k (by simpa using hk) (by omega) (by simpa using h)
      omega
theorem zpos_hit : ∀ (l : List UInt8) (k : Nat) (hk : k < l.length), l[k].toNat = 0 → zpos l ≤ k
  | [], k, hk, _ => by simp at hk
  | c :: l, 0, hk, h => by
    have hc : c = 0 := UInt8.toNat_inj.1 h
    simp [zpos, hc]
  | c :: l, k + 1, hk, h => by
    have := zpos_hit l k (by simpa using hk) (by simpa using h)
    simp only [zpos]
    split <;> omega
/-- What decodeString returns: the string up to the first 0 and its length, or 0. -/
def DecStr (l : List UInt8) (w : World) (e : Ending) (w' : World) : Prop := (e = .returned (if zpos (l.drop 1) < (l.drop 1).length then .tuple #[.agg #[.int .i64 2, .int .i64 0, .string ⟨((l.drop 1).take (zpos (l.drop 1))).toArray⟩], .int .i64 ((zpos (l.drop 1) : Nat) + 2)]
  else .tuple #[.agg #[.int .i64 0, .int .i64 0, .string ⟨#[]⟩], .int .i64 0])) ∧ Below w.heap.size w w'
set_option maxRecDepth 100000 in
set_option maxHeartbeats 1000000 in
theorem decStr_any (b off c : Nat) (l : List UInt8) (w : World) (h1 : 1 ≤ l.length) (hc : l.length ≤ c) (hm : c ≤ 9223372036854775807) (hat : At w w.heap.size (some ⟨b, off, none⟩) (cellsB l)) :
    Calls Tryd.prog 45 #[.slice (some ⟨b, off, none⟩) l.length c] w (DecStr l w) := by
  obtain ⟨b', off', e, hb, hcell⟩ := hat.byte (i := 0) (by omega)
  cases e
  have HC := Lib.hid hcell
  have HAT := Lib.hid hat
  clear hcell hat
  obtain ⟨W, hW, hbW, hgW, _⟩ := blk1 w 23 #[.int .i64 0, .int .i64 0, .string ⟨#[]⟩]
  have HW := Lib.hid hW
  have HBW := Lib.hid hbW
  have HGW := Lib.hid hgW
  clear hW hbW hgW
  have hzl := zpos_le (l.drop 1)
  have hdl : (l.drop 1).length + 1 = l.length := by simp; omega
  have HDL := Lib.hid hdl
  have hdl' : (l.drop 1).length + 1 ≤ l.length := by omega
  obtain ⟨z, hz⟩ : ∃ z, zpos (l.drop 1) = z := ⟨_, rfl⟩
  have HZ := Lib.hid hz
  rw [hz] at hzl
  have HZL := Lib.hid hzl
  clear hzl hz hdl hdl'
  go_enter Tryd.func45, Tryd.ntmps45
  go_wp2
  rw [HW.out]
  go_loop [4] (fun i => ∃ k : Nat, k ≤ z ∧ k + 1 ≤ l.length ∧ i = .int .i64 ((k : Int) + 1)) (fun i => l.length - (intOf i).toNat)
  case atStart => exact ⟨0, by omega, by omega, rfl⟩
  case round =>
    obtain ⟨k, hk, hkl, rfl⟩ := hrel
    by_cases hlt : k + 1 < l.length
    · have hce : W.cell? ⟨b, off + (k + 1), none⟩ = some (.int .u8 (l[k + 1]'(by omega)).toNat) := (HBW.out.cell (p := ⟨b, off + (k + 1), none⟩) hb).trans (HC.out (k + 1) (by omega))
      have hdk : k < (l.drop 1).length := by have := HDL.out; omega
      have HEQ := Lib.hid (show (l.drop 1)[k].toNat = (l[k + 1]'(by omega)).toNat by simp)
      generalize (l[k + 1]'(by omega)).toNat = x at hce HEQ
      by_cases hx : x = 0
      · subst hx
        have HK := Lib.hid (show z = k by have := zpos_hit (l.drop 1) k hdk HEQ.out; rw [HZ.out] at this; omega)
        have h1c : 1 < c := by omega
        obtain ⟨st, hst⟩ : ∃ st, (l.drop 1).take k = st := ⟨_, rfl⟩
        have hsl : st.length = k := by rw [← hst, List.length_take]; omega
        have hcv := conv_at (c - 1) ((HAT.out.below HBW.out).subB 1 k)
        rw [hst, hsl] at hcv
        have HST := Lib.hid hst
        have HFIN := Lib.hid (show z < (l.drop 1).length by have := HK.out; omega)
        clear hst hsl HEQ hdk
        go_wp2_with fail
        refine (newString_any _ _).mono ?_
        rintro e w1 ⟨rfl, hb1⟩
        have HG1 := HGW.out.below hb1 HGW.out.lt
        obtain ⟨d0, d1, d2, f0, f1, f2⟩ := HG1.three
        have HB1 := Lib.hid hb1
        clear hb1 hcv
        go_wp2
        clear d0 d1 d2 f0 f1 f2
        obtain ⟨w6, h6, hg6, hb6, hz6, hk6⟩ := store3 HG1 (.int .i64 2) (.int .i64 0) (.string ⟨st.toArray⟩)
        rw [h6]
        obtain ⟨d0, d1, d2, _, _, _⟩ := hg6.three
        refine bodyPost_ret (v := .tuple #[.agg #[.int .i64 2, .int .i64 0, .string ⟨st.toArray⟩], .int .i64 ((k : Int) + 1 + 1)]) (by simp [results, Tryd.results45, go_sem, d0, d1, d2]) rfl ⟨?_, (below_then HBW.out HB1.out HBW.out.size).trans hb6⟩
        rw [HZ.out, if_pos HFIN.out, HK.out, HST.out, show (k : Int) + 1 + 1 = (k : Int) + 2 by omega]
      · have HK := Lib.hid (show k + 1 ≤ z by have := zpos_step (l.drop 1) k hdk (by rw [HZ.out]; omega) (by rw [HEQ.out]; exact hx); rw [HZ.out] at this; omega)
        have hx' : ((x : Int) == 0) = false := by simpa using hx
        go_wp2
        go_round
        case rel => exact ⟨k + 1, HK.out, by omega, by go_num⟩
        case measure => simp [intOf]; omega
    · have HFIN := Lib.hid (show ¬ z < (l.drop 1).length by have := HDL.out; omega)
      obtain ⟨d0, d1, d2, f0, f1, f2⟩ := HGW.out.three
      go_wp2
      clear d0 d1 d2 f0 f1 f2
      obtain ⟨w6, h6, hg6, hb6, hz6, hk6⟩ := store3 HGW.out (.int .i64 0) (.int .i64 0) (.string ⟨#[]⟩)
      rw [h6]
      obtain ⟨d0, d1, d2, _, _, _⟩ := hg6.three
      refine bodyPost_ret (v := .tuple #[.agg #[.int .i64 0, .int .i64 0, .string ⟨#[]⟩], .int .i64 0]) (by simp [results, Tryd.results45, go_sem, d0, d1, d2]) rfl ⟨?_, HBW.out.trans hb6⟩
      rw [HZ.out, if_neg HFIN.out]
end Go.Proofs.YtpjfkhbdhdolfaaDoor
