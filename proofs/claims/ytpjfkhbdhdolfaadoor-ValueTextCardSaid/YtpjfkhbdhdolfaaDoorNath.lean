/-
  credenceref1.small (by ten), NatFormat, NatOf and size, walked.
-/
import Derived.Test.YtpjfkhbdhdolfaaDoorNatg
import Derived.Test.YtpjfkhbdhdolfaaDoorText
import Derived.Test.YtpjfkhbdhdolfaaDoorMk
namespace Go.Proofs.YtpjfkhbdhdolfaaDoor
open Go.RowKit

/-- Division by ten from the top: what holds at the head of a round. -/
def SmallInv (W0 : World) (ds : List Nat) (r i : Value) (wr : World) : Prop :=
  ∃ (k : Nat) (qs : List Nat), k ≤ ds.length ∧ i = .int .i64 ((k : Int) - 1) ∧ qs.length + k = ds.length ∧ Digs qs ∧ r = .int .u64 ((nval (ds.drop k) % 10 : Nat) : Int) ∧ nval qs = nval (ds.drop k) / 10 ∧ OwnN wr W0.heap.size (.slice (some ⟨W0.heap.size, 0, none⟩) ds.length ds.length) (List.replicate k 0 ++ qs) ∧ Below W0.heap.size W0 wr
theorem small_row (k g : Nat) (qs : List Nat) : (List.replicate (k + 1) 0 ++ qs).set k g = List.replicate k 0 ++ g :: qs := by
  rw [List.replicate_succ', List.append_assoc, List.set_append_right _ _ (by simp)]
  simp
theorem drop_val (ds : List Nat) (k : Nat) (h : k < ds.length) : nval (ds.drop k) = ds[k] + 4294967296 * nval (ds.drop (k + 1)) := by
  rw [List.drop_eq_getElem_cons h, nval]
def SmallPost (n : Nat) (w : World) (e : Ending) (w' : World) : Prop := ∃ v, e = .returned (.tuple #[v, .int .u64 ((n % 10 : Nat) : Int)]) ∧ OwnN w' w.heap.size v (digs (n / 10)) ∧ Below w.heap.size w w'
set_option maxRecDepth 100000 in
set_option maxHeartbeats 2000000 in
theorem small_any (A : Option Addr) (c : Nat) (ds : List Nat) (w : World) (h : IsN w A c ds) (hl : ds.length ≤ 1048576) :
    Calls Tryd.prog 61 #[.slice A ds.length c, .int .u64 10] w (SmallPost (nval ds) w) := by
  have HI := Lib.hid h
  clear h
  obtain ⟨W, hmk, hoW, hbW, hzW⟩ := make_nats w ds.length (by omega)
  have hmk := hmk .i64 .i64
  have HOW := Lib.hid hoW
  have HBW := Lib.hid hbW
  clear hoW hbW hzW
  go_enter Tryd.func61, Tryd.ntmps61
  go_wp2
  clear hmk
  go_loopw [7, 8] (fun r i wr => SmallInv w ds r i wr) (fun _ i _ => (intOf i + 1).toNat)
  case atStart => exact ⟨ds.length, [], Nat.le_refl _, rfl, by simp, fun d hd => by simp at hd, by simp [nval], by simp [nval], by simpa using HOW.out, HBW.out⟩
  case round =>
    obtain ⟨k, qs, hk, rfl, hql, hqd, rfl, hqv, hown, hbw⟩ := hrel
    have HQD := Lib.hid hqd
    have HQV := Lib.hid hqv
    have HO := Lib.hid hown
    have HB := Lib.hid hbw
    have HQL := Lib.hid hql
    have hsr := hbw.size
    clear hqd hqv hown hbw hql
    cases k with
    | zero =>
      rw [List.drop_zero] at *
      have hown : OwnN wr w.heap.size (.slice (some ⟨w.heap.size, 0, none⟩) ds.length ds.length) qs := by have := HO.out; simpa using this
      have hix : IsN wr (some ⟨w.heap.size, 0, none⟩) ds.length qs := by
        obtain ⟨A', c', e, hi⟩ := hown.is HQD.out
        injection e with e1 e2 e3
        subst e1 e3
        exact hi
      have hnm := norm_any (some ⟨w.heap.size, 0, none⟩) ds.length qs wr hix (by have := HQL.out; omega)
      rw [show qs.length = ds.length by have := HQL.out; omega, HQV.out] at hnm
      have HNM := Lib.hid hnm
      obtain ⟨m, hm⟩ : ∃ m, nval ds % 10 = m := ⟨_, rfl⟩
      rw [hm]
      have HM := Lib.hid hm
      clear hown hix hnm hm
      go_wp2_with fail
      refine HNM.out.mono ?_
      rintro e w5 ⟨v5, rfl, ho5, hb5⟩
      have HO5 := Lib.hid (ho5.base_le hsr)
      have HB5 := Lib.hid (below_then HB.out hb5 hsr)
      clear ho5 hb5
      go_wp2
      go_ret2
      exact ⟨v5, by rw [HM.out]; rfl, HO5.out, HB5.out⟩
    | succ k =>
      rw [show ((k + 1 : Nat) : Int) - 1 = (k : Int) by omega]
      have hlt : k < ds.length := by omega
      obtain ⟨b, off, rfl, hb, hc⟩ := HI.out.digit hlt
      obtain ⟨d, hd⟩ : ∃ d, ds[k] = d := ⟨_, rfl⟩
      have hce := (HB.out.cell (p := ⟨b, off + k, none⟩) hb).trans (hc k hlt)
      rw [hd] at hce
      have hd32 : d < 4294967296 := by rw [← hd]; exact HI.out.ok _ (List.getElem_mem hlt)
      have HDV := Lib.hid (show nval (ds.drop k) = d + 4294967296 * nval (ds.drop (k + 1)) by rw [drop_val ds k hlt, hd])
      obtain ⟨r, hr⟩ : ∃ r, nval (ds.drop (k + 1)) % 10 = r := ⟨_, rfl⟩
      have hr10 : r < 10 := by omega
      rw [hr]
      have HR := Lib.hid hr
      have hfr := HO.out.free k
      have hcz := HO.out.cell (i := k) (by simp; omega)
      clear hc hd hr
      go_wp2
      go_roundw
      case rel =>
        have e1 := HDV.out
        have e2 := HQV.out
        have e3 := HR.out
        refine ⟨k, (r * 4294967296 + d) / 10 :: qs, by omega, rfl, by have := HQL.out; simp; omega, fun x hx => ?_, ?_, ?_, ?_, HB.out.setCell (p := ⟨w.heap.size, k, none⟩) (Nat.le_refl _) _⟩
        · rcases List.mem_cons.1 hx with rfl | hx
          · omega
          · exact HQD.out x hx
        · congr 1; omega
        · rw [nval, e2]; omega
        · have hrl : (List.replicate (k + 1) (0 : Nat) ++ qs).length = ds.length := by have := HQL.out; simp; omega
          have h1 : OwnN wr w.heap.size (.slice (some ⟨w.heap.size, 0, none⟩) (List.replicate (k + 1) 0 ++ qs).length ds.length) (List.replicate (k + 1) 0 ++ qs) := by
            rw [hrl]; exact HO.out
          have h2 := h1.set (i := k) ((r * 4294967296 + d) / 10)
          rw [List.length_set, small_row, hrl] at h2
          have e : (((r * 4294967296 + d) / 10 : Nat) : Int) = ((r : Int) * 4294967296 + (d : Int)) / 10 := by omega
          rw [e] at h2
          exact h2
      case measure => simp [intOf]
theorem smallN {wr : World} {A : Option Addr} {c n : Nat} (h : IsN wr A c (digs n)) (hl : (digs n).length ≤ 1048576) : Calls Tryd.prog 61 #[.slice A (digs n).length c, .int .u64 10] wr (SmallPost n wr) := by
  have := small_any A c (digs n) wr h hl
  rwa [nval_digs] at this
/-- The digits still to be written ahead of those that stand. -/
def dec (m : Nat) (t : List UInt8) : List UInt8 := if m = 0 then t else Lib.decDigits m ++ t
theorem dec_step {m : Nat} (h : m ≠ 0) (t : List UInt8) : dec m t = dec (m / 10) (UInt8.ofNat (48 + m % 10) :: t) := by
  unfold dec
  rw [if_neg h]
  rw [Lib.decDigits]
  by_cases h10 : m < 10
  · rw [dif_pos h10, if_pos (by omega), Nat.mod_eq_of_lt h10]; rfl
  · rw [dif_neg h10, if_neg (by omega)]
    simp
def FmtInv (w : World) (D : List UInt8) (x s : Value) (wr : World) : Prop := ∃ (m : Nat) (t : List UInt8), NumIn w wr x m ∧ s = .string ⟨t.toArray⟩ ∧ dec m t = D ∧ (digs m).length ≤ 1048576 ∧ t.length ≤ D.length ∧ Below w.heap.size w wr
theorem dec_len (m : Nat) (t : List UInt8) : t.length ≤ (dec m t).length := by
  unfold dec; split
  · exact Nat.le_refl _
  · simp
def StrPost (l : List UInt8) (w : World) (e : Ending) (w' : World) : Prop := e = .returned (.string ⟨l.toArray⟩) ∧ Below w.heap.size w w'
set_option maxRecDepth 100000 in
set_option maxHeartbeats 2000000 in
theorem natFmt_any (A : Option Addr) (c : Nat) (ds : List Nat) (w : World) (h : IsN w A c ds) (hl : ds.length ≤ 1048576) (hD : (Lib.decDigits (nval ds)).length ≤ 1073741824) :
    Calls Tryd.prog 47 #[.slice A ds.length c] w (StrPost (Lib.decDigits (nval ds)) w) := by
  have HI := Lib.hid h
  clear h
  obtain ⟨N, hN⟩ : ∃ N, nval ds = N := ⟨_, rfl⟩
  have HN := Lib.hid hN
  rw [hN] at hD ⊢
  have hdl : (digs N).length ≤ ds.length := by rw [← hN]; exact digs_length_le (nval_lt ds HI.out.ok)
  clear hN
  go_enter Tryd.func47, Tryd.ntmps47
  go_wp2_with fail
  refine (norm_any A c ds _ HI.out (by omega)).mono ?_
  intro e w1 h1
  rw [HN.out] at h1
  obtain ⟨v1, rfl, hn1, hb1⟩ := h1.num (Nat.le_refl _)
  have HN1 := Lib.hid hn1
  have HB1 := Lib.hid hb1
  have hs1 := hb1.size
  clear h1 hn1 hb1
  obtain ⟨A1, c1, e1, _⟩ := HN1.out.is
  subst e1
  by_cases h0 : N = 0
  · have g1 : (((digs N).length : Int) == 0) = true := by rw [beq_iff_eq]; have := digs_len0.2 h0; omega
    have HD0 := Lib.hid (show Lib.decDigits N = [48] by rw [h0, Lib.decDigits]; rfl)
    clear h0
    go_wp2
    go_ret
    exact ⟨by rw [HD0.out]; rfl, HB1.out⟩
  · have g1 : (((digs N).length : Int) == 0) = false := by rw [beq_eq_false_iff_ne]; intro h; exact h0 (digs_len0.1 (by omega))
    have HD0 := Lib.hid (show dec N [] = Lib.decDigits N by rw [dec, if_neg h0, List.append_nil])
    clear h0
    obtain ⟨D, hDe⟩ : ∃ D, Lib.decDigits N = D := ⟨_, rfl⟩
    rw [hDe] at HD0 hD
    have HDE := Lib.hid hDe
    clear hDe
    go_wp2
    go_loopw [3, 4] (fun x s wr => FmtInv w D x s wr) (fun x _ wr => numAt x wr)
    case atStart => exact ⟨N, [], HN1.out, rfl, HD0.out, by omega, by simp, HB1.out⟩
    case round =>
      obtain ⟨m, t, hnm, rfl, hdm, hlm, hlt, hbw⟩ := hrel
      have HNM := Lib.hid hnm
      have HM := Lib.hid hnm.num
      have HDM := Lib.hid hdm
      have HBW := Lib.hid hbw
      have hsr := hbw.size
      obtain ⟨Am, cm, em, him⟩ := hnm.is
      subst em
      have HIM := Lib.hid him
      clear hnm hdm hbw him
      by_cases h0 : m = 0
      · have g2 : decide (0 < ((digs m).length : Int)) = false := by rw [decide_eq_false_iff_not]; have := digs_len0.2 h0; omega
        have g3 : decide (0 < (digs m).length) = false := by rw [decide_eq_false_iff_not]; have := digs_len0.2 h0; omega
        have g4 : ((digs m).length : Int) ≤ 0 := by have := digs_len0.2 h0; omega
        have HT := Lib.hid (show t = D by have := HDM.out; rwa [dec, if_pos h0] at this)
        clear h0
        go_wp2
        go_ret
        exact ⟨by rw [HDE.out, ← HT.out]; rfl, HBW.out⟩
      · have hpl : 0 < (digs m).length := by
          rcases Nat.eq_zero_or_pos (digs m).length with h | h
          · exact absurd (digs_len0.1 h) h0
          · exact h
        have HST := Lib.hid (dec_step h0 t)
        have h10 : m % 10 < 10 := Nat.mod_lt _ (by decide)
        have HM0 := Lib.hid h0
        clear h0
        go_wp2_with fail
        refine (smallN HIM.out hlm).mono ?_
        rintro e w4 ⟨v4, he, ho4, hb4⟩
        have hn4 : NumIn w w4 v4 (m / 10) := OwnN.base_le ho4 hsr
        have HN4 := Lib.hid hn4
        have HB4 := Lib.hid (below_then HBW.out hb4 hsr)
        have hs4 : w.heap.size ≤ w4.heap.size := Nat.le_trans hsr hb4.size
        obtain ⟨q, hq⟩ : ∃ q, m % 10 = q := ⟨_, rfl⟩
        rw [hq] at he h10 HST
        subst he
        clear ho4 hn4 hb4 hq
        have hcv := conv_one (48 + (q : Int)) (UInt8.ofNat (48 + q)) (by rw [digit_toNat q h10]; omega) w4
        go_wp2
        go_roundw
        case rel =>
          refine ⟨m / 10, UInt8.ofNat (48 + q) :: t, HN4.out.below ((Below.refl _ _).alloc (Nat.le_refl _) _), ?_, by rw [← HST.out]; exact HDM.out, Nat.le_trans (digs_length_mono (Nat.div_le_self _ _)) hlm, ?_, HB4.out.alloc hs4 _⟩
          · have := app_mk [UInt8.ofNat (48 + q)] t
            simpa using this
          · have h1 := dec_len (m / 10) (UInt8.ofNat (48 + q) :: t)
            rw [← HST.out, HDM.out] at h1
            exact h1
        case measure =>
          have h1 := (HN4.out.below ((Below.refl _ _).alloc (Nat.le_refl _) (.cells #[.int .u8 (48 + (q : Int))] 5))).num
          rw [h1, HM.out]
          have := HM0.out
          omega
end Go.Proofs.YtpjfkhbdhdolfaaDoor
