/-
  credenceref1.NatCmp, walked: the order of the two numbers.
-/
import Derived.Test.YtpjfkhbdhdolfaaDoorNata
import Derived.Deep.QuietTactic
import Derived.BigQuiet
namespace Go.Proofs.YtpjfkhbdhdolfaaDoor
open Go.RowKit

theorem digs_short {m n : Nat} (h : (digs m).length < (digs n).length) : m < n := by
  rcases Nat.lt_or_ge m n with h' | h'
  · exact h'
  · have := digs_length_mono h'; omega
theorem nval_split (a : List Nat) (k : Nat) (hk : k < a.length) : nval a = nval (a.take k) + 4294967296 ^ k * (a[k] + 4294967296 * nval (a.drop (k + 1))) := by
  have h : a = a.take k ++ a[k] :: a.drop (k + 1) := by rw [← List.drop_eq_getElem_cons hk, List.take_append_drop]
  have hl : (a.take k).length = k := by rw [List.length_take]; omega
  conv => lhs; rw [h]
  rw [nval_append, hl, nval]
theorem top_lt (a b : List Nat) (k : Nat) (ha : Digs a) (hl : a.length = b.length) (hk : k < a.length) (he : ∀ (j : Nat) (h1 : j < a.length) (h2 : j < b.length), k < j → a[j] = b[j]) (hlt : a[k] < b[k]'(by omega)) : nval a < nval b := by
  have hd : a.drop (k + 1) = b.drop (k + 1) := by
    apply List.ext_getElem
    · simp [hl]
    · intro j h1 h2
      simp only [List.getElem_drop]
      exact he _ _ _ (by omega)
  rw [nval_split a k hk, nval_split b k (by omega), hd]
  have h1 := nval_lt (a.take k) (fun d hd' => ha d (List.mem_of_mem_take hd'))
  have h2 : (a.take k).length = k := by rw [List.length_take]; omega
  rw [h2] at h1
  have h3 := Nat.mul_le_mul_left (4294967296 ^ k) (show a[k] + 4294967296 * nval (b.drop (k + 1)) + 1 ≤ b[k]'(by omega) + 4294967296 * nval (b.drop (k + 1)) by omega)
  rw [Nat.mul_add] at h3
  omega
theorem all_same (a b : List Nat) (hl : a.length = b.length) (he : ∀ (j : Nat) (h1 : j < a.length) (h2 : j < b.length), a[j] = b[j]) : a = b := List.ext_getElem hl fun j h1 h2 => he j h1 h2
theorem below_drewN {B n : Nat} {w W : World} (h : Below B w W) : Below B w (W.drewN n) := ⟨h.os, h.tape, h.output, h.size, h.block⟩
def CmpPost (x y : Nat) (w : World) (e : Ending) (w' : World) : Prop := e = .returned (.int .i64 (cmpI x y)) ∧ Below w.heap.size w w'
theorem cmpN_lt {x y : Nat} (h : x < y) : cmpI (x : Int) (y : Int) = -1 := cmpI_lt (by omega)
theorem cmpN_gt {x y : Nat} (h : y < x) : cmpI (x : Int) (y : Int) = 1 := cmpI_gt (by omega)
theorem cmpN_eq {x y : Nat} (h : x = y) : cmpI (x : Int) (y : Int) = 0 := cmpI_eq (by omega) (by omega)
set_option maxRecDepth 100000 in
set_option maxHeartbeats 2000000 in
theorem cmp_any (A B : Option Addr) (ca cb : Nat) (x y : List Nat) (w : World) (hA : IsN w A ca x) (hB : IsN w B cb y) (hlx : x.length ≤ 1073741823) (hly : y.length ≤ 1073741823) :
    Calls Tryd.prog 48 #[.slice A x.length ca, .slice B y.length cb] w (CmpPost (nval x) (nval y) w) := by
  have HA := Lib.hid hA
  have HB := Lib.hid hB
  clear hA hB
  have hdx : (digs (nval x)).length ≤ x.length := digs_length_le (nval_lt x HA.out.ok)
  have hdy : (digs (nval y)).length ≤ y.length := digs_length_le (nval_lt y HB.out.ok)
  go_enter Tryd.func48, Tryd.ntmps48
  go_wp2_with fail
  refine (norm_any A ca x _ HA.out hlx).mono ?_
  intro e w1 h1
  obtain ⟨A1, c1, rfl, hi1, hb1⟩ := h1.open_
  have HI1 := Lib.hid hi1
  have HB1 := Lib.hid hb1
  have hs1 := hb1.size
  clear h1 hi1 hb1
  go_wp2_with fail
  refine (norm_any B cb y _ (HB.out.below HB1.out) hly).mono ?_
  intro e w2 h2
  obtain ⟨A2, c2, rfl, hi2, hb2⟩ := h2.open_
  have HI2 := Lib.hid hi2
  have HI1 := Lib.hid (HI1.out.below hb2)
  have HB2 := Lib.hid (below_then HB1.out hb2 hs1)
  have hs2 : w.heap.size ≤ w2.heap.size := Nat.le_trans hs1 hb2.size
  clear h2 hi2 hb2
  generalize hX : nval x = X at HI1 hdx ⊢
  generalize hY : nval y = Y at HI2 hdy ⊢
  have HXE := Lib.hid hX
  have HYE := Lib.hid hY
  clear hX hY
  obtain ⟨a, ha⟩ : ∃ a, digs X = a := ⟨_, rfl⟩
  obtain ⟨b, hb⟩ : ∃ b, digs Y = b := ⟨_, rfl⟩
  have HVA : Hid (nval a = X) := by rw [← ha]; exact nval_digs X
  have HVB : Hid (nval b = Y) := by rw [← hb]; exact nval_digs Y
  have HSH := Lib.hid (@digs_short X Y)
  have HSH2 := Lib.hid (@digs_short Y X)
  rw [ha, hb] at HSH HSH2
  rw [ha] at HI1 hdx ⊢
  rw [hb] at HI2 hdy ⊢
  clear ha hb
  by_cases hne : a.length = b.length
  · have HNE := Lib.hid hne
    have g1 : ((a.length : Int) == (b.length : Int)) = true := by rw [beq_iff_eq]; omega
    have g2 : ((a.length : Int) != (b.length : Int)) = false := by rw [bne_eq_false_iff_eq]; omega
    clear hne
    go_wp2
    go_loopw [7] (fun i wr => ∃ k : Nat, k ≤ a.length ∧ i = .int .i64 ((k : Int) - 1) ∧ (∀ (j : Nat) (h1 : j < a.length) (h2 : j < b.length), k ≤ j → a[j] = b[j]) ∧ Below w2.heap.size w2 wr) (fun i _ => (intOf i + 1).toNat)
    case atStart => exact ⟨a.length, Nat.le_refl _, rfl, fun j h1 h2 h => by omega, Below.refl _ _⟩
    case round =>
      obtain ⟨k, hk, rfl, he, hbw⟩ := hrel
      have HEQ := Lib.hid he
      have HBW := Lib.hid hbw
      have HF := Lib.hid (below_then HB2.out hbw hs2)
      clear he hbw
      cases k with
      | zero =>
        have HXY := Lib.hid (show X = Y by rw [← HVA.out, ← HVB.out, all_same a b HNE.out (fun j h1 h2 => HEQ.out j h1 h2 (by omega))])
        go_wp2
        go_ret
        exact ⟨by rw [HXE.out, HYE.out, cmpN_eq HXY.out]; rfl, HF.out⟩
      | succ k =>
        rw [show ((k + 1 : Nat) : Int) - 1 = (k : Int) by omega]
        obtain ⟨b1, o1, rfl, hb1, hc1⟩ := (HI1.out.below HBW.out).digit (i := k) (by omega)
        obtain ⟨b2, o2, rfl, hb2, hc2⟩ := (HI2.out.below HBW.out).digit (i := k) (by have := HNE.out; omega)
        have c1 := hc1 k (by omega)
        have c2 := hc2 k (by have := HNE.out; omega)
        have hkb : k < b.length := by have := HNE.out; omega
        have hka : k < a.length := by omega
        have HLT : Hid (a[k]'hka < b[k]'hkb → nval a < nval b) := (fun h => top_lt a b k HI1.out.ok HNE.out (by omega) (fun j h1 h2 h' => HEQ.out j h1 h2 (by omega)) h)
        have HGT : Hid (b[k]'hkb < a[k]'hka → nval b < nval a) := (fun h => top_lt b a k HI2.out.ok HNE.out.symm hkb (fun j h1 h2 h' => (HEQ.out j h2 h1 (by omega)).symm) h)
        rw [HVA.out, HVB.out] at HLT HGT
        obtain ⟨p, hp⟩ : ∃ p, a[k]'(by omega) = p := ⟨_, rfl⟩
        obtain ⟨q, hq⟩ : ∃ q, b[k] = q := ⟨_, rfl⟩
        have HP := Lib.hid hp
        have HQ := Lib.hid hq
        rw [hp] at c1
        rw [hq] at c2
        clear hc1 hc2 hp hq
        have k0 : (0 : Int) ≤ (k : Int) := by omega
        have k1 : (k : Int) < (a.length : Int) := by omega
        have k2 : (k : Int) < (b.length : Int) := by omega
        rcases Nat.lt_trichotomy p q with hpq | hpq | hpq
        · have HR := Lib.hid (HLT.out (by rw [HP.out, HQ.out]; exact hpq))
          have t1 : decide ((p : Int) < (q : Int)) = true := by simp; omega
          go_wp2
          go_quiet (fail)
          go_wp2
          go_ret
          exact ⟨by rw [HXE.out, HYE.out, cmpN_lt HR.out]; rfl, below_drewN HF.out⟩
        · subst hpq
          go_wp2
          go_quiet (fail)
          go_wp2
          go_quiet (fail)
          go_wp2
          go_roundw
          case rel =>
            refine ⟨k, by omega, by go_num, fun j h1 h2 h => ?_, by first | exact below_drewN (below_drewN HBW.out) | exact below_drewN HBW.out⟩
            by_cases e : j = k
            · subst e; rw [HP.out, HQ.out]
            · exact HEQ.out j h1 h2 (by omega)
          case measure => simp [intOf]
        · have HR := Lib.hid (HGT.out (by rw [HP.out, HQ.out]; exact hpq))
          have t1 : decide ((p : Int) < (q : Int)) = false := by simp; omega
          have t2 : decide ((q : Int) < (p : Int)) = true := by simp; omega
          go_wp2
          go_quiet (fail)
          go_wp2
          go_quiet (fail)
          go_wp2
          go_ret
          exact ⟨by rw [HXE.out, HYE.out, cmpN_gt HR.out]; rfl, by first | exact below_drewN (below_drewN HF.out) | exact below_drewN HF.out⟩
  · have g1 : ((a.length : Int) == (b.length : Int)) = false := by rw [beq_eq_false_iff_ne]; omega
    have g2 : ((a.length : Int) != (b.length : Int)) = true := by rw [bne_iff_ne]; omega
    rcases Nat.lt_or_ge a.length b.length with hlt | hge
    · have HR := Lib.hid (HSH.out hlt)
      go_wp2
      go_ret
      exact ⟨by rw [HXE.out, HYE.out, cmpN_lt HR.out]; rfl, HB2.out⟩
    · have hgt : b.length < a.length := by omega
      have HR := Lib.hid (HSH2.out hgt)
      go_wp2
      go_ret
      exact ⟨by rw [HXE.out, HYE.out, cmpN_gt HR.out]; rfl, HB2.out⟩
end Go.Proofs.YtpjfkhbdhdolfaaDoor
