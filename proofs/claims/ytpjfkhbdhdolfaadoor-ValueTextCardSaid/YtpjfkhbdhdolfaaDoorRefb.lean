/-
  The reference's CompareTuples.
-/
import Derived.Test.YtpjfkhbdhdolfaaDoorRefa
import Derived.StillTailTactics
namespace Go.Proofs.YtpjfkhbdhdolfaaDoor
open Go.RowKit

set_option maxRecDepth 100000 in
set_option maxHeartbeats 1000000 in
theorem refTuples_any (A B : Option Addr) (c d : Nat) (l m : List V) (w : World) (h : At w w.heap.size A (cellsV l)) (h' : At w w.heap.size B (cellsV m)) (hl : l.length ≤ 65536) (_hm : m.length ≤ 65536) :
    Calls Tryd.prog 27 #[.slice A l.length c, .slice B m.length d] w fun e w' => e = .returned (.int .i64 (cmpL l m)) ∧ Below w.heap.size w w' := by
  have HA := Lib.hid h
  have HB := Lib.hid h'
  clear h h'
  go_enter Tryd.func27, Tryd.ntmps27
  go_wp2
  go_loopw [5] (fun i wr => ∃ k : Nat, k ≤ l.length ∧ k ≤ m.length ∧ i = .int .i64 k ∧ cmpL l m = cmpL (l.drop k) (m.drop k) ∧ Below w.heap.size w wr) (fun i _ => l.length - (intOf i).toNat)
  case atStart => exact ⟨0, Nat.zero_le _, Nat.zero_le _, rfl, rfl, Below.refl _ _⟩
  case round =>
    obtain ⟨k, hk, hkm, rfl, heq, hbw⟩ := hrel
    have HQ := Lib.hid heq
    have HBw := Lib.hid hbw
    have HA1 := Lib.hid (HA.out.below hbw)
    have HB1 := Lib.hid (HB.out.below hbw)
    have hsz := HBw.out.size
    clear heq hbw
    by_cases hlt : k < l.length
    · by_cases hlm : k < m.length
      · obtain ⟨b1, o1, rfl, hb1, c0, c1, c2⟩ := HA1.out.val hlt
        obtain ⟨b2, o2, rfl, hb2, d0, d1, d2⟩ := HB1.out.val hlm
        have HS := Lib.hid (cmpL_step l m k hlt hlm)
        obtain ⟨x, hx⟩ : ∃ x, cmpVV l[k] m[k] = x := ⟨_, rfl⟩
        have HS : Hid (cmpL (l.drop k) (m.drop k) = if x = 0 then cmpL (l.drop (k + 1)) (m.drop (k + 1)) else x) := by rw [← hx]; exact HS
        have HC : Hid (∀ W : World, Calls Tryd.prog 20 #[.agg #[.int .i64 l[k].t, .int .i64 l[k].n, .string l[k].s], .agg #[.int .i64 m[k].t, .int .i64 m[k].n, .string m[k].s]] W fun e w' => e = .returned (.int .i64 x) ∧ Below W.heap.size W w') := fun W => by
          have := refCompare_any l[k].t l[k].n l[k].s m[k].t m[k].n m[k].s W
          rwa [show cmpV l[k].t l[k].n l[k].s m[k].t m[k].n m[k].s = x from hx] at this
        clear hx
        have hki : (0 : Int) ≤ (k : Int) := by omega
        have hkl : (k : Int) < (l.length : Int) := by omega
        have hkm' : (k : Int) < (m.length : Int) := by omega
        by_cases hx0 : x = 0
        · subst hx0
          go_wp2
          refine wp_region_still_tail 8 (by kernel_rfl) (by kernel_rfl) ?_
          simp only [List.take_succ_cons, List.take_zero, List.drop_succ_cons, List.drop_zero]
          change wpStill _ _ wr.drew _ _ _
          iterate 8 still_step
          refine wpStill_nil ?_
          clear c0 c1 c2 d0 d1 d2
          go_wp2_with fail
          refine (HC.out _).mono ?_
          rintro e w1 ⟨rfl, hb3⟩
          have HB3 := Lib.hid (show Below w.heap.size w w1 from HBw.out.drew.trans (hb3.mono (by simpa using hsz)))
          clear hb3
          go_wp2
          go_roundw
          case rel => exact ⟨k + 1, by omega, by omega, by go_num, by rw [HQ.out, HS.out]; simp, HB3.out⟩
          case measure => simp [intOf]; omega
        · have hx1 : (x != 0) = true := by simpa using hx0
          have hx2 : (x == 0) = false := by simpa using hx0
          go_wp2
          refine wp_region_still_tail 8 (by kernel_rfl) (by kernel_rfl) ?_
          simp only [List.take_succ_cons, List.take_zero, List.drop_succ_cons, List.drop_zero]
          change wpStill _ _ wr.drew _ _ _
          iterate 8 still_step
          refine wpStill_nil ?_
          clear c0 c1 c2 d0 d1 d2
          go_wp2_with fail
          refine (HC.out _).mono ?_
          rintro e w1 ⟨rfl, hb3⟩
          have HB3 := Lib.hid (show Below w.heap.size w w1 from HBw.out.drew.trans (hb3.mono (by simpa using hsz)))
          clear hb3
          go_wp2
          go_ret
          exact ⟨by rw [HQ.out, HS.out, if_neg hx0]; rfl, HB3.out⟩
      · have HS := Lib.hid (show cmpL (l.drop k) (m.drop k) = 1 by
          rw [List.drop_eq_getElem_cons hlt, List.drop_of_length_le (l := m) (by omega)]; rfl)
        go_wp2
        go_ret
        exact ⟨by rw [HQ.out, HS.out]; rfl, HBw.out⟩
    · by_cases hlm : k < m.length
      · have HS := Lib.hid (show cmpL (l.drop k) (m.drop k) = -1 by
          rw [List.drop_eq_getElem_cons hlm, List.drop_of_length_le (l := l) (by omega)]; rfl)
        go_wp2
        go_ret
        exact ⟨by rw [HQ.out, HS.out]; rfl, HBw.out⟩
      · have HS := Lib.hid (show cmpL (l.drop k) (m.drop k) = 0 by
          rw [List.drop_of_length_le (l := l) (by omega), List.drop_of_length_le (l := m) (by omega)]; rfl)
        go_wp2
        go_ret
        exact ⟨by rw [HQ.out, HS.out]; rfl, HBw.out⟩
end Go.Proofs.YtpjfkhbdhdolfaaDoor
