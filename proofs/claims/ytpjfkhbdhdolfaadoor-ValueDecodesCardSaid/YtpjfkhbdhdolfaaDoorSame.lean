/-
  The reference's SameValues of two slices that read as one list.
-/
import Derived.Test.YtpjfkhbdhdolfaaDoorMonb
import Derived.Test.YtpjfkhbdhdolfaaDoorIsb
namespace Go.Proofs.YtpjfkhbdhdolfaaDoor
open Go.RowKit
def SV6 (b1 o1 ca b2 o2 cb k : Nat) (p : List V) (v : V) : List (Value → World → Prop) := [
  fun r _ => r = .slice (some ⟨b1, o1, none⟩) p.length ca,
  fun r _ => r = .int .i64 (k : Int),
  fun r _ => r = .pointer (some ⟨b1, o1 + k * 3, none⟩),
  fun r _ => r = .agg #[.int .i64 v.t, .int .i64 v.n, .string v.s],
  fun r _ => r = .slice (some ⟨b2, o2, none⟩) p.length cb,
  fun r _ => r = .int .i64 (k : Int),
  fun r _ => r = .pointer (some ⟨b2, o2 + k * 3, none⟩),
  fun r _ => r = .agg #[.int .i64 v.t, .int .i64 v.n, .string v.s],
  fun r _ => r = .bool false]
theorem SV6_stab (b1 o1 ca b2 o2 cb k : Nat) (p : List V) (v : V) (W0 : World) : Stab W0 (SV6 b1 o1 ca b2 o2 cb k p v) :=
  .eq <| .eq <| .eq <| .eq <| .eq <| .eq <| .eq <| .eq <| .eq <| .nil

set_option maxRecDepth 100000 in
set_option maxHeartbeats 1000000 in
theorem same_any (A B : Option Addr) (ca cb : Nat) (p : List V) (w : World) (hA : At w w.heap.size A (cellsV p)) (hB : At w w.heap.size B (cellsV p)) (hl : p.length ≤ 1073741824) :
    Calls Tryd.prog 32 #[.slice A p.length ca, .slice B p.length cb] w fun e w' => e = .returned (.bool true) ∧ Below w.heap.size w w' := by
  have HA := Lib.hid hA
  have HB := Lib.hid hB
  clear hA hB
  go_enter Tryd.func32, Tryd.ntmps32
  go_wp2
  go_loopw [5] (fun i wr => ∃ k : Nat, k ≤ p.length ∧ i = .int .i64 k ∧ Below w.heap.size w wr) (fun i _ => p.length - (intOf i).toNat)
  case atStart => exact ⟨0, Nat.zero_le _, rfl, Below.refl _ _⟩
  case round =>
    obtain ⟨k, hk, rfl, hbw⟩ := hrel
    have HBW := Lib.hid hbw
    have hsz := hbw.size
    clear hbw
    by_cases hlt : k < p.length
    · obtain ⟨b1, o1, rfl, hbc, c0, c1, c2⟩ := (HA.out.below HBW.out).val hlt
      obtain ⟨b2, o2, rfl, hbd, d0, d1, d2⟩ := (HB.out.below HBW.out).val hlt
      have hbc : b1 < wr.heap.size := by omega
      have hbd : b2 < wr.heap.size := by omega
      generalize p[k] = v at c0 c1 c2 d0 d1 d2
      have C0 := Lib.hid c0
      have C1 := Lib.hid c1
      have C2 := Lib.hid c2
      have D0 := Lib.hid d0
      have D1 := Lib.hid d1
      have D2 := Lib.hid d2
      clear c0 c1 c2 d0 d1 d2
      go_wp2
      have c0 := C0.out
      have c1 := C1.out
      have c2 := C2.out
      have d0 := D0.out
      have d1 := D1.out
      have d2 := D2.out
      refine wp_region_below [some 17, some 18, some 19, some 20, some 21, some 22, some 23, some 24, some 25] (SV6 b1 o1 ca b2 o2 cb k p v) (by kernel_rfl) (by kernel_rfl) (by rfl) (by rfl) (SV6_stab b1 o1 ca b2 o2 cb k p v _) ?_ ?_
      ·
        refine Steps.cons trivial (fun T W hg => ?_) ?_
        · have e0 : T 0 = .slice (some ⟨b1, o1, none⟩) p.length ca := hg.keep 0 (by rfl)
          have hwi := hg.wi
          clear hg
          refine OpRuns.of_ok (v := .slice (some ⟨b1, o1, none⟩) p.length ca) (W' := W) ?_ ⟨rfl, Below.refl _ _⟩
          simp only [execOp, evT, e0]
          go_simp
        refine Steps.cons trivial (fun T W hg => ?_) ?_
        · have e5 : T 5 = .int .i64 (k : Int) := hg.keep 5 (by rfl)
          have hwi := hg.wi
          clear hg
          refine OpRuns.of_ok (v := .int .i64 (k : Int)) (W' := W) ?_ ⟨rfl, Below.refl _ _⟩
          simp only [execOp, evT, e5]
          go_simp
        refine Steps.cons trivial (fun T W hg => ?_) ?_
        · have e17 : T 17 = .slice (some ⟨b1, o1, none⟩) p.length ca := hg.fact 1 0 17 (by kernel_rfl)
          have e18 : T 18 = .int .i64 (k : Int) := hg.fact 1 1 18 (by kernel_rfl)
          have hwi := hg.wi
          clear hg
          refine OpRuns.of_ok (v := .pointer (some ⟨b1, o1 + k * 3, none⟩)) (W' := W) ?_ ⟨rfl, Below.refl _ _⟩
          simp only [execOp, evT, e17, e18]
          go_simp
        refine Steps.cons trivial (fun T W hg => ?_) ?_
        · have e19 : T 19 = .pointer (some ⟨b1, o1 + k * 3, none⟩) := hg.fact 1 2 19 (by kernel_rfl)
          have hwi := hg.wi
          clear hg
          refine OpRuns.of_ok (v := .agg #[.int .i64 v.t, .int .i64 v.n, .string v.s]) (W' := W) ?_ ⟨rfl, Below.refl _ _⟩
          have c0' := (hwi.cell (p := ⟨b1, o1 + k * 3, none⟩) hbc).trans c0
          have c1' := (hwi.cell (p := ⟨b1, o1 + k * 3 + 1, none⟩) hbc).trans c1
          have c2' := (hwi.cell (p := ⟨b1, o1 + k * 3 + 2, none⟩) hbc).trans c2
          simp only [execOp, evT, e19]
          go_simp
        refine Steps.cons trivial (fun T W hg => ?_) ?_
        · have e1 : T 1 = .slice (some ⟨b2, o2, none⟩) p.length cb := hg.keep 1 (by rfl)
          have hwi := hg.wi
          clear hg
          refine OpRuns.of_ok (v := .slice (some ⟨b2, o2, none⟩) p.length cb) (W' := W) ?_ ⟨rfl, Below.refl _ _⟩
          simp only [execOp, evT, e1]
          go_simp
        refine Steps.cons trivial (fun T W hg => ?_) ?_
        · have e5 : T 5 = .int .i64 (k : Int) := hg.keep 5 (by rfl)
          have hwi := hg.wi
          clear hg
          refine OpRuns.of_ok (v := .int .i64 (k : Int)) (W' := W) ?_ ⟨rfl, Below.refl _ _⟩
          simp only [execOp, evT, e5]
          go_simp
        refine Steps.cons trivial (fun T W hg => ?_) ?_
        · have e21 : T 21 = .slice (some ⟨b2, o2, none⟩) p.length cb := hg.fact 1 4 21 (by kernel_rfl)
          have e22 : T 22 = .int .i64 (k : Int) := hg.fact 1 5 22 (by kernel_rfl)
          have hwi := hg.wi
          clear hg
          refine OpRuns.of_ok (v := .pointer (some ⟨b2, o2 + k * 3, none⟩)) (W' := W) ?_ ⟨rfl, Below.refl _ _⟩
          simp only [execOp, evT, e21, e22]
          go_simp
        refine Steps.cons trivial (fun T W hg => ?_) ?_
        · have e23 : T 23 = .pointer (some ⟨b2, o2 + k * 3, none⟩) := hg.fact 1 6 23 (by kernel_rfl)
          have hwi := hg.wi
          clear hg
          refine OpRuns.of_ok (v := .agg #[.int .i64 v.t, .int .i64 v.n, .string v.s]) (W' := W) ?_ ⟨rfl, Below.refl _ _⟩
          have c0' := (hwi.cell (p := ⟨b2, o2 + k * 3, none⟩) hbd).trans d0
          have c1' := (hwi.cell (p := ⟨b2, o2 + k * 3 + 1, none⟩) hbd).trans d1
          have c2' := (hwi.cell (p := ⟨b2, o2 + k * 3 + 2, none⟩) hbd).trans d2
          simp only [execOp, evT, e23]
          go_simp
        refine Steps.cons trivial (fun T W hg => ?_) ?_
        · have e20 : T 20 = .agg #[.int .i64 v.t, .int .i64 v.n, .string v.s] := hg.fact 1 3 20 (by kernel_rfl)
          have e24 : T 24 = .agg #[.int .i64 v.t, .int .i64 v.n, .string v.s] := hg.fact 1 7 24 (by kernel_rfl)
          have hwi := hg.wi
          clear hg
          refine OpRuns.of_ok (v := .bool false) (W' := W) ?_ ⟨rfl, Below.refl _ _⟩
          simp only [execOp, evT, e20, e24]
          go_simp
        exact Steps.nil
      · intro us W1 hlen hF hb
        obtain ⟨y0, us0, rfl, hl0⟩ := len_cons hlen
        clear hlen
        obtain ⟨y1, us1, rfl, hl1⟩ := len_cons hl0
        clear hl0
        obtain ⟨y2, us2, rfl, hl2⟩ := len_cons hl1
        clear hl1
        obtain ⟨y3, us3, rfl, hl3⟩ := len_cons hl2
        clear hl2
        obtain ⟨y4, us4, rfl, hl4⟩ := len_cons hl3
        clear hl3
        obtain ⟨y5, us5, rfl, hl5⟩ := len_cons hl4
        clear hl4
        obtain ⟨y6, us6, rfl, hl6⟩ := len_cons hl5
        clear hl5
        obtain ⟨y7, us7, rfl, hl7⟩ := len_cons hl6
        clear hl6
        obtain ⟨y8, us8, rfl, hl8⟩ := len_cons hl7
        clear hl7
        obtain rfl := len_nil hl8
        clear hl8
        have f8 : y8 = .bool false := hF 8 (by decide)
        clear hF
        subst f8
        simp only [updO, List.zip_cons_cons, List.zip_nil_right, List.setIfInBounds_toArray, List.set_cons_succ, List.set_cons_zero]
        have HB3 := Lib.hid hb
        clear hb c0 c1 c2 d0 d1 d2
        go_wp2
        go_roundw
        case rel => exact ⟨k + 1, by omega, by go_num, HBW.out.trans (HB3.out.mono hsz)⟩
        case measure => simp [intOf]; omega
    · go_wp2
      go_ret
      exact ⟨rfl, HBW.out⟩
end Go.Proofs.YtpjfkhbdhdolfaaDoor
