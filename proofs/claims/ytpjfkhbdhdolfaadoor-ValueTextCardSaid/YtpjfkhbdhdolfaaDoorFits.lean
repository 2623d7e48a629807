/-
  The law's helpers 'fits' and 'valids'.
-/
import Derived.Test.YtpjfkhbdhdolfaaDoorMk
import Derived.Test.YtpjfkhbdhdolfaaDoorAppv
namespace Go.Proofs.YtpjfkhbdhdolfaaDoor
open Go.RowKit

def fitsB (l : List V) : Bool := decide (l.length ≤ 8) && l.all fun v => decide (v.s.size ≤ 80)
theorem fits_long (A : Option Addr) (cap : Nat) (l : List V) (w : World) (hl : 8 < l.length) (hm : l.length ≤ 9223372036854775807) :
    Calls Tryd.prog 18 #[.slice A l.length cap] w fun e w' => e = .returned (.bool (fitsB l)) ∧ w = w' := by
  have HF := Lib.hid (show fitsB l = false by simp [fitsB]; omega)
  go_enter Tryd.func18, Tryd.ntmps18
  go_wp2
  go_ret
  exact ⟨by rw [HF.out]; rfl, rfl⟩
theorem fits_short (A : Option Addr) (cap : Nat) (l : List V) (w : World) (h : At w w.heap.size A (cellsV l)) (hl : l.length ≤ 8) :
    Calls Tryd.prog 18 #[.slice A l.length cap] w fun e w' => e = .returned (.bool (fitsB l)) ∧ w = w' := by
  have HF := Lib.hid (show fitsB l = l.all fun v => decide (v.s.size ≤ 80) by simp [fitsB, hl])
  have HA := Lib.hid h
  clear h
  go_enter Tryd.func18, Tryd.ntmps18
  go_wp2
  go_loop [3] (fun i => ∃ k : Nat, k ≤ l.length ∧ (l.take k).all (fun v => decide (v.s.size ≤ 80)) = true ∧ i = .int .i64 k) (fun i => l.length - (intOf i).toNat)
  case atStart => exact ⟨0, Nat.zero_le _, by simp, rfl⟩
  case round =>
    obtain ⟨k, hk, hall, rfl⟩ := hrel
    have HL := Lib.hid hall
    clear hall
    by_cases hlt : k < l.length
    · obtain ⟨b, off, rfl, hb, c0, c1, c2⟩ := HA.out.val hlt
      have HS := Lib.hid (show (l.take (k + 1)).all (fun v => decide (v.s.size ≤ 80)) = ((l.take k).all (fun v => decide (v.s.size ≤ 80)) && decide (l[k].s.size ≤ 80)) by rw [List.take_succ_eq_append_getElem hlt, List.all_append]; simp)
      by_cases h80 : l[k].s.size ≤ 80
      · go_wp2
        go_round
        case rel => exact ⟨k + 1, by omega, by rw [HS.out, HL.out]; simpa using h80, by go_num⟩
        case measure => simp [intOf]; omega
      · have HO := Lib.hid (show l.all (fun v => decide (v.s.size ≤ 80)) = false by
          rw [List.all_eq_false]
          exact ⟨l[k], List.getElem_mem hlt, by simpa using h80⟩)
        go_wp2
        go_ret
        exact ⟨by rw [HF.out, HO.out]; rfl, rfl⟩
    · have HO := Lib.hid (show l.all (fun v => decide (v.s.size ≤ 80)) = true by have := HL.out; rwa [List.take_of_length_le (by omega)] at this)
      go_wp2
      go_ret
      exact ⟨by rw [HF.out, HO.out]; rfl, rfl⟩
theorem fits_any (A : Option Addr) (cap : Nat) (l : List V) (w : World) (h : At w w.heap.size A (cellsV l)) (hm : l.length ≤ 9223372036854775807) :
    Calls Tryd.prog 18 #[.slice A l.length cap] w fun e w' => e = .returned (.bool (fitsB l)) ∧ w = w' := by
  rcases Nat.lt_or_ge 8 l.length with hl | hl
  · exact fits_long A cap l w hl hm
  · exact fits_short A cap l w h hl

/-- What 'valids' returns: a new row of valid values. -/
def ValidsPost (l : List V) (w : World) (e : Ending) (w' : World) : Prop := ∃ v, e = .returned v ∧ OwnV w' w.heap.size v (l.map mkV) ∧ Below w.heap.size w w'
set_option maxRecDepth 100000 in
set_option maxHeartbeats 1000000 in
theorem valids_any (A : Option Addr) (cap : Nat) (l : List V) (w : World) (h : At w w.heap.size A (cellsV l)) (hl : l.length ≤ 65536) :
    Calls Tryd.prog 21 #[.slice A l.length cap] w (ValidsPost l w) := by
  have HA := Lib.hid h
  clear h
  go_enter Tryd.func21, Tryd.ntmps21
  go_wp2
  go_loopw [3, 4] (fun x i wr => ∃ k : Nat, k ≤ l.length ∧ i = .int .i64 k ∧ OwnV wr w.heap.size x ((l.take k).map mkV) ∧ Below w.heap.size w wr) (fun _ i _ => l.length - (intOf i).toNat)
  case atStart => exact ⟨0, Nat.zero_le _, rfl, OwnV.nil _ _, Below.refl _ _⟩
  case round =>
    obtain ⟨k, hk, rfl, hown, hbw⟩ := hrel
    have HO := Lib.hid hown
    have HB := Lib.hid hbw
    have HAt := Lib.hid (HA.out.below hbw)
    clear hown hbw
    by_cases hlt : k < l.length
    · obtain ⟨b', off, rfl, hb', c0, c1, c2⟩ := HAt.out.val hlt
      have HS := Lib.hid (show (l.take (k + 1)).map mkV = (l.take k).map mkV ++ [mkV l[k]] by rw [List.take_succ_eq_append_getElem hlt, List.map_append]; rfl)
      have hlen : ((l.take k).map mkV).length ≤ 1073741824 := by simp; omega
      have HC := Lib.hid (mk_any l[k])
      have hsz := HB.out.size
      generalize mkV l[k] = u at HS HC
      go_wp2_with fail
      clear c0 c1 c2
      refine (HC.out _).mono ?_
      rintro e w1 ⟨rfl, hb1⟩
      have HB1 := Lib.hid hb1
      have HO1 := Lib.hid (HO.out.below hb1)
      have hsz1 : w.heap.size ≤ w1.heap.size := Nat.le_trans hsz hb1.size
      clear hb1
      go_wp2_with (at_builtin; refine app_val w.heap.size u3 _ u (.tmp 11) (.tmp 17) rfl rfl rfl rfl HO1.out hlen hsz1 ?_; intro v2 w2 hown2 hgr2; have HO2 := Lib.hid hown2; have HR2 := Lib.hid hgr2; clear hown2 hgr2)
      go_roundw
      case rel =>
        refine ⟨k + 1, by omega, by go_num, ?_, (below_then HB.out HB1.out hsz).trans HR2.out.below⟩
        rw [HS.out]; exact HO2.out
      case measure => simp [intOf]; omega
    · go_wp2
      go_ret
      refine ⟨_, rfl, ?_, HB.out⟩
      have := HO.out
      rwa [List.take_of_length_le (by omega)] at this
end Go.Proofs.YtpjfkhbdhdolfaaDoor
