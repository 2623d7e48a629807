/-
  credenceref1.NatNorm, walked: the digits of the same number without zeros on top.
-/
import Derived.Test.YtpjfkhbdhdolfaaDoorNat
namespace Go.Proofs.YtpjfkhbdhdolfaaDoor
open Go.RowKit

set_option maxRecDepth 100000 in
set_option maxHeartbeats 1000000 in
theorem norm_any (A : Option Addr) (c : Nat) (ds : List Nat) (w : World) (h : IsN w A c ds) (hl : ds.length ≤ 1073741823) :
    Calls Tryd.prog 60 #[.slice A ds.length c] w (NatPost (nval ds) w) := by
  have HI := Lib.hid h
  have hcap := h.cap
  have hmax := h.max
  clear h
  go_enter Tryd.func60, Tryd.ntmps60
  go_wp2
  go_loop [3] (fun i => ∃ k : Nat, k ≤ ds.length ∧ i = .int .i64 k ∧ (∀ (j : Nat) (hj : j < ds.length), k ≤ j → ds[j] = 0)) (fun i => (intOf i).toNat)
  case atStart => exact ⟨ds.length, Nat.le_refl _, rfl, fun j hj h => by omega⟩
  case round =>
    obtain ⟨k, hk, rfl, hz⟩ := hrel
    have HZ := Lib.hid hz
    clear hz
    have EXIT : (k = 0 ∨ ∃ h : k - 1 < ds.length, ds[k - 1] ≠ 0) → ds.take k = digs (nval ds) := fun hl' => digs_take ds k hk HI.out.ok HZ.out hl'
    have HX := Lib.hid EXIT
    clear EXIT
    by_cases h0 : 0 < k
    · obtain ⟨b, off, rfl, hb, hc⟩ := HI.out.digit (i := k - 1) (by omega)
      have hce := hc (k - 1) (by omega)
      have HDK := Lib.hid (show ∃ h : k - 1 < ds.length, ds[k - 1] = ds[k - 1] from ⟨by omega, rfl⟩)
      obtain ⟨d, hd⟩ : ∃ d, ds[k - 1]'(by omega) = d := ⟨_, rfl⟩
      rw [hd] at hce
      have HD := Lib.hid hd
      clear hc hd HDK
      by_cases hd0 : d = 0
      · subst hd0
        go_wp2
        go_round
        case rel =>
          refine ⟨k - 1, by omega, by go_num, fun j hj h => ?_⟩
          by_cases e : j = k - 1
          · subst e; exact HD.out
          · exact HZ.out j hj (by omega)
        case measure => simp [intOf]; omega
      · have HT := Lib.hid (HX.out (.inr ⟨by omega, by rw [HD.out]; exact hd0⟩))
        have hd' : ((d : Int) == 0) = false := by simpa using hd0
        have hlen : (digs (nval ds)).length = k := by rw [← HT.out, List.length_take]; omega
        have HAT := Lib.hid (HI.out.at_.takeN k)
        rw [HT.out] at HAT
        have HLN := Lib.hid hlen
        clear hlen
        obtain ⟨W, hW, hbW, _, hzW⟩ := blk1 w 89 #[]
        have HO := Lib.hid (OwnN.empty w w.heap.size (Nat.le_refl _))
        rw [hW] at HO
        have HW := Lib.hid hW
        have HB := Lib.hid hbW
        have hsW := hbW.size
        clear hW hbW hzW
        go_wp2_with (at_builtin; rw [HW.out]; refine app_nats w.heap.size _ [] (digs (nval ds)) (some ⟨b, off, none⟩) c (.tmp 18) (.tmp 21) rfl rfl rfl (by rw [HLN.out]; rfl) HO.out ((HAT.out.below HB.out).more hsW) (fun h => by cases h) (by have := HLN.out; simp only [List.length_nil]; omega) hsW ?_; intro v2 w2 hown2 hgr2; have HO2 := Lib.hid hown2; have HR2 := Lib.hid hgr2; clear hown2 hgr2)
        go_ret
        exact ⟨v2, rfl, by simpa using HO2.out, HB.out.trans HR2.out.below⟩
    · obtain rfl : k = 0 := by omega
      have HT := Lib.hid (HX.out (.inl rfl))
      have hlen : (digs (nval ds)).length = 0 := by rw [← HT.out, List.length_take]; omega
      have HAT := Lib.hid (HI.out.at_.takeN 0)
      rw [HT.out] at HAT
      have HLN := Lib.hid hlen
      clear hlen
      obtain ⟨W, hW, hbW, _, hzW⟩ := blk1 w 89 #[]
      have HO := Lib.hid (OwnN.empty w w.heap.size (Nat.le_refl _))
      rw [hW] at HO
      have HW := Lib.hid hW
      have HB := Lib.hid hbW
      have hsW := hbW.size
      clear hW hbW hzW
      cases A with
      | none =>
        obtain ⟨hl0, rfl⟩ := HI.out.nil rfl
        go_wp2_with (at_builtin; rw [HW.out]; refine app_nats w.heap.size _ [] (digs (nval ds)) none 0 (.tmp 18) (.tmp 21) rfl rfl rfl (by rw [HLN.out]; rfl) HO.out ((HAT.out.below HB.out).more hsW) (fun _ => ⟨HLN.out, rfl⟩) (by have := HLN.out; simp only [List.length_nil]; omega) hsW ?_; intro v2 w2 hown2 hgr2; have HO2 := Lib.hid hown2; have HR2 := Lib.hid hgr2; clear hown2 hgr2)
        go_ret
        exact ⟨v2, rfl, by simpa using HO2.out, HB.out.trans HR2.out.below⟩
      | some a =>
        go_wp2_with (at_builtin; rw [HW.out]; refine app_nats w.heap.size _ [] (digs (nval ds)) (some a) c (.tmp 18) (.tmp 21) rfl rfl rfl (by rw [HLN.out]; rfl) HO.out ((HAT.out.below HB.out).more hsW) (fun h => by cases h) (by have := HLN.out; simp only [List.length_nil]; omega) hsW ?_; intro v2 w2 hown2 hgr2; have HO2 := Lib.hid hown2; have HR2 := Lib.hid hgr2; clear hown2 hgr2)
        go_ret
        exact ⟨v2, rfl, by simpa using HO2.out, HB.out.trans HR2.out.below⟩
end Go.Proofs.YtpjfkhbdhdolfaaDoor
