import Derived.Test.YtpjfkhbdhdolfaaDoorVald
import Derived.Test.YtpjfkhbdhdolfaaDoorVale
import Derived.Test.YtpjfkhbdhdolfaaDoorConv
import Derived.Deep.RegionWith
import Derived.Deep.DrawnRows
namespace Go.Proofs.YtpjfkhbdhdolfaaDoor
open Go.RowKit
attribute [local go_sem ↓] Go.wp_at_zero Go.wp_at_succ

abbrev itS : ByteArray := ⟨#[105, 116, 39, 115]⟩
abbrev itQ : ByteArray := ⟨#[39, 105, 116, 39, 39, 115, 39]⟩
theorem fmt_it : fmtL 2 0 itS = [39, 105, 116, 39, 39, 115, 39] := by decide
theorem known_fmt (W : World) (hE : Env W) : Calls Tryd.prog 14 #[.agg #[.int .i64 2, .int .i64 0, .string itS]] W fun e w' => e = .returned (.string itQ) ∧ Below W.heap.size W w' := by
  have := format_any 2 0 itS W (by omega) (by omega) hE
  rwa [fmt_it] at this
theorem known_cmp (W : World) : Calls Tryd.prog 16 #[.agg #[.int .i64 1, .int .i64 5, .string ⟨#[]⟩], .agg #[.int .i64 2, .int .i64 0, .string itS]] W fun e w' => e = .returned (.int .i64 (-1)) ∧ Below W.heap.size W w' := by
  have := compare_any 1 5 ⟨#[]⟩ 2 0 itS W
  rwa [show cmpV 1 5 ⟨#[]⟩ 2 0 itS = -1 by decide] at this
/-- What 'known' learns of EncodeKey. -/
def KnownEnc (W : World) (e : Ending) (w' : World) : Prop := ∃ v, e = .returned v ∧ (∀ d : Nat, (convert 24 9 v).run Tryd.prog (w'.drewN d) = .ok (.string ⟨#[2, 98, 0]⟩) (w'.drewN d)) ∧ (convert 24 9 v).run Tryd.prog w' = .ok (.string ⟨#[2, 98, 0]⟩) w' ∧ Below W.heap.size W w'
theorem known_enc (W : World) : Calls Tryd.prog 28 #[.slice (some ⟨W.heap.size, 0, none⟩) 1 1] (W.alloc (.cells #[.int .i64 2, .int .i64 0, .string ⟨#[98]⟩] 23)) (KnownEnc W) := by
  have h := enc_walk (some ⟨W.heap.size, 0, none⟩) 1 [⟨2, 0, ⟨#[98]⟩⟩] (W.alloc (.cells #[.int .i64 2, .int .i64 0, .string ⟨#[98]⟩] 23)) (fun _ => ⟨W.heap.size, 0, rfl, by simp, fun j u hu => by
      have hb := IsBlk.made W 23 #[.int .i64 2, .int .i64 0, .string ⟨#[98]⟩]
      rw [Nat.zero_add, hb.cell j]
      simpa [cellsV, V.cells] using hu⟩) (by simp) (by intro v hv; simp at hv; subst hv; exact ⟨by decide, by decide⟩)
  refine h.mono fun e w' ⟨v, he, h1, _, hb⟩ => ?_
  have ho := h1 (by decide)
  have e1 : encL [⟨2, 0, ⟨#[98]⟩⟩] = [2, 98, 0] := by decide
  rw [e1] at ho
  exact ⟨v, he, fun d => conv_own (w := w'.drewN d) ho, conv_own ho, (((Below.refl _ _).alloc (Nat.le_refl _) _).trans (hb.mono (by simp)))⟩

/-- What holds of every world between the calls of 'known'. -/
structure KS (w : World) (g : Nat) (W : World) : Prop where
  blk : IsBlk W g 23 #[.int .i64 2, .int .i64 0, .string ⟨#[105, 116, 39, 115]⟩]
  env : Env W
  below : Below w.heap.size w W
theorem KS.call {w W W' : World} {g : Nat} (h : KS w g W) (hb : Below W.heap.size W W') : KS w g W' := ⟨h.blk.below hb h.blk.lt, h.env.below hb (Nat.le_refl _), below_then h.below hb h.below.size⟩
theorem KS.alloc {w W : World} {g : Nat} (h : KS w g W) (o : Obj) : KS w g (W.alloc o) := h.call ((Below.refl _ _).alloc (Nat.le_refl _) _)
theorem KS.drew {w W : World} {g : Nat} (h : KS w g W) : KS w g W.drew := h.call (Below.refl _ _).drew
theorem KS.full {w W : World} {g : Nat} (h : KS w g W) : W.cell? ⟨g, 0, none⟩ = some (.int .i64 2) ∧ W.cell? ⟨g, 1, none⟩ = some (.int .i64 0) ∧ W.cell? ⟨g, 2, none⟩ = some (.string ⟨#[105, 116, 39, 115]⟩) ∧ KS w g W :=
  ⟨h.blk.cell 0, h.blk.cell 1, h.blk.cell 2, h⟩

set_option maxRecDepth 100000 in
set_option maxHeartbeats 2000000 in
theorem known_any (w : World) (hE : Env w) : Calls Tryd.prog 15 #[] w fun e w' => e = .returned (.bool true) ∧ Below w.heap.size w w' := by
  have hP := parse_ok 2 0 itS itQ w (by decide) (by decide) (by decide +kernel) (by omega) (by omega) hE
  have HP := Lib.hid hP
  have HE := Lib.hid hE
  clear hP hE
  go_enter Tryd.func15, Tryd.ntmps15
  go_wp2_with fail
  refine (HP.out).mono ?_
  rintro e w1 ⟨rfl, hb1⟩
  have hk : KS w w1.heap.size (w1.alloc (.cells #[.int .i64 2, .int .i64 0, .string itS] 23)) := ⟨IsBlk.made _ _ _, (HE.out.below hb1 (Nat.le_refl _)).below ((Below.refl _ _).alloc (Nat.le_refl _) _) (Nat.le_refl _), hb1.alloc hb1.size _⟩
  generalize hg : w1.heap.size = g at hk
  have HG := Lib.hid hg
  clear hg
  go_wp2
  rw [HG.out]
  generalize w1.alloc (.cells #[.int .i64 2, .int .i64 0, .string itS] 23) = W at hk ⊢
  obtain ⟨c0, c1, c2, hk⟩ := hk.full
  clear hb1 HG HP HE
  go_region_with
    (first
      | (go_at_call 14; refine (known_fmt _ (KS.env (KS.drew hk))).mono ?_; rintro e w2 ⟨rfl, hb2⟩; have hk2 := KS.call (KS.drew hk) hb2; obtain ⟨d0, d1, d2, _⟩ := hk2.full)
      | (go_at_call 22; refine (newInt_any _ _).mono ?_; rintro e w3 ⟨rfl, hb3⟩; have hk3 := KS.call hk2 hb3; obtain ⟨d3, d4, d5, _⟩ := hk3.full)
      | (go_at_call 16; refine (known_cmp _).mono ?_; rintro e w4 ⟨rfl, hb4⟩; have hk4 := KS.call hk3 hb4)
      | (go_at_call 24; refine (newString_any _ _).mono ?_; rintro e w5 ⟨rfl, hb5⟩; have hk5 := KS.call hk4 hb5)
      | (go_at_call 28; refine (known_enc _).mono ?_; rintro e w6 ⟨v, rfl, hcd, hcv, hb6⟩; have hk6 := KS.call hk5 hb6))
  all_goals go_wp2
  all_goals go_ret
  all_goals exact ⟨rfl, hk6.below⟩
end Go.Proofs.YtpjfkhbdhdolfaaDoor
