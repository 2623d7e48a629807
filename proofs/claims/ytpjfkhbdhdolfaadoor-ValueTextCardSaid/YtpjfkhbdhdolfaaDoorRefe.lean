import Derived.Test.YtpjfkhbdhdolfaaDoorRefb
import Derived.Test.YtpjfkhbdhdolfaaDoorVale
import Derived.Test.YtpjfkhbdhdolfaaDoorAppg
import Derived.Test.YtpjfkhbdhdolfaaDoorInvb
namespace Go.Proofs.YtpjfkhbdhdolfaaDoor
open Go.RowKit

theorem SlotPost.of {t : Array Value} {d : List Deferred} {slots : List Nat} {J : List Value → World → Prop} {t' : Array Value} {W' : World} (us : List Value) (h : t' = upd t (slots.zip us)) (hJ : J us W') : SlotPost t d slots J ⟨t', d⟩ W' := ⟨us, by rw [h], hJ⟩
/-- What holds inside the statement that appends a string's encoding. -/
def EJ (w : World) (x : Value) (l : List UInt8) (A0 : Value) (k b off : Nat) (s : ByteArray) (L : Array Bool) (us : List Value) (W' : World) : Prop := match us with
    | [y3, y47, y48, y49, y50, y51, y52, y53, y54, y55, y56, y57] => ∃ g1 : Nat, ∃ g9 : Nat, ∃ r : Value, ∃ t : List UInt8, (OwnB W' w.heap.size r t ∧ Below w.heap.size w W' ∧ w.heap.size ≤ W'.heap.size ∧ W'.cell? ⟨b, off + k * 3 + 2, none⟩ = some (.string s)) ∧
      (L.getD 0 false = true → y47 = x) ∧
      (L.getD 1 false = true → y48 = .slice (some ⟨g1, 0, none⟩) 1 1 ∧ IsBlk W' g1 5 #[.int .u8 2] ∧ Far r g1) ∧
      (L.getD 3 false = true → y50 = A0) ∧
      (L.getD 4 false = true → y51 = .int .i64 (k : Int)) ∧
      (L.getD 5 false = true → y52 = .pointer (some ⟨b, off + k * 3, none⟩)) ∧
      (L.getD 6 false = true → y53 = .pointer (some ⟨b, off + k * 3 + 2, none⟩)) ∧
      (L.getD 7 false = true → y54 = .string s) ∧
      (L.getD 9 false = true → y56 = .slice (some ⟨g9, 0, none⟩) 1 1 ∧ IsBlk W' g9 5 #[.int .u8 0] ∧ Far r g9) ∧
      (L.getD 2 false = false → x = r ∧ t = l) ∧
      (L.getD 2 false = true → L.getD 8 false = false → y49 = r ∧ t = l ++ [2]) ∧
      (L.getD 8 false = true → L.getD 10 false = false → y55 = r ∧ t = l ++ [2] ++ s.data.toList) ∧
      (L.getD 10 false = true → y57 = r ∧ t = l ++ [2] ++ s.data.toList ++ [0]) ∧
      (L.getD 11 false = false → y3 = x) ∧
      (L.getD 11 false = true → y3 = r ∧ t = l ++ [2] ++ s.data.toList ++ [0])
    | _ => False

set_option maxRecDepth 100000 in
set_option maxHeartbeats 4000000 in
theorem refEnc_walk (A : Option Addr) (cap : Nat) (l : List V) (w : World) (h : At w w.heap.size A (cellsV l)) (hl : l.length ≤ 65536) (hr : ∀ v ∈ l, -9223372036854775808 ≤ v.n ∧ v.n ≤ 9223372036854775807) (hss : ∀ v ∈ l, v.s.size ≤ 9223372036854775807) :
    Calls Tryd.prog 29 #[.slice A l.length cap] w (EncPost l w) := by
  have HRR := Lib.hid hr
  have HSS := Lib.hid hss
  clear hr hss
  go_enter Tryd.func29, Tryd.ntmps29
  go_wp2
  go_loopw [3, 4] (fun b i wr => ∃ k : Nat, k ≤ l.length ∧ i = .int .i64 k ∧ (l.take k).all V.ok = true ∧ OwnB wr w.heap.size b (encL (l.take k)) ∧ (encL (l.take k)).length ≤ 67 * k ∧ Below w.heap.size w wr) (fun _ i _ => l.length - (intOf i).toNat)
  case atStart => exact ⟨0, Nat.zero_le _, rfl, by simp, OwnB.nil _ _, by simp [encL], Below.refl _ _⟩
  case round =>
    obtain ⟨k, hk, rfl, hall, hown, hlen, hbw⟩ := hrel
    have HA := Lib.hid hall
    have HO := Lib.hid hown
    have HB := Lib.hid hbw
    have HAt := Lib.hid (h.below hbw)
    clear hall hown hbw h
    by_cases hlt : k < l.length
    · obtain ⟨b', off, rfl, hb', c0, c1, c2⟩ := HAt.out.val hlt
      have HS := Lib.hid (enc_succ l k hlt)
      have HK := Lib.hid (ok_succ l k hlt)
      obtain ⟨v, hv⟩ : ∃ v, l[k] = v := ⟨_, rfl⟩
      rw [hv] at c0 c1 c2
      have HS : Hid (encL (l.take (k + 1)) = encL (l.take k) ++ v.enc) := by rw [← hv]; exact HS
      have HK : Hid ((l.take (k + 1)).all V.ok = ((l.take k).all V.ok && v.ok)) := by rw [← hv]; exact HK
      have hrv : -9223372036854775808 ≤ v.n ∧ v.n ≤ 9223372036854775807 := HRR.out v (by rw [← hv]; exact List.getElem_mem hlt)
      have hsv : v.s.size ≤ 9223372036854775807 := HSS.out v (by rw [← hv]; exact List.getElem_mem hlt)
      clear hv
      obtain ⟨t, n, s⟩ := v
      obtain ⟨hn0, hn1⟩ := hrv
      simp only at hn0 hn1 hsv
      have hwr := HB.out.size
      cases hok : validB t n s
      · have hv : ∀ w : World, Calls Tryd.prog 19 #[.agg #[.int .i64 t, .int .i64 n, .string s]] w fun e w' => e = .returned (.bool false) ∧ Below w.heap.size w w' := fun w => by
          have := refValid_any t n s w hsv; rwa [hok] at this
        have HV := Lib.hid hv
        have HOK := Lib.hid hok
        clear hv hok
        go_wp2_with fail
        refine (HV.out _).mono ?_
        rintro e w1 ⟨rfl, hb2⟩
        have HB2 := Lib.hid hb2
        clear hb2
        go_wp2
        go_ret
        refine ⟨_, rfl, fun hc => ?_, fun _ => rfl, below_then HB.out HB2.out hwr⟩
        have h1 : (l.take (k + 1)).all V.ok = true := by
          rw [List.all_eq_true] at hc ⊢
          exact fun x hx => hc x (List.mem_of_mem_take hx)
        rw [HK.out, Bool.and_eq_true] at h1
        have h2 : validB t n s = true := h1.2
        rw [HOK.out] at h2; cases h2
      · have hv : ∀ w : World, Calls Tryd.prog 19 #[.agg #[.int .i64 t, .int .i64 n, .string s]] w fun e w' => e = .returned (.bool true) ∧ Below w.heap.size w w' := fun w => by
          have := refValid_any t n s w hsv; rwa [hok] at this
        have HV := Lib.hid hv
        have HOK := Lib.hid hok
        clear hv hok
        by_cases ht : t = 2
        · subst ht
          go_wp2_with fail
          refine (HV.out _).mono ?_
          rintro e w1 ⟨rfl, hb2⟩
          have HB2 := Lib.hid (below_then HB.out hb2 hwr)
          have HO2 := Lib.hid (HO.out.below hb2)
          have d0 := (hb2.cell (p := ⟨b', off + k * 3, none⟩) (by simp; omega)).trans c0
          have d2 := (hb2.cell (p := ⟨b', off + k * 3 + 2, none⟩) (by simp; omega)).trans c2
          have D2 := Lib.hid d2
          have hsz : w.heap.size ≤ w1.heap.size := Nat.le_trans hwr hb2.size
          have hs64 : s.size ≤ 64 := by have := HOK.out; simp [validB] at this; omega
          have hl64 : (encL (l.take k)).length ≤ 1099511620000 := by omega
          clear hb2 c0 c1 c2 d2
          go_wp2
          clear d0
          have hb0 : b' < w.heap.size := hb'
          refine wp_region_closed [3, 47, 48, 49, 50, 51, 52, 53, 54, 55, 56, 57] (EJ w u3 (encL (l.take k)) (.slice (some ⟨b', off, none⟩) l.length cap) k b' off s) (by kernel_rfl) (by kernel_rfl) ?_ ?_ ?_
          · exact ⟨0, 0, u3, encL (l.take k), ⟨HO2.out, HB2.out.drew, hsz, D2.out⟩, fun h0 => absurd h0 on_none, fun h0 => absurd h0 on_none, fun h0 => absurd h0 on_none, fun h0 => absurd h0 on_none, fun h0 => absurd h0 on_none, fun h0 => absurd h0 on_none, fun h0 => absurd h0 on_none, fun h0 => absurd h0 on_none, fun _ => ⟨rfl, rfl⟩, fun h0 h1 => absurd h0 on_none, fun h0 h1 => absurd h0 on_none, fun h0 => absurd h0 on_none, fun _ => rfl, fun h0 => absurd h0 on_none⟩
          · intro L us W' i o hcl hsz0 hun ho hall hJ
            match us, hJ with
            | [y3, y47, y48, y49, y50, y51, y52, y53, y54, y55, y56, y57], hJ =>
              obtain ⟨g1, g9, r, t, hS, p_0, p_1, p_3, p_4, p_5, p_6, p_7, p_9, p_r0, p_r2, p_r8, p_r10, p_s3, p_11⟩ := hJ
              have hi : i < 12 := by
                have := (Array.getElem?_eq_some_iff.1 ho).1
                simpa using this
              have hsz : L.size = 12 := by simpa using hsz0
              clear hsz0
              have hcase : i = 0 ∨ i = 1 ∨ i = 2 ∨ i = 3 ∨ i = 4 ∨ i = 5 ∨ i = 6 ∨ i = 7 ∨ i = 8 ∨ i = 9 ∨ i = 10 ∨ i = 11 := by omega
              have HS := Lib.hid hS
              have HCL := Lib.hid hcl
              clear hcl
              have P_0 := Lib.hid p_0
              have P_1 := Lib.hid p_1
              have P_3 := Lib.hid p_3
              have P_4 := Lib.hid p_4
              have P_5 := Lib.hid p_5
              have P_6 := Lib.hid p_6
              have P_7 := Lib.hid p_7
              have P_9 := Lib.hid p_9
              have P_r0 := Lib.hid p_r0
              have P_r2 := Lib.hid p_r2
              have P_r8 := Lib.hid p_r8
              have P_r10 := Lib.hid p_r10
              have P_s3 := Lib.hid p_s3
              have P_11 := Lib.hid p_11
              have HSZ := Lib.hid hsz
              have HUN := Lib.hid hun
              clear hJ hS hsz hun hi p_0 p_1 p_3 p_4 p_5 p_6 p_7 p_9 p_r0 p_r2 p_r8 p_r10 p_s3 p_11
              rcases hcase with rfl | rfl | rfl | rfl | rfl | rfl | rfl | rfl | rfl | rfl | rfl | rfl
              · simp at ho
                subst ho
                simp [Waited, Region.binds] at hall
                simp only [upd, List.zip_cons_cons, List.zip_nil_right, List.setIfInBounds_toArray, List.set_cons_succ, List.set_cons_zero]
                obtain rfl := (P_s3.out (by
                  cases h11 : L.getD 11 false with
                  | false => rfl
                  | true =>
                    have z := HCL.out.waits 2 0 (by kernel_rfl) (HCL.out.waits 8 2 (by kernel_rfl) (HCL.out.waits 10 8 (by kernel_rfl) (HCL.out.waits 11 10 (by kernel_rfl) h11)))
                    rw [getD_both HUN.out] at z
                    cases z)).symm
                go_wp2
                refine SlotPost.of [u3, u3, y48, y49, y50, y51, y52, y53, y54, y55, y56, y57] (by simp only [upd, List.zip_cons_cons, List.zip_nil_right, List.setIfInBounds_toArray, List.set_cons_succ, List.set_cons_zero]) ?_
                refine ⟨g1, g9, r, t, HS.out, ?_, ?_, ?_, ?_, ?_, ?_, ?_, ?_, ?_, ?_, ?_, ?_, ?_, ?_⟩
                · exact fun _ => rfl
                · exact fun h0 => P_1.out (by rwa [on_other (by decide)] at h0)
                · exact fun h0 => P_3.out (by rwa [on_other (by decide)] at h0)
                · exact fun h0 => P_4.out (by rwa [on_other (by decide)] at h0)
                · exact fun h0 => P_5.out (by rwa [on_other (by decide)] at h0)
                · exact fun h0 => P_6.out (by rwa [on_other (by decide)] at h0)
                · exact fun h0 => P_7.out (by rwa [on_other (by decide)] at h0)
                · exact fun h0 => P_9.out (by rwa [on_other (by decide)] at h0)
                · exact fun h0 => P_r0.out (by rwa [on_other (by decide)] at h0)
                · exact fun h0 h1 => P_r2.out (by rwa [on_other (by decide)] at h0) (by rwa [on_other (by decide)] at h1)
                · exact fun h0 h1 => P_r8.out (by rwa [on_other (by decide)] at h0) (by rwa [on_other (by decide)] at h1)
                · exact fun h0 => P_r10.out (by rwa [on_other (by decide)] at h0)
                · exact fun _ => rfl
                · exact fun h0 => P_11.out (by rwa [on_other (by decide)] at h0)
              · simp at ho
                subst ho
                simp [Waited, Region.binds] at hall
                simp only [upd, List.zip_cons_cons, List.zip_nil_right, List.setIfInBounds_toArray, List.set_cons_succ, List.set_cons_zero]
                go_wp2
                refine SlotPost.of [y3, y47, .slice (some ⟨W'.heap.size, 0, none⟩) 1 1, y49, y50, y51, y52, y53, y54, y55, y56, y57] (by simp only [upd, List.zip_cons_cons, List.zip_nil_right, List.setIfInBounds_toArray, List.set_cons_succ, List.set_cons_zero]) ?_
                refine ⟨W'.heap.size, g9, r, t, ⟨World.ownsRow.alloc HS.out.1 _, HS.out.2.1.alloc HS.out.2.2.1 _, by simp; exact Nat.le_succ_of_le HS.out.2.2.1, (World.cell?_alloc_lt _ _ _ (World.block_lt_of_cell? _ _ HS.out.2.2.2)).trans HS.out.2.2.2⟩, ?_, ?_, ?_, ?_, ?_, ?_, ?_, ?_, ?_, ?_, ?_, ?_, ?_, ?_⟩
                · exact fun h0 => P_0.out (by rwa [on_other (by decide)] at h0)
                · exact fun _ => ⟨rfl, IsBlk.made _ _ _, Far.of_own HS.out.1 (Nat.le_refl _)⟩
                · exact fun h0 => P_3.out (by rwa [on_other (by decide)] at h0)
                · exact fun h0 => P_4.out (by rwa [on_other (by decide)] at h0)
                · exact fun h0 => P_5.out (by rwa [on_other (by decide)] at h0)
                · exact fun h0 => P_6.out (by rwa [on_other (by decide)] at h0)
                · exact fun h0 => P_7.out (by rwa [on_other (by decide)] at h0)
                · exact fun h0 => by
                    have z := P_9.out (by rwa [on_other (by decide)] at h0)
                    exact ⟨z.1, z.2.1.alloc _, z.2.2⟩
                · exact fun h0 => P_r0.out (by rwa [on_other (by decide)] at h0)
                · exact fun h0 h1 => P_r2.out (by rwa [on_other (by decide)] at h0) (by rwa [on_other (by decide)] at h1)
                · exact fun h0 h1 => P_r8.out (by rwa [on_other (by decide)] at h0) (by rwa [on_other (by decide)] at h1)
                · exact fun h0 => P_r10.out (by rwa [on_other (by decide)] at h0)
                · exact fun h0 => P_s3.out (by rwa [on_other (by decide)] at h0)
                · exact fun h0 => P_11.out (by rwa [on_other (by decide)] at h0)
              · simp at ho
                subst ho
                simp [Waited, Region.binds] at hall
                simp only [upd, List.zip_cons_cons, List.zip_nil_right, List.setIfInBounds_toArray, List.set_cons_succ, List.set_cons_zero]
                obtain rfl := (P_0.out (by simpa using hall.1)).symm
                obtain ⟨rfl, hbk, hf⟩ := P_1.out (by simpa using hall.2)
                obtain ⟨e1, e2⟩ := P_r0.out (getD_both HUN.out)
                subst e1 e2
                have HBK := Lib.hid hbk
                have HAT := Lib.hid (At.of_blk1 (d := 2) hbk rfl)
                have HFA := Lib.hid hf
                clear hbk hf
                go_wp2_with (at_builtin; refine app_bytes w.heap.size u3 _ [2] (some ⟨g1, 0, none⟩) 1 (.tmp 47) (.tmp 48) rfl rfl rfl rfl HS.out.1 HAT.out (fun h => by cases h) (by simp; omega) HS.out.2.2.1 ?_; intro v2 w2 hown2 hgr2; have HO2 := Lib.hid hown2; have HR2 := Lib.hid hgr2; clear hown2 hgr2)
                refine SlotPost.of [y3, u3, .slice (some ⟨g1, 0, none⟩) 1 1, v2, y50, y51, y52, y53, y54, y55, y56, y57] (by simp only [upd, List.zip_cons_cons, List.zip_nil_right, List.setIfInBounds_toArray, List.set_cons_succ, List.set_cons_zero]) ?_
                refine ⟨g1, g9, v2, encL (l.take k) ++ [2], ⟨HO2.out, HS.out.2.1.trans HR2.out.below, Nat.le_trans HS.out.2.2.1 HR2.out.size, (HR2.out.below.cell (p := ⟨b', off + k * 3 + 2, none⟩) hb0).trans HS.out.2.2.2⟩, ?_, ?_, ?_, ?_, ?_, ?_, ?_, ?_, ?_, ?_, ?_, ?_, ?_, ?_⟩
                · exact fun _ => rfl
                · exact fun _ => ⟨rfl, HR2.out.blk HBK.out HFA.out, HR2.out.far _ HBK.out.lt HFA.out⟩
                · exact fun h0 => P_3.out (by rwa [on_other (by decide)] at h0)
                · exact fun h0 => P_4.out (by rwa [on_other (by decide)] at h0)
                · exact fun h0 => P_5.out (by rwa [on_other (by decide)] at h0)
                · exact fun h0 => P_6.out (by rwa [on_other (by decide)] at h0)
                · exact fun h0 => P_7.out (by rwa [on_other (by decide)] at h0)
                · exact fun h0 => by
                    have z := P_9.out (by rwa [on_other (by decide)] at h0)
                    exact ⟨z.1, HR2.out.blk z.2.1 z.2.2, HR2.out.far _ z.2.1.lt z.2.2⟩
                · exact fun h0 => by rw [on_self (by rw [HSZ.out]; omega)] at h0; cases h0
                · exact fun _ _ => ⟨rfl, rfl⟩
                · exact fun h0 _ => by have z := (HCL.out.waits 8 2 (by kernel_rfl) (by rwa [on_other (by decide)] at h0)); rw [getD_both HUN.out] at z; cases z
                · exact fun h0 => by have z := (HCL.out.waits 8 2 (by kernel_rfl) (HCL.out.waits 10 8 (by kernel_rfl) (by rwa [on_other (by decide)] at h0))); rw [getD_both HUN.out] at z; cases z
                · exact fun h0 => P_s3.out (by rwa [on_other (by decide)] at h0)
                · exact fun h0 => by have z := (HCL.out.waits 8 2 (by kernel_rfl) (HCL.out.waits 10 8 (by kernel_rfl) (HCL.out.waits 11 10 (by kernel_rfl) (by rwa [on_other (by decide)] at h0)))); rw [getD_both HUN.out] at z; cases z
              · simp at ho
                subst ho
                simp [Waited, Region.binds] at hall
                simp only [upd, List.zip_cons_cons, List.zip_nil_right, List.setIfInBounds_toArray, List.set_cons_succ, List.set_cons_zero]
                go_wp2
                refine SlotPost.of [y3, y47, y48, y49, .slice (some ⟨b', off, none⟩) l.length cap, y51, y52, y53, y54, y55, y56, y57] (by simp only [upd, List.zip_cons_cons, List.zip_nil_right, List.setIfInBounds_toArray, List.set_cons_succ, List.set_cons_zero]) ?_
                refine ⟨g1, g9, r, t, HS.out, ?_, ?_, ?_, ?_, ?_, ?_, ?_, ?_, ?_, ?_, ?_, ?_, ?_, ?_⟩
                · exact fun h0 => P_0.out (by rwa [on_other (by decide)] at h0)
                · exact fun h0 => P_1.out (by rwa [on_other (by decide)] at h0)
                · exact fun _ => rfl
                · exact fun h0 => P_4.out (by rwa [on_other (by decide)] at h0)
                · exact fun h0 => P_5.out (by rwa [on_other (by decide)] at h0)
                · exact fun h0 => P_6.out (by rwa [on_other (by decide)] at h0)
                · exact fun h0 => P_7.out (by rwa [on_other (by decide)] at h0)
                · exact fun h0 => P_9.out (by rwa [on_other (by decide)] at h0)
                · exact fun h0 => P_r0.out (by rwa [on_other (by decide)] at h0)
                · exact fun h0 h1 => P_r2.out (by rwa [on_other (by decide)] at h0) (by rwa [on_other (by decide)] at h1)
                · exact fun h0 h1 => P_r8.out (by rwa [on_other (by decide)] at h0) (by rwa [on_other (by decide)] at h1)
                · exact fun h0 => P_r10.out (by rwa [on_other (by decide)] at h0)
                · exact fun h0 => P_s3.out (by rwa [on_other (by decide)] at h0)
                · exact fun h0 => P_11.out (by rwa [on_other (by decide)] at h0)
              · simp at ho
                subst ho
                simp [Waited, Region.binds] at hall
                simp only [upd, List.zip_cons_cons, List.zip_nil_right, List.setIfInBounds_toArray, List.set_cons_succ, List.set_cons_zero]
                go_wp2
                refine SlotPost.of [y3, y47, y48, y49, y50, .int .i64 (k : Int), y52, y53, y54, y55, y56, y57] (by simp only [upd, List.zip_cons_cons, List.zip_nil_right, List.setIfInBounds_toArray, List.set_cons_succ, List.set_cons_zero]) ?_
                refine ⟨g1, g9, r, t, HS.out, ?_, ?_, ?_, ?_, ?_, ?_, ?_, ?_, ?_, ?_, ?_, ?_, ?_, ?_⟩
                · exact fun h0 => P_0.out (by rwa [on_other (by decide)] at h0)
                · exact fun h0 => P_1.out (by rwa [on_other (by decide)] at h0)
                · exact fun h0 => P_3.out (by rwa [on_other (by decide)] at h0)
                · exact fun _ => rfl
                · exact fun h0 => P_5.out (by rwa [on_other (by decide)] at h0)
                · exact fun h0 => P_6.out (by rwa [on_other (by decide)] at h0)
                · exact fun h0 => P_7.out (by rwa [on_other (by decide)] at h0)
                · exact fun h0 => P_9.out (by rwa [on_other (by decide)] at h0)
                · exact fun h0 => P_r0.out (by rwa [on_other (by decide)] at h0)
                · exact fun h0 h1 => P_r2.out (by rwa [on_other (by decide)] at h0) (by rwa [on_other (by decide)] at h1)
                · exact fun h0 h1 => P_r8.out (by rwa [on_other (by decide)] at h0) (by rwa [on_other (by decide)] at h1)
                · exact fun h0 => P_r10.out (by rwa [on_other (by decide)] at h0)
                · exact fun h0 => P_s3.out (by rwa [on_other (by decide)] at h0)
                · exact fun h0 => P_11.out (by rwa [on_other (by decide)] at h0)
              · simp at ho
                subst ho
                simp [Waited, Region.binds] at hall
                simp only [upd, List.zip_cons_cons, List.zip_nil_right, List.setIfInBounds_toArray, List.set_cons_succ, List.set_cons_zero]
                obtain rfl := P_3.out (by simpa using hall.1)
                obtain rfl := P_4.out (by simpa using hall.2)
                go_wp2
                refine SlotPost.of [y3, y47, y48, y49, .slice (some ⟨b', off, none⟩) l.length cap, .int .i64 (k : Int), .pointer (some ⟨b', off + k * 3, none⟩), y53, y54, y55, y56, y57] (by simp only [upd, List.zip_cons_cons, List.zip_nil_right, List.setIfInBounds_toArray, List.set_cons_succ, List.set_cons_zero]) ?_
                refine ⟨g1, g9, r, t, HS.out, ?_, ?_, ?_, ?_, ?_, ?_, ?_, ?_, ?_, ?_, ?_, ?_, ?_, ?_⟩
                · exact fun h0 => P_0.out (by rwa [on_other (by decide)] at h0)
                · exact fun h0 => P_1.out (by rwa [on_other (by decide)] at h0)
                · exact fun _ => rfl
                · exact fun _ => rfl
                · exact fun _ => rfl
                · exact fun h0 => P_6.out (by rwa [on_other (by decide)] at h0)
                · exact fun h0 => P_7.out (by rwa [on_other (by decide)] at h0)
                · exact fun h0 => P_9.out (by rwa [on_other (by decide)] at h0)
                · exact fun h0 => P_r0.out (by rwa [on_other (by decide)] at h0)
                · exact fun h0 h1 => P_r2.out (by rwa [on_other (by decide)] at h0) (by rwa [on_other (by decide)] at h1)
                · exact fun h0 h1 => P_r8.out (by rwa [on_other (by decide)] at h0) (by rwa [on_other (by decide)] at h1)
                · exact fun h0 => P_r10.out (by rwa [on_other (by decide)] at h0)
                · exact fun h0 => P_s3.out (by rwa [on_other (by decide)] at h0)
                · exact fun h0 => P_11.out (by rwa [on_other (by decide)] at h0)
              · simp at ho
                subst ho
                simp [Waited, Region.binds] at hall
                simp only [upd, List.zip_cons_cons, List.zip_nil_right, List.setIfInBounds_toArray, List.set_cons_succ, List.set_cons_zero]
                obtain rfl := P_5.out (by simpa using hall)
                go_wp2
                refine SlotPost.of [y3, y47, y48, y49, y50, y51, .pointer (some ⟨b', off + k * 3, none⟩), .pointer (some ⟨b', off + k * 3 + 2, none⟩), y54, y55, y56, y57] (by simp only [upd, List.zip_cons_cons, List.zip_nil_right, List.setIfInBounds_toArray, List.set_cons_succ, List.set_cons_zero]) ?_
                refine ⟨g1, g9, r, t, HS.out, ?_, ?_, ?_, ?_, ?_, ?_, ?_, ?_, ?_, ?_, ?_, ?_, ?_, ?_⟩
                · exact fun h0 => P_0.out (by rwa [on_other (by decide)] at h0)
                · exact fun h0 => P_1.out (by rwa [on_other (by decide)] at h0)
                · exact fun h0 => P_3.out (by rwa [on_other (by decide)] at h0)
                · exact fun h0 => P_4.out (by rwa [on_other (by decide)] at h0)
                · exact fun _ => rfl
                · exact fun _ => rfl
                · exact fun h0 => P_7.out (by rwa [on_other (by decide)] at h0)
                · exact fun h0 => P_9.out (by rwa [on_other (by decide)] at h0)
                · exact fun h0 => P_r0.out (by rwa [on_other (by decide)] at h0)
                · exact fun h0 h1 => P_r2.out (by rwa [on_other (by decide)] at h0) (by rwa [on_other (by decide)] at h1)
                · exact fun h0 h1 => P_r8.out (by rwa [on_other (by decide)] at h0) (by rwa [on_other (by decide)] at h1)
                · exact fun h0 => P_r10.out (by rwa [on_other (by decide)] at h0)
                · exact fun h0 => P_s3.out (by rwa [on_other (by decide)] at h0)
                · exact fun h0 => P_11.out (by rwa [on_other (by decide)] at h0)
              · simp at ho
                subst ho
                simp [Waited, Region.binds] at hall
                simp only [upd, List.zip_cons_cons, List.zip_nil_right, List.setIfInBounds_toArray, List.set_cons_succ, List.set_cons_zero]
                obtain rfl := P_6.out (by simpa using hall)
                have hcell := HS.out.2.2.2
                go_wp2
                clear hcell
                refine SlotPost.of [y3, y47, y48, y49, y50, y51, y52, .pointer (some ⟨b', off + k * 3 + 2, none⟩), .string s, y55, y56, y57] (by simp only [upd, List.zip_cons_cons, List.zip_nil_right, List.setIfInBounds_toArray, List.set_cons_succ, List.set_cons_zero]) ?_
                refine ⟨g1, g9, r, t, HS.out, ?_, ?_, ?_, ?_, ?_, ?_, ?_, ?_, ?_, ?_, ?_, ?_, ?_, ?_⟩
                · exact fun h0 => P_0.out (by rwa [on_other (by decide)] at h0)
                · exact fun h0 => P_1.out (by rwa [on_other (by decide)] at h0)
                · exact fun h0 => P_3.out (by rwa [on_other (by decide)] at h0)
                · exact fun h0 => P_4.out (by rwa [on_other (by decide)] at h0)
                · exact fun h0 => P_5.out (by rwa [on_other (by decide)] at h0)
                · exact fun _ => rfl
                · exact fun _ => rfl
                · exact fun h0 => P_9.out (by rwa [on_other (by decide)] at h0)
                · exact fun h0 => P_r0.out (by rwa [on_other (by decide)] at h0)
                · exact fun h0 h1 => P_r2.out (by rwa [on_other (by decide)] at h0) (by rwa [on_other (by decide)] at h1)
                · exact fun h0 h1 => P_r8.out (by rwa [on_other (by decide)] at h0) (by rwa [on_other (by decide)] at h1)
                · exact fun h0 => P_r10.out (by rwa [on_other (by decide)] at h0)
                · exact fun h0 => P_s3.out (by rwa [on_other (by decide)] at h0)
                · exact fun h0 => P_11.out (by rwa [on_other (by decide)] at h0)
              · simp at ho
                subst ho
                simp [Waited, Region.binds] at hall
                simp only [upd, List.zip_cons_cons, List.zip_nil_right, List.setIfInBounds_toArray, List.set_cons_succ, List.set_cons_zero]
                obtain rfl := P_7.out (by simpa using hall.2.1)
                obtain ⟨e1, e2⟩ := P_r2.out (by simpa using hall.1) (getD_both HUN.out)
                subst e1 e2
                have H2 := Lib.hid (by simpa using hall.1 : L.getD 2 false = true)
                go_wp2_with (at_builtin; refine app_str w.heap.size y49 _ s (.tmp 49) (.tmp 54) rfl rfl rfl rfl HS.out.1 (by simp; omega) HS.out.2.2.1 ?_; intro v2 w2 hown2 hgr2; have HO2 := Lib.hid hown2; have HR2 := Lib.hid hgr2; clear hown2 hgr2)
                refine SlotPost.of [y3, y47, y48, y49, y50, y51, y52, y53, .string s, v2, y56, y57] (by simp only [upd, List.zip_cons_cons, List.zip_nil_right, List.setIfInBounds_toArray, List.set_cons_succ, List.set_cons_zero]) ?_
                refine ⟨g1, g9, v2, encL (l.take k) ++ [2] ++ s.data.toList, ⟨HO2.out, HS.out.2.1.trans HR2.out.below, Nat.le_trans HS.out.2.2.1 HR2.out.size, (HR2.out.below.cell (p := ⟨b', off + k * 3 + 2, none⟩) hb0).trans HS.out.2.2.2⟩, ?_, ?_, ?_, ?_, ?_, ?_, ?_, ?_, ?_, ?_, ?_, ?_, ?_, ?_⟩
                · exact fun h0 => P_0.out (by rwa [on_other (by decide)] at h0)
                · exact fun h0 => by
                    have z := P_1.out (by rwa [on_other (by decide)] at h0)
                    exact ⟨z.1, HR2.out.blk z.2.1 z.2.2, HR2.out.far _ z.2.1.lt z.2.2⟩
                · exact fun h0 => P_3.out (by rwa [on_other (by decide)] at h0)
                · exact fun h0 => P_4.out (by rwa [on_other (by decide)] at h0)
                · exact fun h0 => P_5.out (by rwa [on_other (by decide)] at h0)
                · exact fun h0 => P_6.out (by rwa [on_other (by decide)] at h0)
                · exact fun _ => rfl
                · exact fun h0 => by
                    have z := P_9.out (by rwa [on_other (by decide)] at h0)
                    exact ⟨z.1, HR2.out.blk z.2.1 z.2.2, HR2.out.far _ z.2.1.lt z.2.2⟩
                · exact fun h0 => by rw [on_other (by decide), H2.out] at h0; cases h0
                · exact fun h0 h1 => by rw [on_self (by rw [HSZ.out]; omega)] at h1; cases h1
                · exact fun _ _ => ⟨rfl, rfl⟩
                · exact fun h0 => by have z := (HCL.out.waits 10 8 (by kernel_rfl) (by rwa [on_other (by decide)] at h0)); rw [getD_both HUN.out] at z; cases z
                · exact fun h0 => P_s3.out (by rwa [on_other (by decide)] at h0)
                · exact fun h0 => by have z := (HCL.out.waits 10 8 (by kernel_rfl) (HCL.out.waits 11 10 (by kernel_rfl) (by rwa [on_other (by decide)] at h0))); rw [getD_both HUN.out] at z; cases z
              · simp at ho
                subst ho
                simp [Waited, Region.binds] at hall
                simp only [upd, List.zip_cons_cons, List.zip_nil_right, List.setIfInBounds_toArray, List.set_cons_succ, List.set_cons_zero]
                go_wp2
                refine SlotPost.of [y3, y47, y48, y49, y50, y51, y52, y53, y54, y55, .slice (some ⟨W'.heap.size, 0, none⟩) 1 1, y57] (by simp only [upd, List.zip_cons_cons, List.zip_nil_right, List.setIfInBounds_toArray, List.set_cons_succ, List.set_cons_zero]) ?_
                refine ⟨g1, W'.heap.size, r, t, ⟨World.ownsRow.alloc HS.out.1 _, HS.out.2.1.alloc HS.out.2.2.1 _, by simp; exact Nat.le_succ_of_le HS.out.2.2.1, (World.cell?_alloc_lt _ _ _ (World.block_lt_of_cell? _ _ HS.out.2.2.2)).trans HS.out.2.2.2⟩, ?_, ?_, ?_, ?_, ?_, ?_, ?_, ?_, ?_, ?_, ?_, ?_, ?_, ?_⟩
                · exact fun h0 => P_0.out (by rwa [on_other (by decide)] at h0)
                · exact fun h0 => by
                    have z := P_1.out (by rwa [on_other (by decide)] at h0)
                    exact ⟨z.1, z.2.1.alloc _, z.2.2⟩
                · exact fun h0 => P_3.out (by rwa [on_other (by decide)] at h0)
                · exact fun h0 => P_4.out (by rwa [on_other (by decide)] at h0)
                · exact fun h0 => P_5.out (by rwa [on_other (by decide)] at h0)
                · exact fun h0 => P_6.out (by rwa [on_other (by decide)] at h0)
                · exact fun h0 => P_7.out (by rwa [on_other (by decide)] at h0)
                · exact fun _ => ⟨rfl, IsBlk.made _ _ _, Far.of_own HS.out.1 (Nat.le_refl _)⟩
                · exact fun h0 => P_r0.out (by rwa [on_other (by decide)] at h0)
                · exact fun h0 h1 => P_r2.out (by rwa [on_other (by decide)] at h0) (by rwa [on_other (by decide)] at h1)
                · exact fun h0 h1 => P_r8.out (by rwa [on_other (by decide)] at h0) (by rwa [on_other (by decide)] at h1)
                · exact fun h0 => P_r10.out (by rwa [on_other (by decide)] at h0)
                · exact fun h0 => P_s3.out (by rwa [on_other (by decide)] at h0)
                · exact fun h0 => P_11.out (by rwa [on_other (by decide)] at h0)
              · simp at ho
                subst ho
                simp [Waited, Region.binds] at hall
                simp only [upd, List.zip_cons_cons, List.zip_nil_right, List.setIfInBounds_toArray, List.set_cons_succ, List.set_cons_zero]
                obtain ⟨rfl, hbk, hf⟩ := P_9.out (by simpa using hall.2.1)
                obtain ⟨e1, e2⟩ := P_r8.out (by simpa using hall.1) (getD_both HUN.out)
                subst e1 e2
                have H8 := Lib.hid (by simpa using hall.1 : L.getD 8 false = true)
                have H2 := Lib.hid (HCL.out.waits 8 2 (by kernel_rfl) H8.out)
                have HBK := Lib.hid hbk
                have HAT := Lib.hid (At.of_blk1 (d := 0) hbk rfl)
                have HFA := Lib.hid hf
                clear hbk hf
                go_wp2_with (at_builtin; refine app_bytes w.heap.size y55 _ [0] (some ⟨g9, 0, none⟩) 1 (.tmp 55) (.tmp 56) rfl rfl rfl rfl HS.out.1 HAT.out (fun h => by cases h) (by simp; omega) HS.out.2.2.1 ?_; intro v2 w2 hown2 hgr2; have HO2 := Lib.hid hown2; have HR2 := Lib.hid hgr2; clear hown2 hgr2)
                refine SlotPost.of [y3, y47, y48, y49, y50, y51, y52, y53, y54, y55, .slice (some ⟨g9, 0, none⟩) 1 1, v2] (by simp only [upd, List.zip_cons_cons, List.zip_nil_right, List.setIfInBounds_toArray, List.set_cons_succ, List.set_cons_zero]) ?_
                refine ⟨g1, g9, v2, encL (l.take k) ++ [2] ++ s.data.toList ++ [0], ⟨HO2.out, HS.out.2.1.trans HR2.out.below, Nat.le_trans HS.out.2.2.1 HR2.out.size, (HR2.out.below.cell (p := ⟨b', off + k * 3 + 2, none⟩) hb0).trans HS.out.2.2.2⟩, ?_, ?_, ?_, ?_, ?_, ?_, ?_, ?_, ?_, ?_, ?_, ?_, ?_, ?_⟩
                · exact fun h0 => P_0.out (by rwa [on_other (by decide)] at h0)
                · exact fun h0 => by
                    have z := P_1.out (by rwa [on_other (by decide)] at h0)
                    exact ⟨z.1, HR2.out.blk z.2.1 z.2.2, HR2.out.far _ z.2.1.lt z.2.2⟩
                · exact fun h0 => P_3.out (by rwa [on_other (by decide)] at h0)
                · exact fun h0 => P_4.out (by rwa [on_other (by decide)] at h0)
                · exact fun h0 => P_5.out (by rwa [on_other (by decide)] at h0)
                · exact fun h0 => P_6.out (by rwa [on_other (by decide)] at h0)
                · exact fun h0 => P_7.out (by rwa [on_other (by decide)] at h0)
                · exact fun _ => ⟨rfl, HR2.out.blk HBK.out HFA.out, HR2.out.far _ HBK.out.lt HFA.out⟩
                · exact fun h0 => by rw [on_other (by decide), H2.out] at h0; cases h0
                · exact fun _ h1 => by rw [on_other (by decide), H8.out] at h1; cases h1
                · exact fun h0 h1 => by rw [on_self (by rw [HSZ.out]; omega)] at h1; cases h1
                · exact fun _ => ⟨rfl, rfl⟩
                · exact fun h0 => P_s3.out (by rwa [on_other (by decide)] at h0)
                · exact fun h0 => by have z := (HCL.out.waits 11 10 (by kernel_rfl) (by rwa [on_other (by decide)] at h0)); rw [getD_both HUN.out] at z; cases z
              · simp at ho
                subst ho
                simp [Waited, Region.binds] at hall
                simp only [upd, List.zip_cons_cons, List.zip_nil_right, List.setIfInBounds_toArray, List.set_cons_succ, List.set_cons_zero]
                obtain ⟨e1, e2⟩ := P_r10.out (by simpa using hall.1)
                have E2 := Lib.hid e2
                clear e2
                subst e1
                go_wp2
                refine SlotPost.of [y57, y47, y48, y49, y50, y51, y52, y53, y54, y55, y56, y57] (by simp only [upd, List.zip_cons_cons, List.zip_nil_right, List.setIfInBounds_toArray, List.set_cons_succ, List.set_cons_zero]) ?_
                refine ⟨g1, g9, y57, t, HS.out, ?_, ?_, ?_, ?_, ?_, ?_, ?_, ?_, ?_, ?_, ?_, ?_, ?_, ?_⟩
                · exact fun h0 => P_0.out (by rwa [on_other (by decide)] at h0)
                · exact fun h0 => P_1.out (by rwa [on_other (by decide)] at h0)
                · exact fun h0 => P_3.out (by rwa [on_other (by decide)] at h0)
                · exact fun h0 => P_4.out (by rwa [on_other (by decide)] at h0)
                · exact fun h0 => P_5.out (by rwa [on_other (by decide)] at h0)
                · exact fun h0 => P_6.out (by rwa [on_other (by decide)] at h0)
                · exact fun h0 => P_7.out (by rwa [on_other (by decide)] at h0)
                · exact fun h0 => P_9.out (by rwa [on_other (by decide)] at h0)
                · exact fun h0 => P_r0.out (by rwa [on_other (by decide)] at h0)
                · exact fun h0 h1 => P_r2.out (by rwa [on_other (by decide)] at h0) (by rwa [on_other (by decide)] at h1)
                · exact fun h0 h1 => P_r8.out (by rwa [on_other (by decide)] at h0) (by rwa [on_other (by decide)] at h1)
                · exact fun h0 => ⟨rfl, E2.out⟩
                · exact fun h0 => by rw [on_self (by rw [HSZ.out]; omega)] at h0; cases h0
                · exact fun _ => ⟨rfl, E2.out⟩
          · intro L us W' hall hJ
            match us, hJ with
            | [y3, y47, y48, y49, y50, y51, y52, y53, y54, y55, y56, y57], hJ =>
              obtain ⟨g1, g9, r, t, hS, p_0, p_1, p_3, p_4, p_5, p_6, p_7, p_9, p_r0, p_r2, p_r8, p_r10, p_s3, p_11⟩ := hJ
              obtain ⟨e1, e2⟩ := p_11 (hall 11 (by simp))
              subst e1 e2
              have HJ := Lib.hid hS
              clear hJ hS p_0 p_1 p_3 p_4 p_5 p_6 p_7 p_9 p_r0 p_r2 p_r8 p_r10 p_s3 p_11 hall
              simp only [upd, List.zip_cons_cons, List.zip_nil_right, List.setIfInBounds_toArray, List.set_cons_succ, List.set_cons_zero]
              have HEN := Lib.hid (show V.enc ⟨2, n, s⟩ = 2 :: (s.data.toList ++ [0]) by simp [V.enc])
              go_wp2
              go_roundw
              case rel =>
                refine ⟨k + 1, by omega, by go_num, by rw [HK.out, HA.out]; exact HOK.out, ?_, ?_, HJ.out.2.1⟩
                · have e : encL (l.take (k + 1)) = encL (l.take k) ++ [2] ++ s.data.toList ++ [0] := by rw [HS.out, HEN.out]; simp
                  rw [e]; exact HJ.out.1
                · rw [HS.out, HEN.out]; simp; omega
              case measure => simp [intOf]; omega
        · have ht1 : t = 1 := by
            have := HOK.out
            by_cases h1 : t = 1
            · exact h1
            · simp [validB, h1] at this; exact absurd this.1.1.1 ht
          subst ht1
          clear ht
          go_wp2_with fail
          refine (HV.out _).mono ?_
          rintro e w1 ⟨rfl, hb2⟩
          have HB2 := Lib.hid (below_then HB.out hb2 hwr)
          have HO2 := Lib.hid (HO.out.below hb2)
          have d0 := (hb2.cell (p := ⟨b', off + k * 3, none⟩) (by simp; omega)).trans c0
          have d1 := (hb2.cell (p := ⟨b', off + k * 3 + 1, none⟩) (by simp; omega)).trans c1
          have hsz : w.heap.size ≤ w1.heap.size := Nat.le_trans hwr hb2.size
          have hb0 : b' < w.heap.size := hb'
          clear hb2 c0 c1 c2
          go_wp2_with (at_builtin; refine app_byte w.heap.size u3 _ 1 1 (.tmp 25) (.tmp 26) rfl rfl rfl rfl HO2.out rfl (by omega) hsz ?_; intro v3 w3 hown3 hgr3; have HO3 := Lib.hid hown3; have HR3 := Lib.hid hgr3; have hsz3 := Nat.le_trans hsz hgr3.size; have d1' := (hgr3.below.cell (p := ⟨b', off + k * 3 + 1, none⟩) hb0).trans d1; clear d0 d1 hown3 hgr3)
          rw [flip_sign n hn0 hn1]
          have HEN := Lib.hid (show V.enc ⟨1, n, s⟩ = 1 :: encI n by simp [V.enc])
          have HES := Lib.hid (encI_succ n)
          have HBB := Lib.hid (HB2.out.trans HR3.out.below)
          have hEL := encI_length n
          have hEL8 : (encI n).length ≤ 8 := by omega
          clear hEL d1'
          generalize (n + 9223372036854775808).toNat = N at HES ⊢
          go_loopw [3, 6] (fun b i w' => ∃ j : Nat, j ≤ 8 ∧ i = .int .i64 (56 - 8 * (j : Int)) ∧ OwnB w' w.heap.size b (encL (l.take k) ++ [1] ++ (encI n).take j) ∧ w.heap.size ≤ w'.heap.size ∧ Below w.heap.size w w') (fun _ i _ => (intOf i + 8).toNat)
          case atStart => exact ⟨0, by omega, by simp, by simpa using HO3.out, hsz3, HBB.out⟩
          case round =>
            obtain ⟨j, hj, rfl, hown4, hsz4, hb4⟩ := hrel
            have HO4 := Lib.hid hown4
            have HB4 := Lib.hid hb4
            clear hown4 hb4
            by_cases hj8 : j < 8
            · have htl : ((encI n).take j).length ≤ 8 := by rw [List.length_take]; omega
              have HEB := Lib.hid (enc_byte N (56 - 8 * j))
              go_wp2_with (at_builtin; refine app_byte w.heap.size _ _ _ (UInt8.ofNat (N / 2 ^ (56 - 8 * j) % 256)) (.tmp 39) (.tmp 45) rfl rfl rfl rfl HO4.out HEB.out ?hlen3 hsz4 ?_; rotate_left; intro v5 w5 hown5 hgr5; have HO5 := Lib.hid hown5; have HB5 := Lib.hid hgr5.below; have hsz5 := Nat.le_trans hsz4 hgr5.size; clear hown5 hgr5)
              case hlen3 => simp at htl ⊢; omega
              go_roundw
              case rel =>
                refine ⟨j + 1, by omega, by go_num, ?_, hsz5, HB4.out.trans HB5.out⟩
                rw [HES.out j hj8, ← List.append_assoc]; exact HO5.out
              case measure => simp [intOf]; omega
            · obtain rfl : j = 8 := by omega
              go_wp2
              go_roundw
              case rel =>
                refine ⟨k + 1, by omega, by go_num, by rw [HK.out, HA.out]; exact HOK.out, ?_, ?_, HB4.out⟩
                · have e : encL (l.take (k + 1)) = encL (l.take k) ++ [1] ++ (encI n).take 8 := by
                    rw [HS.out, HEN.out, List.take_of_length_le hEL8]; simp
                  rw [e]; exact HO4.out
                · rw [HS.out, HEN.out]; simp; omega
              case measure => simp [intOf]; omega
    · have HL := Lib.hid (show l.all V.ok = true by have := HA.out; rwa [List.take_of_length_le (by omega)] at this)
      go_wp2
      go_ret
      refine ⟨_, rfl, fun _ => ?_, fun hc => ?_, HB.out⟩
      · have := HO.out; rwa [List.take_of_length_le (by omega)] at this
      · rw [HL.out] at hc; cases hc
end Go.Proofs.YtpjfkhbdhdolfaaDoor
