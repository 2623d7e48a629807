/-
  The reference's DecodeKey, walked: it returns what the plain decoding gives.
-/
import Derived.Test.YtpjfkhbdhdolfaaDoorDecb
namespace Go.Proofs.YtpjfkhbdhdolfaaDoor
open Go.RowKit

/-- What holds at the head of a round: k bytes have been read, the row holds what they gave. -/
def RDecInv (w : World) (b0 : List UInt8) (l a : Value) (wr : World) : Prop :=
  ∃ (k : Nat) (acc : List V), a = .int .i64 k ∧ k ≤ b0.length ∧ OwnV wr w.heap.size l acc ∧ acc.length ≤ k ∧ decL b0 = (decL (b0.drop k)).map (acc ++ ·) ∧ Below w.heap.size w wr
theorem RDecInv.next {w w' : World} {b0 : List UInt8} {l' : Value} {acc : List V} {k m : Nat} {v : V} {x : Int} (hk : k < b0.length) (hd : dec1 (b0.drop k) = some (v, m)) (hv : v.ok = true) (hx : x = ((k + m : Nat) : Int)) (hown : OwnV w' w.heap.size l' (acc ++ [v])) (hle : acc.length ≤ k)
    (he : decL b0 = (decL (b0.drop k)).map (acc ++ ·)) (hb : Below w.heap.size w w') : RDecInv w b0 l' (.int .i64 x) w' := by
  have hp := dec1_pos hd
  rw [List.length_drop] at hp
  subst hx
  refine ⟨k + m, acc ++ [v], rfl, by omega, hown, by simp; omega, ?_, hb⟩
  rw [he, decL_step (ne_nil_of (by rw [List.length_drop]; omega)), hd]
  dsimp only
  rw [if_pos hv, List.drop_drop]
  cases decL (b0.drop (k + m)) <;> simp
/-- What the reference's DecodeKey returns. -/
def RDecPost (b0 : List UInt8) (w : World) (e : Ending) (w' : World) : Prop :=
  (∀ l, decL b0 = some l → ∃ v, e = .returned (.tuple #[v, .bool true]) ∧ OwnV w' w.heap.size v l) ∧ (decL b0 = none → e = .returned (.tuple #[.slice none 0 0, .bool false])) ∧ Below w.heap.size w w'
theorem drop_get {l : List UInt8} {k : Nat} (h : k < l.length) : (l.drop k)[0]'(by rw [List.length_drop]; omega) = l[k] := by simp
set_option maxRecDepth 100000 in
set_option maxHeartbeats 4000000 in
theorem refDec_walk (A : Option Addr) (c : Nat) (b0 : List UInt8) (w : World) (h : At w w.heap.size A (cellsB b0)) (hcl : b0.length ≤ c) (hcm : c ≤ 9223372036854775807) (hl : b0.length ≤ 1073741824) :
    Calls Tryd.prog 31 #[.slice A b0.length c] w (RDecPost b0 w) := by
  have HAt := Lib.hid h
  clear h
  go_enter Tryd.func31, Tryd.ntmps31
  go_wp2
  go_loopw [4, 5] (fun l a wr => RDecInv w b0 l a wr) (fun _ a _ => b0.length - (intOf a).toNat)
  case atStart => exact ⟨0, [], rfl, by omega, OwnV.nil _ _, by simp, by rw [List.drop_zero]; cases decL b0 <;> simp, Below.refl _ _⟩
  case round =>
    obtain ⟨k, acc, rfl, hk, hown, hle, heq, hbw⟩ := hrel
    have HAT := Lib.hid (HAt.out.below hbw)
    have HO := Lib.hid hown
    have HQ := Lib.hid heq
    have HB := Lib.hid hbw
    have hwr := hbw.size
    clear hown heq hbw
    by_cases hlt : k < b0.length
    · obtain ⟨b, off, rfl, hbb, hcell⟩ := HAT.out.byte hlt
      have HC := Lib.hid hcell
      have c0 := hcell k hlt
      clear hcell
      have h0 : 0 < (b0.drop k).length := by rw [List.length_drop]; omega
      have H0 := Lib.hid h0
      have hx0 : ((b0.drop k)[0]'h0).toNat = b0[k].toNat := by rw [drop_get hlt]
      obtain ⟨x, hx⟩ : ∃ x, b0[k].toNat = x := ⟨_, rfl⟩
      rw [hx] at c0 hx0
      have HX := Lib.hid hx0
      clear hx hx0
      by_cases h1 : x = 1
      · subst h1
        by_cases h9 : k + 9 ≤ b0.length
        ·
          have HD := Lib.hid (dec1_int h0 HX.out (by rw [List.length_drop]; omega))
          obtain ⟨wo, hwo⟩ : ∃ wo : World, wo = wr := ⟨_, rfl⟩
          subst hwo
          go_wp2
          go_loop [6, 7] (fun n i => ∃ j : Nat, j ≤ 8 ∧ i = .int .i64 ((j : Int) + 1) ∧ n = .int .u64 (bval ((((b0.drop k).drop 1).take 8).take j) : Int)) (fun _ i => 9 - (intOf i).toNat)
          case atStart => exact ⟨0, by omega, rfl, by simp [bval]⟩
          case round =>
            obtain ⟨j, hj, rfl, rfl⟩ := hrel
            by_cases hj8 : j < 8
            · have HS := Lib.hid (take_take8 (b0.drop k) j hj8 (by rw [List.length_drop]; omega))
              have hsm := bval_small (l := (((b0.drop k).drop 1).take 8).take j) (k := j) (by simp; omega) (by omega)
              have hjl : k + (j + 1) < b0.length := by omega
              have hce := HC.out (k + (j + 1)) hjl
              have HXE := Lib.hid (show ((b0.drop k)[1 + j]'(by rw [List.length_drop]; omega)).toNat = b0[k + (j + 1)].toNat by simp [Nat.add_comm 1 j])
              rw [HXE.out] at HS
              have hby : b0[k + (j + 1)].toNat < 256 := UInt8.toNat_lt _
              generalize b0[k + (j + 1)].toNat = y at HS hce hby HXE
              generalize bval ((((b0.drop k).drop 1).take 8).take j) = N at HS hsm ⊢
              have HOR := Lib.hid (or_byte N y hsm hby)
              go_wp2
              go_round
              case rel => exact ⟨j + 1, by omega, by go_num, by rw [HOR.out, HS.out]⟩
              case measure => simp [intOf]; omega
            · obtain rfl : j = 8 := by omega
              have HM := Lib.hid (show bval ((((b0.drop k).drop 1).take 8).take 8) = bval (((b0.drop k).drop 1).take 8) by rw [List.take_take]; rfl)
              have hlt64 : bval (((b0.drop k).drop 1).take 8) < 18446744073709551616 := by
                have h1 := bval_lt (((b0.drop k).drop 1).take 8)
                have h2 : (((b0.drop k).drop 1).take 8).length = 8 := by simp; omega
                rw [h2] at h1
                have h3 : (256 ^ 8 : Nat) = 18446744073709551616 := by decide
                omega
              have HFL := Lib.hid (flip_back _ hlt64)
              rw [HM.out]
              generalize bval (((b0.drop k).drop 1).take 8) = N at HFL HD
              clear hlt64 HM
              go_wp2_with fail
              rw [HFL.out]
              refine (refInt_any _ _).mono ?_
              rintro e w1 ⟨rfl, hb1⟩
              have HO1 := Lib.hid (OwnV.below HO.out hb1)
              have HB1 := Lib.hid (below_then HB.out hb1 hwr)
              have hs1 : w.heap.size ≤ w1.heap.size := Nat.le_trans hwr hb1.size
              have hla : acc.length ≤ 1073741824 := by omega
              clear hb1
              go_wp2_with (at_builtin; refine app_val w.heap.size u4 acc ⟨1, (N : Int) - 9223372036854775808, ⟨#[]⟩⟩ (.tmp 39) (.tmp 44) rfl rfl rfl rfl HO1.out hla hs1 ?_; intro v8 w8 hown8 hgr8; have HO8 := Lib.hid hown8; have HR8 := Lib.hid hgr8; clear hown8 hgr8)
              go_roundw
              case rel => exact RDecInv.next hlt HD.out (by rfl) (by omega) HO8.out hle HQ.out (HB1.out.trans HR8.out.below)
              case measure => simp [intOf]; omega
        ·
          have HD := Lib.hid (dec1_int_no h0 HX.out (by rw [List.length_drop]; omega))
          go_wp2
          go_ret2
          have hF := dec_fail h0 HQ.out (.inl HD.out)
          exact ⟨fun l hl' => by rw [hF] at hl'; (cases hl'), fun _ => rfl, HB.out⟩
      · by_cases h2 : x = 2
        · subst h2
          clear h1
          have HDZ := Lib.hid (dec1_str h0 HX.out)
          have hzl := zpos_le ((b0.drop k).drop 1)
          have hdl : ((b0.drop k).drop 1).length + (k + 1) = b0.length := by simp; omega
          obtain ⟨t, ht⟩ : ∃ t, (b0.drop k).drop 1 = t := ⟨_, rfl⟩
          rw [ht] at HDZ hzl hdl
          obtain ⟨z, hz⟩ : ∃ z, zpos t = z := ⟨_, rfl⟩
          have HTK := Lib.hid (show ∀ (i : Nat) (hi : i < t.length) (hi' : k + 1 + i < b0.length), t[i] = b0[k + 1 + i] by
            intro i hi hi'
            subst ht
            simp)
          have HZ := Lib.hid hz
          have HT := Lib.hid ht
          rw [hz] at hzl
          have hzl' : z ≤ t.length := hzl
          have HDL := Lib.hid hdl
          clear hzl hz ht hdl
          obtain ⟨wo, hwo⟩ : ∃ wo : World, wo = wr := ⟨_, rfl⟩
          subst hwo
          go_wp2
          go_loop [8] (fun i => ∃ j : Nat, j ≤ z ∧ i = .int .i64 ((k : Int) + 1 + j)) (fun i => b0.length - (intOf i).toNat)
          case atStart => exact ⟨0, by omega, by simp⟩
          case round =>
            obtain ⟨j, hj, rfl⟩ := hrel
            have hkt : k + 1 + t.length ≤ b0.length := by have := HDL.out; omega
            by_cases hjt : j < t.length
            · have hjl : k + 1 + j < b0.length := by omega
              have hce := HC.out (k + 1 + j) hjl
              have HXE := Lib.hid (show t[j].toNat = b0[k + 1 + j].toNat by rw [HTK.out j hjt hjl])
              generalize b0[k + 1 + j].toNat = y at hce HXE
              by_cases hy : y = 0
              · subst hy
                have HZJ := Lib.hid (show z = j by have := zpos_hit t j hjt HXE.out; rw [HZ.out] at this; omega)
                have h1c : k + 1 < c := by omega
                obtain ⟨st, hst⟩ : ∃ st, (b0.drop (k + 1)).take j = st := ⟨_, rfl⟩
                have hsl : st.length = j := by rw [← hst, List.length_take, List.length_drop]; omega
                have hcv := conv_at (c - (k + 1)) (HAT.out.subB (k + 1) j)
                rw [hst, hsl] at hcv
                have hcv : (convert 24 9 (.slice (some ⟨b, off + (k + 1), none⟩) ((min ((k : Int) + 1 + (j : Int)) (b0.length : Int)).toNat - (k + 1)) (c - (k + 1)))).run Tryd.prog wo = .ok (.string ⟨st.toArray⟩) wo := by
                  rw [show (min ((k : Int) + 1 + (j : Int)) (b0.length : Int)).toNat - (k + 1) = j by omega]; exact hcv
                have HST := Lib.hid hst
                clear hst hsl
                go_wp2_with fail
                refine (refStr_any _ _).mono ?_
                rintro e w1 ⟨rfl, hb1⟩
                have HO1 := Lib.hid (OwnV.below HO.out hb1)
                have HB1 := Lib.hid (below_then HB.out hb1 hwr)
                have hs1 : w.heap.size ≤ w1.heap.size := Nat.le_trans hwr hb1.size
                have hss : (⟨st.toArray⟩ : ByteArray).size ≤ 9223372036854775807 := by
                  have : (⟨st.toArray⟩ : ByteArray).size = j := by rw [← HST.out]; simp [ByteArray.size]; omega
                  omega
                have HD : Hid (dec1 (b0.drop k) = some (⟨2, 0, ⟨st.toArray⟩⟩, j + 2)) := by
                  have h1 := HDZ.out
                  rw [HZ.out, HZJ.out, if_pos hjt, ← HT.out, List.drop_drop, HST.out] at h1
                  exact h1
                generalize (⟨st.toArray⟩ : ByteArray) = sB at hss HD ⊢
                clear hb1 hcv hce c0
                obtain ⟨W6, hW6, hb6, hg6, hz6⟩ := blk1 w1 23 #[.int .i64 2, .int .i64 0, .string sB]
                have HW6 := Lib.hid hW6
                have HG6 := Lib.hid hg6
                have HB6 := Lib.hid hb6
                have hs6 := hb6.size
                clear hW6 hg6 hb6 hz6
                cases hok : validB 2 0 sB
                · have HOK := Lib.hid hok
                  clear hok
                  go_wp2_with fail
                  rw [HW6.out]
                  refine (refValid_is HOK.out _ hss).mono ?_
                  rintro e w7 ⟨rfl, hb7⟩
                  have HB7 := Lib.hid (HB1.out.trans ((HB6.out.trans (hb7.mono hs6)).mono hs1))
                  clear hb7
                  go_wp2
                  go_ret2
                  have hF := dec_fail h0 HQ.out (.inr ⟨_, _, HD.out, HOK.out⟩)
                  exact ⟨fun l hl' => by rw [hF] at hl'; (cases hl'), fun _ => rfl, HB7.out⟩
                · have HOK := Lib.hid hok
                  clear hok
                  go_wp2_with fail
                  rw [HW6.out]
                  refine (refValid_is HOK.out _ hss).mono ?_
                  rintro e w7 ⟨rfl, hb7⟩
                  have HB7 := Lib.hid (HB1.out.trans ((HB6.out.trans (hb7.mono hs6)).mono hs1))
                  have HO7 := Lib.hid (OwnV.below (OwnV.below HO1.out HB6.out) hb7)
                  obtain ⟨d1, d2, d3, f1, f2, f3⟩ := (HG6.out.below hb7 HG6.out.lt).three
                  have hs7 : w.heap.size ≤ w7.heap.size := by have := hb7.size; omega
                  have hla : acc.length ≤ 1073741824 := by omega
                  clear hb7
                  go_wp2_with (at_builtin; refine app_val w.heap.size u4 acc ⟨2, 0, sB⟩ (.tmp 84) (.tmp 86) rfl rfl rfl rfl HO7.out hla hs7 ?_; intro v8 w8 hown8 hgr8; have HO8 := Lib.hid hown8; have HR8 := Lib.hid hgr8; clear d1 d2 d3 f1 f2 f3 hown8 hgr8)
                  go_roundw
                  case rel => exact RDecInv.next hlt HD.out HOK.out (by omega) HO8.out hle HQ.out (HB7.out.trans HR8.out.below)
                  case measure => simp [intOf]; omega
              · have HK := Lib.hid (show j + 1 ≤ z by have := zpos_step t j hjt (by rw [HZ.out]; omega) (by rw [HXE.out]; exact hy); rw [HZ.out] at this; omega)
                have hy' : ((y : Int) == 0) = false := by simpa using hy
                have hy'' : ((y : Int) != 0) = true := by simpa using hy
                go_wp2
                go_round
                case rel => exact ⟨j + 1, HK.out, by go_num⟩
                case measure => simp [intOf]; omega
            · have HD : Hid (dec1 (b0.drop k) = none) := by
                have h1 := HDZ.out
                rwa [HZ.out, if_neg (by omega)] at h1
              have hend : k + 1 + j = b0.length := by have := HDL.out; omega
              have hge : ¬ ((k : Int) + 1 + (j : Int) < (b0.length : Int)) := by omega
              by_cases hc1 : k + 1 = c
              · subst hc1
                have hj0 : j = 0 := by omega
                subst hj0
                have HEND := Lib.hid hend
                have hcv : (convert 24 9 (.slice (some ⟨b, off, none⟩) ((min ((k : Int) + 1) (b0.length : Int)).toNat - (k + 1)) 0)).run Tryd.prog wo = .ok (.string ⟨#[]⟩) wo := by
                  rw [show (min ((k : Int) + 1) (b0.length : Int)).toNat - (k + 1) = ([] : List UInt8).length by simp; omega]
                  exact conv_at (B := 0) 0 (At.nil _ _ _)
                clear hend
                go_wp2_with fail
                refine (refStr_any _ _).mono ?_
                rintro e w1 ⟨rfl, hb1⟩
                have HB1 := Lib.hid (below_then HB.out hb1 hwr)
                have hs1 : w.heap.size ≤ w1.heap.size := Nat.le_trans hwr hb1.size
                clear hb1 hcv c0
                go_wp2
                go_ret2
                have hF := dec_fail h0 HQ.out (.inl HD.out)
                exact ⟨fun l hl' => by rw [hF] at hl'; (cases hl'), fun _ => rfl, HB1.out.alloc hs1 _⟩
              · obtain ⟨st, hst⟩ : ∃ st, (b0.drop (k + 1)).take j = st := ⟨_, rfl⟩
                have hsl : st.length = j := by rw [← hst, List.length_take, List.length_drop]; omega
                have hcv := conv_at (c - (k + 1)) (HAT.out.subB (k + 1) j)
                rw [hst, hsl] at hcv
                have hcv : (convert 24 9 (.slice (some ⟨b, off + (k + 1), none⟩) ((min ((k : Int) + 1 + (j : Int)) (b0.length : Int)).toNat - (k + 1)) (c - (k + 1)))).run Tryd.prog wo = .ok (.string ⟨st.toArray⟩) wo := by
                  rw [show (min ((k : Int) + 1 + (j : Int)) (b0.length : Int)).toNat - (k + 1) = j by omega]; exact hcv
                have HEND := Lib.hid hend
                clear hst hsl hend
                go_wp2_with fail
                refine (refStr_any _ _).mono ?_
                rintro e w1 ⟨rfl, hb1⟩
                have HB1 := Lib.hid (below_then HB.out hb1 hwr)
                have hs1 : w.heap.size ≤ w1.heap.size := Nat.le_trans hwr hb1.size
                clear hb1 hcv c0
                go_wp2
                go_ret2
                have hF := dec_fail h0 HQ.out (.inl HD.out)
                exact ⟨fun l hl' => by rw [hF] at hl'; (cases hl'), fun _ => rfl, HB1.out.alloc hs1 _⟩
        ·
          have HD := Lib.hid (dec1_other h0 (by rw [HX.out]; exact h1) (by rw [HX.out]; exact h2))
          have g1 : ((x : Int) == 1) = false := by simpa using (show (x : Int) ≠ 1 by omega)
          have g2 : ((x : Int) == 2) = false := by simpa using (show (x : Int) ≠ 2 by omega)
          clear h1 h2
          go_wp2
          go_ret2
          have hF := dec_fail h0 HQ.out (.inl HD.out)
          exact ⟨fun l hl' => by rw [hF] at hl'; (cases hl'), fun _ => rfl, HB.out⟩
    ·
      have HR : Hid (b0.drop k = []) := List.drop_of_length_le (by omega)
      go_wp2
      go_ret2
      refine ⟨fun l hl' => ⟨_, rfl, ?_⟩, fun hn => ?_, HB.out⟩
      · have := HQ.out
        rw [HR.out, decL_nil, hl'] at this
        simp at this
        rw [this]; exact HO.out
      · have := HQ.out
        rw [HR.out, decL_nil, hn] at this
        simp at this
end Go.Proofs.YtpjfkhbdhdolfaaDoor
