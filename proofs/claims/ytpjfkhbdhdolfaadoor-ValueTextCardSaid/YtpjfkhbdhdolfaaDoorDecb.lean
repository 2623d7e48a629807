/-
  value.DecodeKey, walked: it returns what the plain decoding gives.
-/
import Derived.Test.YtpjfkhbdhdolfaaDoorDeca
import Derived.Test.YtpjfkhbdhdolfaaDoorAppv
namespace Go.Proofs.YtpjfkhbdhdolfaaDoor
open Go.RowKit

theorem dec1_int {l : List UInt8} (h : 0 < l.length) (hx : l[0].toNat = 1) (h9 : 9 ≤ l.length) : dec1 l = some (⟨1, (bval ((l.drop 1).take 8) : Int) - 9223372036854775808, ⟨#[]⟩⟩, 9) := by
  cases l with
  | nil => simp at h
  | cons c l =>
    have hc : c = 1 := UInt8.toNat_inj.1 hx
    subst hc
    simp only [dec1, if_true, List.drop_succ_cons, List.drop_zero]
    rw [if_pos (by simp at h9; omega)]
theorem dec1_int_no {l : List UInt8} (h : 0 < l.length) (hx : l[0].toNat = 1) (h9 : ¬ 9 ≤ l.length) : dec1 l = none := by
  cases l with
  | nil => simp at h
  | cons c l =>
    have hc : c = 1 := UInt8.toNat_inj.1 hx
    subst hc
    simp only [dec1, if_true]
    rw [if_neg (by simp at h9; omega)]
theorem dec1_str {l : List UInt8} (h : 0 < l.length) (hx : l[0].toNat = 2) : dec1 l = if zpos (l.drop 1) < (l.drop 1).length then some (⟨2, 0, ⟨((l.drop 1).take (zpos (l.drop 1))).toArray⟩⟩, zpos (l.drop 1) + 2) else none := by
  cases l with
  | nil => simp at h
  | cons c l =>
    have hc : c = 2 := UInt8.toNat_inj.1 hx
    subst hc
    simp only [dec1, List.drop_succ_cons, List.drop_zero]
    rw [if_neg (by decide), if_pos trivial]
theorem dec1_other {l : List UInt8} (h : 0 < l.length) (h1 : l[0].toNat ≠ 1) (h2 : l[0].toNat ≠ 2) : dec1 l = none := by
  cases l with
  | nil => simp at h
  | cons c l =>
    have hc : c ≠ 1 := fun e => h1 (by subst e; rfl)
    have hd : c ≠ 2 := fun e => h2 (by subst e; rfl)
    simp only [dec1, if_neg hc, if_neg hd]
theorem ne_nil_of {l : List UInt8} (h : 0 < l.length) : l ≠ [] := fun e => by subst e; simp at h
/-- What holds at the head of a round: the rest is still to be read, the row holds what has been read. -/
def DecInv (w : World) (b0 : List UInt8) (b l : Value) (wr : World) : Prop :=
  ∃ A c rem acc, b = .slice A rem.length c ∧ At wr w.heap.size A (cellsB rem) ∧ rem.length ≤ c ∧ c ≤ 9223372036854775807 ∧ OwnV wr w.heap.size l acc ∧ acc.length + rem.length ≤ b0.length ∧ decL b0 = (decL rem).map (acc ++ ·) ∧ Below w.heap.size w wr
theorem DecInv.next {w w' : World} {b0 : List UInt8} {l' : Value} {rem : List UInt8} {acc : List V} {A' : Option Addr} {c k n c' : Nat} {v : V} (hd : dec1 rem = some (v, k)) (hv : v.ok = true) (hn : n = rem.length - k) (hc' : c' = c - k) (hlen : rem.length ≤ c) (hc : c ≤ 9223372036854775807)
    (hA : At w' w.heap.size A' (cellsB (rem.drop k))) (hown : OwnV w' w.heap.size l' (acc ++ [v])) (hle : acc.length + rem.length ≤ b0.length) (he : decL b0 = (decL rem).map (acc ++ ·)) (hb : Below w.heap.size w w') : DecInv w b0 (.slice A' n c') l' w' := by
  have hk := dec1_pos hd
  subst hn hc'
  refine ⟨A', c - k, rem.drop k, acc ++ [v], by rw [List.length_drop], hA, by rw [List.length_drop]; omega, by omega, hown, by rw [List.length_drop]; simp; omega, ?_, hb⟩
  rw [he, decL_step (ne_nil_of (by omega)), hd]
  dsimp only
  rw [if_pos hv]
  cases decL (rem.drop k) <;> simp
theorem dec_fail {b0 rem : List UInt8} {acc : List V} (h0 : 0 < rem.length) (he : decL b0 = (decL rem).map (acc ++ ·)) (h : dec1 rem = none ∨ ∃ v k, dec1 rem = some (v, k) ∧ v.ok = false) : decL b0 = none := by
  rw [he, decL_step (ne_nil_of h0)]
  rcases h with h | ⟨v, k, h, hv⟩
  · rw [h]; rfl
  · rw [h]
    dsimp only
    rw [if_neg (by rw [hv]; decide)]; rfl
/-- What DecodeKey returns: a new row of values, or nil and ErrSyntax. -/
def DecPost (b0 : List UInt8) (w : World) (e : Ending) (w' : World) : Prop :=
  (∀ l, decL b0 = some l → ∃ v, e = .returned (.tuple #[v, .int .i64 0]) ∧ OwnV w' w.heap.size v l) ∧ (decL b0 = none → e = .returned (.tuple #[.slice none 0 0, .int .i64 2])) ∧ Below w.heap.size w w'
def lenOf : Value → Nat
  | .slice _ n _ => n
  | _ => 0
theorem valid_block {g : Nat} {t n : Int} {s : ByteArray} {W : World} (hg : IsBlk W g 23 #[.int .i64 t, .int .i64 n, .string s]) : W.cell? ⟨g, 0, none⟩ = some (.int .i64 t) ∧ W.cell? ⟨g, 1, none⟩ = some (.int .i64 n) ∧ W.cell? ⟨g, 2, none⟩ = some (.string s) := ⟨hg.cell 0, hg.cell 1, hg.cell 2⟩
theorem own_other {w w' : World} {base : Nat} {e : TypeId} {size n g : Nat} {v : Value} {xs : List Value} (h : w.ownsRow base e size v n xs) (hf : v.ownBlock ≠ some g) (hk : ∀ k, k ≠ g → w'.heap[k]? = w.heap[k]?) : w'.ownsRow base e size v n xs := by
  refine ⟨h.1, ?_⟩
  rcases h.2 with h2 | ⟨g', cap, cur, rfl, hb, hg, h3⟩
  · exact .inl h2
  · refine .inr ⟨g', cap, cur, rfl, hb, ?_, h3⟩
    rw [hk g' (fun e => hf (by rw [e]; rfl))]; exact hg
theorem own_far {w : World} {base : Nat} {e : TypeId} {size n g : Nat} {v : Value} {xs : List Value} (h : w.ownsRow base e size v n xs) (hg : w.heap.size ≤ g) : v.ownBlock ≠ some g := fun e => by have := (h.lt g e).2; omega
theorem At.dropB {w : World} {B b off : Nat} {l : List UInt8} (h : At w B (some ⟨b, off, none⟩) (cellsB l)) (k : Nat) : At w B (some ⟨b, off + k, none⟩) (cellsB (l.drop k)) := by
  have := h.subB k l.length
  rwa [List.take_of_length_le (by simp)] at this
set_option maxRecDepth 100000 in
set_option maxHeartbeats 4000000 in
theorem dec_walk (A : Option Addr) (c : Nat) (b0 : List UInt8) (w : World) (h : At w w.heap.size A (cellsB b0)) (hcl : b0.length ≤ c) (hcm : c ≤ 9223372036854775807) (hl : b0.length ≤ 1073741824) :
    Calls Tryd.prog 30 #[.slice A b0.length c] w (DecPost b0 w) := by
  have HAt := Lib.hid h
  clear h
  go_enter Tryd.func30, Tryd.ntmps30
  go_wp2
  go_loopw [0, 4] (fun b l wr => DecInv w b0 b l wr) (fun b _ _ => lenOf b)
  case atStart => exact ⟨A, c, b0, [], rfl, HAt.out, hcl, hcm, OwnV.nil _ _, by simp, by cases decL b0 <;> simp, Below.refl _ _⟩
  case round =>
    clear HAt hcl hcm c
    obtain ⟨A, c, rem, acc, rfl, hat, hlc, hcm, hown, hle, heq, hbw⟩ := hrel
    have HAT := Lib.hid hat
    have HO := Lib.hid hown
    have HQ := Lib.hid heq
    have HB := Lib.hid hbw
    have hwr := hbw.size
    clear hat hown heq hbw
    by_cases h0 : 0 < rem.length
    · obtain ⟨b, off, rfl, hbb, hcell⟩ := HAT.out.byte h0
      have HC := Lib.hid hcell
      have c0 := hcell 0 h0
      rw [Nat.add_zero] at c0
      clear hcell
      obtain ⟨x, hx⟩ : ∃ x, rem[0].toNat = x := ⟨_, rfl⟩
      rw [hx] at c0
      have HX := Lib.hid hx
      clear hx
      obtain ⟨W, hW, hbW, hgW, hzW⟩ := blk1 wr 23 #[.int .i64 0, .int .i64 0, .string ⟨#[]⟩]
      have HW := Lib.hid hW
      have HBW := Lib.hid hbW
      have HGW := Lib.hid hgW
      have hsW := hbW.size
      have hzz : wr.heap.size < W.heap.size := by omega
      have d0 := (hbW.cell (p := ⟨b, off, none⟩) (by simp; omega)).trans c0
      have hbr : b < wr.heap.size := by omega
      have c0' : (wr.alloc (.cells #[.int .i64 0, .int .i64 0, .string ⟨#[]⟩] 23)).cell? ⟨b, off, none⟩ = some (.int .u8 x) := by rw [HW.out]; exact d0
      clear hW hbW hgW hzW
      by_cases h1 : x = 1
      · subst h1
        by_cases h9 : 9 ≤ rem.length
        · have HD := Lib.hid (dec1_int h0 HX.out h9)
          obtain ⟨m, hm⟩ : ∃ m, (bval ((rem.drop 1).take 8) : Int) - 9223372036854775808 = m := ⟨_, rfl⟩
          rw [hm] at HD
          go_wp2_with fail
          rw [HW.out]
          refine (decInt_yes b off c rem W h9 hlc hcm (by omega) (fun j hj => (HBW.out.cell (p := ⟨b, off + j, none⟩) (by simp; omega)).trans (HC.out j hj))).mono ?_
          rintro e w1 ⟨rfl, hb1⟩
          rw [hm]
          have HG1 := Lib.hid (HGW.out.below hb1 HGW.out.lt)
          obtain ⟨d1, d2, d3, f1, f2, f3⟩ := HG1.out.three
          have HB1 := Lib.hid (below_then HBW.out hb1 hsW)
          have HO1 := Lib.hid ((HO.out.below HBW.out).below hb1)
          have hs1 : wr.heap.size < w1.heap.size := Nat.lt_of_lt_of_le hzz hb1.size
          obtain ⟨w6, h6, hg6, hb6, hz6, hk6⟩ := store3 HG1.out (.int .i64 1) (.int .i64 m) (.string ⟨#[]⟩)
          have H6 := Lib.hid h6
          have HG6 := Lib.hid hg6
          have HB6 := Lib.hid hb6
          have HO6 := Lib.hid (own_other HO1.out (own_far HO.out (Nat.le_refl _)) hk6)
          have hs6 : w1.heap.size ≤ w6.heap.size := by omega
          clear hb1 h6 hg6 hb6 hz6 hk6 d0 c0 c0'
          go_wp2_with fail
          clear d1 d2 d3 f1 f2 f3
          rw [H6.out]
          refine (valid_is (t := 1) (n := m) (s := ⟨#[]⟩) (b := true) rfl _).mono ?_
          rintro e w7 ⟨rfl, hb7⟩
          have HG7 := Lib.hid (HG6.out.below hb7 HG6.out.lt)
          have HO7 := Lib.hid (OwnV.below HO6.out hb7)
          have hs7 : w.heap.size ≤ w7.heap.size := by have := hb7.size; omega
          have HB17 := Lib.hid ((HB1.out.mono hwr).trans ((HB6.out.trans (hb7.mono (by omega))).mono hwr))
          have HB7 := Lib.hid (HB.out.trans HB17.out)
          clear hb7
          obtain ⟨d1, d2, d3, f1, f2, f3⟩ := HG7.out.three
          have hla : acc.length ≤ 1073741824 := by omega
          by_cases hcK : c = 9
          · subst hcK
            have hlK : rem.length = 9 := by have := (dec1_pos HD.out).2; omega
            have HLK := Lib.hid hlK
            clear hlK
            go_wp2_with (at_builtin; refine app_val w.heap.size u4 acc ⟨1, m, ⟨#[]⟩⟩ (.tmp 34) (.tmp 36) rfl rfl rfl rfl HO7.out hla hs7 ?_; intro v8 w8 hown8 hgr8; have HO8 := Lib.hid hown8; have HR8 := Lib.hid hgr8; clear d1 d2 d3 f1 f2 f3 hown8 hgr8)
            go_roundw
            case rel =>
              refine DecInv.next HD.out (by rfl) ?_ ?_ hlc hcm ?_ HO8.out hle HQ.out (HB7.out.trans HR8.out.below)
              · first | rfl | omega
              · first | rfl | omega
              · rw [List.drop_of_length_le (Nat.le_of_eq HLK.out)]; exact At.nil _ _ _
            case measure => simp [lenOf]; omega
          · go_wp2_with (at_builtin; refine app_val w.heap.size u4 acc ⟨1, m, ⟨#[]⟩⟩ (.tmp 34) (.tmp 36) rfl rfl rfl rfl HO7.out hla hs7 ?_; intro v8 w8 hown8 hgr8; have HO8 := Lib.hid hown8; have HR8 := Lib.hid hgr8; clear d1 d2 d3 f1 f2 f3 hown8 hgr8)
            go_roundw
            case rel =>
              refine DecInv.next HD.out (by rfl) ?_ ?_ hlc hcm ?_ HO8.out hle HQ.out (HB7.out.trans HR8.out.below)
              · first | rfl | omega
              · first | rfl | omega
              · exact (HAT.out.below (HB17.out.trans HR8.out.below)).dropB (9)
            case measure => simp [lenOf]; omega
        ·
          have HD := Lib.hid (dec1_int_no h0 HX.out h9)
          go_wp2_with fail
          rw [HW.out]
          refine (decInt_no _ c rem W (by omega)).mono ?_
          rintro e w1 ⟨rfl, hb1⟩
          have HG1 := Lib.hid (HGW.out.below hb1 HGW.out.lt)
          obtain ⟨d1, d2, d3, f1, f2, f3⟩ := HG1.out.three
          have HB1 := Lib.hid (below_then HBW.out hb1 hsW)
          have HO1 := Lib.hid ((HO.out.below HBW.out).below hb1)
          have hs1 : wr.heap.size < w1.heap.size := Nat.lt_of_lt_of_le hzz hb1.size
          obtain ⟨w6, h6, hg6, hb6, hz6, hk6⟩ := store3 HG1.out (.int .i64 0) (.int .i64 0) (.string ⟨#[]⟩)
          have H6 := Lib.hid h6
          have HG6 := Lib.hid hg6
          have HB6 := Lib.hid hb6
          have HO6 := Lib.hid (own_other HO1.out (own_far HO.out (Nat.le_refl _)) hk6)
          have hs6 : w1.heap.size ≤ w6.heap.size := by omega
          clear hb1 h6 hg6 hb6 hz6 hk6 d0 c0 c0'
          go_wp2
          rw [H6.out]
          go_ret2
          have hF := dec_fail h0 HQ.out (.inl HD.out)
          exact ⟨fun l hl' => by rw [hF] at hl'; (cases hl'), fun _ => rfl, (HB.out.trans (HB1.out.mono hwr)).trans (HB6.out.mono hwr)⟩
      · by_cases h2 : x = 2
        · subst h2
          clear h1
          have HDZ := Lib.hid (dec1_str h0 HX.out)
          have hzl := zpos_le (rem.drop 1)
          have hdl : (rem.drop 1).length + 1 = rem.length := by simp; omega
          by_cases hz : zpos (rem.drop 1) < (rem.drop 1).length
          · rw [if_pos hz] at HDZ
            obtain ⟨z, hze⟩ : ∃ z, zpos (rem.drop 1) = z := ⟨_, rfl⟩
            rw [hze] at HDZ hz
            obtain ⟨st, hst⟩ : ∃ st, (⟨((rem.drop 1).take z).toArray⟩ : ByteArray) = st := ⟨_, rfl⟩
            rw [hst] at HDZ
            have HD := HDZ
            have hzr : z + 2 ≤ rem.length := by omega
            have HZE := Lib.hid hze
            have HST := Lib.hid hst
            have HZ := Lib.hid hz
            clear hzl hdl hze hst hz HDZ
            go_wp2_with fail
            rw [HW.out]
            refine (decStr_any b off c rem W h0 hlc hcm (((HAT.out.more hwr).below HBW.out).more hsW)).mono ?_
            rintro e w1 ⟨he, hb1⟩
            rw [HZE.out, if_pos HZ.out, HST.out] at he
            subst he
            have HG1 := Lib.hid (HGW.out.below hb1 HGW.out.lt)
            obtain ⟨d1, d2, d3, f1, f2, f3⟩ := HG1.out.three
            have HB1 := Lib.hid (below_then HBW.out hb1 hsW)
            have HO1 := Lib.hid ((HO.out.below HBW.out).below hb1)
            have hs1 : wr.heap.size < w1.heap.size := Nat.lt_of_lt_of_le hzz hb1.size
            obtain ⟨w6, h6, hg6, hb6, hz6, hk6⟩ := store3 HG1.out (.int .i64 2) (.int .i64 0) (.string st)
            have H6 := Lib.hid h6
            have HG6 := Lib.hid hg6
            have HB6 := Lib.hid hb6
            have HO6 := Lib.hid (own_other HO1.out (own_far HO.out (Nat.le_refl _)) hk6)
            have hs6 : w1.heap.size ≤ w6.heap.size := by omega
            clear hb1 h6 hg6 hb6 hz6 hk6 d0 c0 c0'
            cases hok : validB 2 0 st
            · have HOK := Lib.hid hok
              clear hok
              go_wp2_with fail
              clear d1 d2 d3 f1 f2 f3
              rw [H6.out]
              refine (valid_is HOK.out _).mono ?_
              rintro e w7 ⟨rfl, hb7⟩
              have HG7 := Lib.hid (HG6.out.below hb7 HG6.out.lt)
              have HO7 := Lib.hid (OwnV.below HO6.out hb7)
              have hs7 : w.heap.size ≤ w7.heap.size := by have := hb7.size; omega
              have HB17 := Lib.hid ((HB1.out.mono hwr).trans ((HB6.out.trans (hb7.mono (by omega))).mono hwr))
              have HB7 := Lib.hid (HB.out.trans HB17.out)
              clear hb7
              go_wp2
              go_ret2
              have hF := dec_fail h0 HQ.out (.inr ⟨_, _, HD.out, HOK.out⟩)
              exact ⟨fun l hl' => by rw [hF] at hl'; (cases hl'), fun _ => rfl, HB7.out⟩
            · have HOK := Lib.hid hok
              clear hok
              go_wp2_with fail
              clear d1 d2 d3 f1 f2 f3
              rw [H6.out]
              refine (valid_is HOK.out _).mono ?_
              rintro e w7 ⟨rfl, hb7⟩
              have HG7 := Lib.hid (HG6.out.below hb7 HG6.out.lt)
              have HO7 := Lib.hid (OwnV.below HO6.out hb7)
              have hs7 : w.heap.size ≤ w7.heap.size := by have := hb7.size; omega
              have HB17 := Lib.hid ((HB1.out.mono hwr).trans ((HB6.out.trans (hb7.mono (by omega))).mono hwr))
              have HB7 := Lib.hid (HB.out.trans HB17.out)
              clear hb7
              obtain ⟨d1, d2, d3, f1, f2, f3⟩ := HG7.out.three
              have hla : acc.length ≤ 1073741824 := by omega
              by_cases hcK : c = z + 2
              · subst hcK
                have hlK : rem.length = z + 2 := by have := (dec1_pos HD.out).2; omega
                have HLK := Lib.hid hlK
                clear hlK
                go_wp2_with (at_builtin; refine app_val w.heap.size u4 acc ⟨2, 0, st⟩ (.tmp 34) (.tmp 36) rfl rfl rfl rfl HO7.out hla hs7 ?_; intro v8 w8 hown8 hgr8; have HO8 := Lib.hid hown8; have HR8 := Lib.hid hgr8; clear d1 d2 d3 f1 f2 f3 hown8 hgr8)
                go_roundw
                case rel =>
                  refine DecInv.next HD.out HOK.out ?_ ?_ hlc hcm ?_ HO8.out hle HQ.out (HB7.out.trans HR8.out.below)
                  · first | rfl | omega
                  · first | rfl | omega
                  · rw [List.drop_of_length_le (Nat.le_of_eq HLK.out)]; exact At.nil _ _ _
                case measure => simp [lenOf]; omega
              · go_wp2_with (at_builtin; refine app_val w.heap.size u4 acc ⟨2, 0, st⟩ (.tmp 34) (.tmp 36) rfl rfl rfl rfl HO7.out hla hs7 ?_; intro v8 w8 hown8 hgr8; have HO8 := Lib.hid hown8; have HR8 := Lib.hid hgr8; clear d1 d2 d3 f1 f2 f3 hown8 hgr8)
                go_roundw
                case rel =>
                  refine DecInv.next HD.out HOK.out ?_ ?_ hlc hcm ?_ HO8.out hle HQ.out (HB7.out.trans HR8.out.below)
                  · first | rfl | omega
                  · first | rfl | omega
                  · exact (HAT.out.below (HB17.out.trans HR8.out.below)).dropB (z + 2)
                case measure => simp [lenOf]; omega
          · rw [if_neg hz] at HDZ
            have HD := HDZ
            have HZ := Lib.hid hz
            clear hzl hdl hz HDZ
            go_wp2_with fail
            rw [HW.out]
            refine (decStr_any b off c rem W h0 hlc hcm (((HAT.out.more hwr).below HBW.out).more hsW)).mono ?_
            rintro e w1 ⟨he, hb1⟩
            rw [if_neg HZ.out] at he
            subst he
            have HG1 := Lib.hid (HGW.out.below hb1 HGW.out.lt)
            obtain ⟨d1, d2, d3, f1, f2, f3⟩ := HG1.out.three
            have HB1 := Lib.hid (below_then HBW.out hb1 hsW)
            have HO1 := Lib.hid ((HO.out.below HBW.out).below hb1)
            have hs1 : wr.heap.size < w1.heap.size := Nat.lt_of_lt_of_le hzz hb1.size
            obtain ⟨w6, h6, hg6, hb6, hz6, hk6⟩ := store3 HG1.out (.int .i64 0) (.int .i64 0) (.string ⟨#[]⟩)
            have H6 := Lib.hid h6
            have HG6 := Lib.hid hg6
            have HB6 := Lib.hid hb6
            have HO6 := Lib.hid (own_other HO1.out (own_far HO.out (Nat.le_refl _)) hk6)
            have hs6 : w1.heap.size ≤ w6.heap.size := by omega
            clear hb1 h6 hg6 hb6 hz6 hk6 d0 c0 c0'
            go_wp2
            rw [H6.out]
            go_ret2
            have hF := dec_fail h0 HQ.out (.inl HD.out)
            exact ⟨fun l hl' => by rw [hF] at hl'; (cases hl'), fun _ => rfl, (HB.out.trans (HB1.out.mono hwr)).trans (HB6.out.mono hwr)⟩
        ·
          have HD := Lib.hid (dec1_other h0 (by rw [HX.out]; exact h1) (by rw [HX.out]; exact h2))
          have g1 : ((x : Int) == 1) = false := by simpa using (show (x : Int) ≠ 1 by omega)
          have g2 : ((x : Int) == 2) = false := by simpa using (show (x : Int) ≠ 2 by omega)
          clear h1 h2
          go_wp2
          rw [HW.out]
          go_ret2
          have hF := dec_fail h0 HQ.out (.inl HD.out)
          exact ⟨fun l hl' => by rw [hF] at hl'; (cases hl'), fun _ => rfl, HB.out.trans (HBW.out.mono hwr)⟩
    ·
      have HR : Hid (rem = []) := List.eq_nil_of_length_eq_zero (by omega)
      go_wp2
      go_ret2
      refine ⟨fun l hl' => ⟨_, rfl, ?_⟩, fun hn => ?_, HB.out⟩
      · have := HQ.out
        rw [HR.out, decL_nil, hl'] at this
        simp at this
        rw [this]; exact HO.out
      · have := HQ.out
        rw [HR.out, decL_nil, hn] at this
        simp at this
end Go.Proofs.YtpjfkhbdhdolfaaDoor
