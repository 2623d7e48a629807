import Derived.Test.YtpjfkhbdhdolfaaDoorValb
import Derived.Test.YtpjfkhbdhdolfaaDoorApp
import Derived.Laws.BitsAllLaws
import Derived.Laws.Bits64
namespace Go.Proofs.YtpjfkhbdhdolfaaDoor
open Go.RowKit

/-- The eight bytes of an integer, the sign bit inverted. -/
def encI (n : Int) : List UInt8 := (List.range 8).map fun k => UInt8.ofNat (((n + 9223372036854775808).toNat / 2 ^ (56 - 8 * k)) % 256)
def V.enc (v : V) : List UInt8 := if v.t = 2 then 2 :: (v.s.data.toList ++ [0]) else 1 :: encI v.n
def V.ok (v : V) : Bool := validB v.t v.n v.s
def encL (l : List V) : List UInt8 := l.flatMap V.enc

theorem xor_top (a : Nat) (h : a < 18446744073709551616) : a ^^^ 9223372036854775808 = (a + 9223372036854775808) % 18446744073709551616 := by
  have e1 : (a ^^^ 9223372036854775808) / 2 ^ 63 = (a / 2 ^ 63) ^^^ (9223372036854775808 / 2 ^ 63) := Nat.xor_div_two_pow
  have e2 : (a ^^^ 9223372036854775808) % 2 ^ 63 = (a % 2 ^ 63) ^^^ (9223372036854775808 % 2 ^ 63) := Nat.xor_mod_two_pow
  have p : (2 ^ 63 : Nat) = 9223372036854775808 := by decide
  rw [p] at e1 e2
  have h1 : (9223372036854775808 / 9223372036854775808 : Nat) = 1 := by decide
  have h2 : (9223372036854775808 % 9223372036854775808 : Nat) = 0 := by decide
  rw [h1] at e1
  rw [h2, Nat.xor_zero] at e2
  have h3 : a / 9223372036854775808 = 0 ∨ a / 9223372036854775808 = 1 := by omega
  rcases h3 with h3 | h3 <;> rw [h3] at e1
  · have : (0 ^^^ 1 : Nat) = 1 := by decide
    rw [this] at e1; omega
  · have : (1 ^^^ 1 : Nat) = 0 := by decide
    rw [this] at e1; omega
/-- The sign bit inverted. -/
theorem flip_sign (n : Int) (h0 : -9223372036854775808 ≤ n) (h1 : n ≤ 9223372036854775807) : bits .xor .u64 (IntKind.u64.wrap n) 9223372036854775808 = (((n + 9223372036854775808).toNat : Nat) : Int) := by
  rw [IntKind.wrap_u64]
  have e : n % 18446744073709551616 = ((n % 18446744073709551616).toNat : Int) := by omega
  have h : (n % 18446744073709551616).toNat < 18446744073709551616 := by omega
  rw [e]
  have := u64_xor_nat (n % 18446744073709551616).toNat 9223372036854775808 h (by decide)
  rw [show ((9223372036854775808 : Nat) : Int) = 9223372036854775808 from rfl] at this
  rw [this, xor_top _ h]
  omega
theorem enc_byte (N e : Nat) : ((N : Int) / 2 ^ e % 256) = (((UInt8.ofNat (N / 2 ^ e % 256)).toNat : Nat) : Int) := by
  have p : ((2 : Int) ^ e) = ((2 ^ e : Nat) : Int) := by simp
  rw [p, ← Int.natCast_ediv]
  generalize N / 2 ^ e = M
  have : (UInt8.ofNat (M % 256)).toNat = M % 256 := by simp [UInt8.toNat_ofNat']
  rw [this]
  omega
theorem encI_succ (n : Int) (j : Nat) (hj : j < 8) : (encI n).take (j + 1) = (encI n).take j ++ [UInt8.ofNat ((n + 9223372036854775808).toNat / 2 ^ (56 - 8 * j) % 256)] := by
  have hl : j < (encI n).length := by simp [encI]; omega
  rw [List.take_succ_eq_append_getElem hl]
  simp [encI]
theorem encI_length (n : Int) : (encI n).length = 8 := by simp [encI]
theorem enc_succ (l : List V) (k : Nat) (h : k < l.length) : encL (l.take (k + 1)) = encL (l.take k) ++ l[k].enc := by
  rw [List.take_succ_eq_append_getElem h, encL, List.flatMap_append]; simp [encL]
theorem ok_succ (l : List V) (k : Nat) (h : k < l.length) : (l.take (k + 1)).all V.ok = ((l.take k).all V.ok && l[k].ok) := by
  rw [List.take_succ_eq_append_getElem h, List.all_append]; simp
/-- What EncodeKey returns: a new row of bytes, or nil where a value is invalid. -/
def EncPost (l : List V) (w : World) (e : Ending) (w' : World) : Prop :=
  ∃ v, e = .returned v ∧ (l.all V.ok = true → OwnB w' w.heap.size v (encL l)) ∧ (l.all V.ok = false → v = .slice none 0 0) ∧ Below w.heap.size w w'

set_option maxRecDepth 100000 in
set_option maxHeartbeats 1000000 in
theorem enc_walk (A : Option Addr) (cap : Nat) (l : List V) (w : World) (h : At w w.heap.size A (cellsV l)) (hl : l.length ≤ 65536) (hr : ∀ v ∈ l, -9223372036854775808 ≤ v.n ∧ v.n ≤ 9223372036854775807) :
    Calls Tryd.prog 28 #[.slice A l.length cap] w (EncPost l w) := by
  have HRR := Lib.hid hr
  clear hr
  go_enter Tryd.func28, Tryd.ntmps28
  go_wp2
  go_loopw [3, 10] (fun b i wr => ∃ k : Nat, k ≤ l.length ∧ i = .int .i64 k ∧ (l.take k).all V.ok = true ∧ OwnB wr w.heap.size b (encL (l.take k)) ∧ (encL (l.take k)).length ≤ 67 * k ∧ Below w.heap.size w wr) (fun _ i _ => l.length - (intOf i).toNat)
  case atStart => exact ⟨0, Nat.zero_le _, rfl, by simp, OwnB.nil _ _, by simp [encL], Below.refl _ _⟩
  case round =>
    obtain ⟨k, hk, rfl, hall, hown, hlen, hbw⟩ := hrel
    have HA := Lib.hid hall
    have HO := Lib.hid hown
    have HB := Lib.hid hbw
    have HAt := Lib.hid (h.below hbw)
    clear hall hown hbw h
    by_cases hlt : k < l.length
    · obtain ⟨b', off, rfl, hb', c0, c1, c2⟩ := HAt.out.val hlt
      have HS := Lib.hid (enc_succ l k hlt)
      have HK := Lib.hid (ok_succ l k hlt)
      obtain ⟨v, hv⟩ : ∃ v, l[k] = v := ⟨_, rfl⟩
      rw [hv] at c0 c1 c2
      have HS : Hid (encL (l.take (k + 1)) = encL (l.take k) ++ v.enc) := by rw [← hv]; exact HS
      have HK : Hid ((l.take (k + 1)).all V.ok = ((l.take k).all V.ok && v.ok)) := by rw [← hv]; exact HK
      have hrv : -9223372036854775808 ≤ v.n ∧ v.n ≤ 9223372036854775807 := HRR.out v (by rw [← hv]; exact List.getElem_mem hlt)
      clear hv
      obtain ⟨t, n, s⟩ := v
      obtain ⟨hn0, hn1⟩ := hrv
      simp only at hn0 hn1
      obtain ⟨W, hW, hb1, hg1, hz1⟩ := blk1 wr 23 #[.int .i64 t, .int .i64 n, .string s]
      have HW := Lib.hid hW
      have HB1 := Lib.hid hb1
      have HG1 := Lib.hid hg1
      have HZ := Lib.hid hz1
      clear hW hb1 hg1 hz1
      cases hok : validB t n s
      · have hv : ∀ w : World, Calls Tryd.prog 17 #[.agg #[.int .i64 t, .int .i64 n, .string s]] w fun e w' => e = .returned (.bool false) ∧ Below w.heap.size w w' := fun w => by
          have := valid_any t n s w; rwa [hok] at this
        have HV := Lib.hid hv
        have HOK := Lib.hid hok
        clear hv hok
        go_wp2_with fail
        rw [HW.out]
        refine (HV.out _).mono ?_
        rintro e w1 ⟨rfl, hb2⟩
        have HB2 := Lib.hid hb2
        clear hb2
        go_wp2
        go_ret
        refine ⟨_, rfl, fun hc => ?_, fun _ => rfl, below_then (below_then HB.out HB1.out HB.out.size) HB2.out (by rw [HZ.out]; have := HB.out.size; omega)⟩
        have h1 : (l.take (k + 1)).all V.ok = true := by
          rw [List.all_eq_true] at hc ⊢
          exact fun x hx => hc x (List.mem_of_mem_take hx)
        rw [HK.out, Bool.and_eq_true] at h1
        have h2 : validB t n s = true := h1.2
        rw [HOK.out] at h2; cases h2
      · have hv : ∀ w : World, Calls Tryd.prog 17 #[.agg #[.int .i64 t, .int .i64 n, .string s]] w fun e w' => e = .returned (.bool true) ∧ Below w.heap.size w w' := fun w => by
          have := valid_any t n s w; rwa [hok] at this
        have HV := Lib.hid hv
        have HOK := Lib.hid hok
        clear hv hok
        by_cases ht : t = 2
        · subst ht
          go_wp2_with fail
          rw [HW.out]
          refine (HV.out _).mono ?_
          rintro e w1 ⟨rfl, hb2⟩
          have HB2 := Lib.hid hb2
          have HG2 := Lib.hid (HG1.out.below hb2 HG1.out.lt)
          have HO2 := Lib.hid ((HO.out.below HB1.out).below hb2)
          clear hb2
          obtain ⟨d0, d1, d2, _, _, _⟩ := HG2.out.three
          have hwr := HB.out.size
          have hsz : w.heap.size ≤ w1.heap.size := by have h1 := HB1.out.size; have h2 := HB2.out.size; omega
          have HF := Lib.hid (Far.of_own HO.out (Nat.le_refl _))
          have hs64 : s.size ≤ 64 := by have := HOK.out; simp [validB] at this; omega
          have henc : V.enc ⟨2, n, s⟩ = 2 :: (s.data.toList ++ [0]) := by simp [V.enc]
          have HEN := Lib.hid henc
          clear henc
          go_wp2_with (first
            | (at_builtin; refine app_byte w.heap.size u3 _ 2 2 (.tmp 17) (.tmp 21) rfl rfl rfl rfl HO2.out rfl (by omega) hsz ?_; intro v3 w3 hown3 hgr3; have HO3 := Lib.hid hown3; have HR3 := Lib.hid hgr3; have HG3 := Lib.hid (hgr3.blk HG2.out HF.out); have HF3 := Lib.hid (hgr3.far _ HG2.out.lt HF.out); have hsz3 := Nat.le_trans hsz hgr3.size; clear d0 d1 d2 hown3 hgr3; obtain ⟨d0, d1, d2, _, _, _⟩ := HG3.out.three)
            | (at_builtin; refine app_str w.heap.size v3 _ s (.tmp 26) (.tmp 28) rfl rfl rfl rfl HO3.out ?hlen hsz3 ?_; rotate_left; intro v4 w4 hown4 hgr4; have HO4 := Lib.hid hown4; have HR4 := Lib.hid hgr4; have hsz4 := Nat.le_trans hsz3 hgr4.size; clear d0 d1 d2 hown4 hgr4)
            | (at_builtin; refine app_byte w.heap.size v4 _ 0 0 (.tmp 30) (.tmp 31) rfl rfl rfl rfl HO4.out rfl ?hlen2 hsz4 ?_; rotate_left; intro v5 w5 hown5 hgr5; have HO5 := Lib.hid hown5; have HR5 := Lib.hid hgr5; clear hown5 hgr5))
          case hlen => simp; omega
          case hlen2 => simp; omega
          go_roundw
          case rel =>
            refine ⟨k + 1, by omega, by go_num, by rw [HK.out, HA.out]; exact HOK.out, ?_, ?_, ?_⟩
            · have e : encL (l.take (k + 1)) = encL (l.take k) ++ [2] ++ s.data.toList ++ [0] := by rw [HS.out, HEN.out]; simp
              rw [e]; exact HO5.out
            · rw [HS.out, HEN.out]; simp; omega
            · exact (((below_then (below_then HB.out HB1.out hwr) HB2.out (by rw [HZ.out]; omega)).trans HR3.out.below).trans HR4.out.below).trans HR5.out.below
          case measure => simp [intOf]; omega
        · have ht1 : t = 1 := by
            have := HOK.out
            by_cases h1 : t = 1
            · exact h1
            · simp [validB, h1] at this; exact absurd this.1.1.1 ht
          subst ht1
          clear ht
          go_wp2_with fail
          rw [HW.out]
          refine (HV.out _).mono ?_
          rintro e w1 ⟨rfl, hb2⟩
          have HB2 := Lib.hid hb2
          have HG2 := Lib.hid (HG1.out.below hb2 HG1.out.lt)
          have HO2 := Lib.hid ((HO.out.below HB1.out).below hb2)
          clear hb2
          obtain ⟨d0, d1, d2, _, _, _⟩ := HG2.out.three
          have hwr := HB.out.size
          have hsz : w.heap.size ≤ w1.heap.size := by have h1 := HB1.out.size; have h2 := HB2.out.size; omega
          have HF := Lib.hid (Far.of_own HO.out (Nat.le_refl _))
          go_wp2_with (at_builtin; refine app_byte w.heap.size u3 _ 1 1 (.tmp 17) (.tmp 21) rfl rfl rfl rfl HO2.out rfl (by omega) hsz ?_; intro v3 w3 hown3 hgr3; have HO3 := Lib.hid hown3; have HR3 := Lib.hid hgr3; have HG3 := Lib.hid (hgr3.blk HG2.out HF.out); have HF3 := Lib.hid (hgr3.far _ HG2.out.lt HF.out); have hsz3 := Nat.le_trans hsz hgr3.size; clear d0 d1 d2 hown3 hgr3; obtain ⟨d0, d1, d2, _, _, _⟩ := HG3.out.three)
          rw [flip_sign n hn0 hn1]
          have HEN := Lib.hid (show V.enc ⟨1, n, s⟩ = 1 :: encI n by simp [V.enc])
          have HES := Lib.hid (encI_succ n)
          have HBB := Lib.hid ((below_then (below_then HB.out HB1.out hwr) HB2.out (by rw [HZ.out]; omega)).trans HR3.out.below)
          have hEL := encI_length n
          have hEL8 : (encI n).length ≤ 8 := by omega
          clear hEL d0 d1 d2
          generalize (n + 9223372036854775808).toNat = N at HES ⊢
          obtain ⟨wo, hwo⟩ : ∃ wo : World, wo = wr := ⟨_, rfl⟩
          subst hwo
          go_loopw [3, 7] (fun b i w' => ∃ j : Nat, j ≤ 8 ∧ i = .int .i64 (56 - 8 * (j : Int)) ∧ OwnB w' w.heap.size b (encL (l.take k) ++ [1] ++ (encI n).take j) ∧ w.heap.size ≤ w'.heap.size ∧ Below w.heap.size w w') (fun _ i _ => (intOf i + 8).toNat)
          case atStart => exact ⟨0, by omega, by simp, by simpa using HO3.out, hsz3, HBB.out⟩
          case round =>
            obtain ⟨j, hj, rfl, hown4, hsz4, hb4⟩ := hrel
            have HO4 := Lib.hid hown4
            have HB4 := Lib.hid hb4
            clear hown4 hb4
            by_cases hj8 : j < 8
            · have htl : ((encI n).take j).length ≤ 8 := by rw [List.length_take]; omega
              have HEB := Lib.hid (enc_byte N (56 - 8 * j))
              go_wp2_with (at_builtin; refine app_byte w.heap.size _ _ _ (UInt8.ofNat (N / 2 ^ (56 - 8 * j) % 256)) (.tmp 41) (.tmp 46) rfl rfl rfl rfl HO4.out HEB.out ?hlen3 hsz4 ?_; rotate_left; intro v5 w5 hown5 hgr5; have HO5 := Lib.hid hown5; have HB5 := Lib.hid hgr5.below; have hsz5 := Nat.le_trans hsz4 hgr5.size; clear hown5 hgr5)
              case hlen3 => simp at htl ⊢; omega
              go_roundw
              case rel =>
                refine ⟨j + 1, by omega, by go_num, ?_, hsz5, HB4.out.trans HB5.out⟩
                rw [HES.out j hj8, ← List.append_assoc]; exact HO5.out
              case measure => simp [intOf]; omega
            · obtain rfl : j = 8 := by omega
              go_wp2
              go_roundw
              case rel =>
                refine ⟨k + 1, by omega, by go_num, by rw [HK.out, HA.out]; exact HOK.out, ?_, ?_, HB4.out⟩
                · have e : encL (l.take (k + 1)) = encL (l.take k) ++ [1] ++ (encI n).take 8 := by
                    rw [HS.out, HEN.out, List.take_of_length_le hEL8]; simp
                  rw [e]; exact HO4.out
                · rw [HS.out, HEN.out]; simp; omega
              case measure => simp [intOf]; omega
    · have HL := Lib.hid (show l.all V.ok = true by have := HA.out; rwa [List.take_of_length_le (by omega)] at this)
      go_wp2
      go_ret
      refine ⟨_, rfl, fun _ => ?_, fun hc => ?_, HB.out⟩
      · have := HO.out; rwa [List.take_of_length_le (by omega)] at this
      · rw [HL.out] at hc; cases hc
end Go.Proofs.YtpjfkhbdhdolfaaDoor
