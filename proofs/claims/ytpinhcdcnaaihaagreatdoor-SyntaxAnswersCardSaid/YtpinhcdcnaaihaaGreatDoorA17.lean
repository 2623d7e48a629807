import Derived.Test.YtpinhcdcnaaihaaGreatDoorA16
namespace Go.Proofs.YtpinhcdcnaaihaaGreatDoor
open Go.RowKit
def ShlInv (w : World) (n sz : Nat) (ds : List Nat) (c i : Value) (wr : World) : Prop :=
  ∃ (k cy : Nat) (out : List Nat), k ≤ ds.length ∧ i = .int .i64 k ∧ c = .int .u32 cy ∧ cy < 2 ^ n ∧ out.length = k ∧ Digs out ∧ OwnN wr w.heap.size (.slice (some ⟨w.heap.size, 0, none⟩) sz sz) (out ++ List.replicate (sz - k) 0) ∧ nval out + cy * 4294967296 ^ k = 2 ^ n * nval (ds.take k) ∧ Below w.heap.size w wr ∧ w.heap.size < wr.heap.size
def ShlPost (w : World) (n sz : Nat) (ds : List Nat) (e : Ending) (w' : World) : Prop :=
  ∃ out cy, e = .returned (.slice (some ⟨w.heap.size, 0, none⟩) sz sz) ∧ OwnN w' w.heap.size (.slice (some ⟨w.heap.size, 0, none⟩) sz sz) out ∧ Digs out ∧ out.length = sz ∧ (sz = ds.length + 1 → cy = 0) ∧ nval out + cy * 4294967296 ^ sz = 2 ^ n * nval ds ∧ Below w.heap.size w w'
theorem shl_small {n cy : Nat} (hn : n < 32) (hc : cy < 2 ^ n) : cy < 4294967296 := by
  have h1 : (2 : Nat) ^ n ≤ 2 ^ 32 := Nat.pow_le_pow_right (by decide) (by omega)
  have h2 : (2 : Nat) ^ 32 = 4294967296 := by decide
  omega
theorem ShlInv.next {w wr : World} {n sz k cy x : Nat} {ds out : List Nat} {i : Int} (hn : n < 32) (hsz : sz = ds.length ∨ sz = ds.length + 1) (hk : k < ds.length) (hx : ds[k] = x) (hx32 : x < 4294967296) (hol : out.length = k) (hod : Digs out) (hc : cy < 2 ^ n) (hox : OwnN wr w.heap.size (.slice (some ⟨w.heap.size, 0, none⟩) sz sz) (out ++ List.replicate (sz - k) 0)) (he : nval out + cy * 4294967296 ^ k = 2 ^ n * nval (ds.take k)) (hb : Below w.heap.size w wr) (hs : w.heap.size < wr.heap.size) (hi : i = ((k + 1 : Nat) : Int)) :
    ShlInv w n sz ds (.int .u32 ((x : Int) / 2 ^ (32 - n) % 4294967296)) (.int .i64 i) (wr.setCell ⟨w.heap.size, k, none⟩ (.int .u32 (bits .or .u32 ((x : Int) * 2 ^ n % 4294967296) (cy : Int)))) := by
  subst hi
  obtain ⟨h1, h2⟩ := shl_low (d := x) hn hc
  have h3 := shl_carry hn hx32
  have hcy := shl_small hn hc
  have h4 := shl_small hn h3
  have e1 : ((x : Int) * 2 ^ n % 4294967296) = ((x * 2 ^ n % 4294967296 : Nat) : Int) := by simp
  have e2 : ((x : Int) / 2 ^ (32 - n) % 4294967296) = ((x / 2 ^ (32 - n) : Nat) : Int) := by
    have : ((x / 2 ^ (32 - n) : Nat) : Int) = (x : Int) / 2 ^ (32 - n) := by simp
    rw [← this]
    clear e1 this
    generalize x / 2 ^ (32 - n) = q at *
    omega
  rw [e1, e2, u32_or_nat _ _ (Nat.mod_lt _ (by decide)) hcy, h1]
  refine ⟨k + 1, _, out ++ [x * 2 ^ n % 4294967296 + cy], hk, rfl, rfl, h3, by simp [hol], digs_snoc hod h2, ?_, ?_, hb.setCell (p := ⟨w.heap.size, k, none⟩) (Nat.le_refl _) _, by simpa [World.setCell] using hs⟩
  · have := hox.put (i := k) (by simp [hol]; omega) _ (x * 2 ^ n % 4294967296 + cy) rfl
    rw [show sz - k = sz - (k + 1) + 1 by omega, row_put _ _ _ _ hol] at this
    exact this
  · rw [snoc_val out _ k hol, take_val ds k hk, hx, Nat.pow_succ]
    exact shl_step hn he
set_option maxRecDepth 100000 in
set_option maxHeartbeats 4000000 in
theorem shl_any (A : Option Addr) (c : Nat) (ds : List Nat) (n sz : Nat) (w : World) (h : IsN w A c ds) (hl : ds.length ≤ 1048577) (hn : n < 32) (hsz : sz = ds.length ∨ sz = ds.length + 1) :
    Calls Tryz.prog 247 #[.slice A ds.length c, .int .u64 n, .int .i64 sz] w (ShlPost w n sz ds) := by
  have HI := Lib.hid h
  clear h
  obtain ⟨W, hmk, hoW, hbW, hzW⟩ := make_nats w sz (by omega)
  have hmk := hmk .i64 .i64
  have HOW := Lib.hid hoW
  have HBW := Lib.hid hbW
  have hzW' : w.heap.size < W.heap.size := by omega
  clear hoW hbW hzW
  go_enter Tryz.func247, Tryz.ntmps247
  go_wp2
  clear hmk
  go_loopw [8, 15] (fun cr i wr => ShlInv w n sz ds cr i wr) (fun _ i _ => ds.length - (intOf i).toNat)
  case atStart => exact ⟨0, 0, [], Nat.zero_le _, rfl, rfl, Nat.pow_pos (by decide), rfl, fun d hd => by simp at hd, by simpa using HOW.out, by simp [nval], HBW.out, hzW'⟩
  case round =>
    obtain ⟨k, cy, out, hk, rfl, rfl, hc, hol, hod, hox, heq, hbw, hsr⟩ := hrel
    have HOX := Lib.hid hox
    have HQ := Lib.hid heq
    have HBW2 := Lib.hid hbw
    have HOL := Lib.hid hol
    have HOD := Lib.hid hod
    have HC := Lib.hid hc
    clear hox heq hbw hol hod hc
    by_cases hlt : k < ds.length
    · obtain ⟨bx, ox, rfl, hbx, hcx⟩ := (HI.out.below HBW2.out).digit hlt
      have cx := hcx k hlt
      have hx32 := HI.out.lt hlt
      obtain ⟨x, hx⟩ : ∃ x, ds[k] = x := ⟨_, rfl⟩
      rw [hx] at cx hx32
      have HX := Lib.hid hx
      have hfr := HOX.out.free k
      have hce := HOX.out.cell (i := k) (by have := HOL.out; simp; omega)
      obtain ⟨old, hold⟩ : ∃ old, (out ++ List.replicate (sz - k) 0)[k]'(by have := HOL.out; simp; omega) = old := ⟨_, rfl⟩
      rw [hold] at hce
      clear hcx hx hold
      go_wp2
      go_roundw
      case rel => exact ShlInv.next hn hsz hlt HX.out hx32 HOL.out HOD.out HC.out HOX.out HQ.out HBW2.out hsr (by omega)
      case measure => simp [intOf]; omega
    · obtain rfl : k = ds.length := by omega
      by_cases hs1 : ds.length < sz
      · have hfr := HOX.out.free ds.length
        have hce := HOX.out.cell (i := ds.length) (by have := HOL.out; simp; omega)
        obtain ⟨old, hold⟩ : ∃ old, (out ++ List.replicate (sz - ds.length) 0)[ds.length]'(by have := HOL.out; simp; omega) = old := ⟨_, rfl⟩
        rw [hold] at hce
        clear hold
        have hcy32 : cy < 4294967296 := shl_small hn HC.out
        have h3 := HOX.out.put (i := ds.length) (by have := HOL.out; simp; omega) (cy : Int) cy rfl
        rw [show sz - ds.length = 0 + 1 by omega, row_put _ _ _ _ HOL.out, List.replicate_zero, List.append_nil] at h3
        have HO3 := Lib.hid h3
        have HD3 := Lib.hid (digs_snoc HOD.out hcy32)
        have HV3 : Hid (nval (out ++ [cy]) = 2 ^ n * nval ds) := by
          show _ = _
          have := HQ.out
          rw [List.take_length] at this
          rw [snoc_val out cy ds.length HOL.out, Nat.mul_comm]
          exact this
        have HB3 := Lib.hid (HBW2.out.setCell (p := ⟨w.heap.size, ds.length, none⟩) (Nat.le_refl _) (.int .u32 (cy : Int)))
        clear h3
        go_wp2
        go_ret
        exact ⟨out ++ [cy], 0, rfl, HO3.out, HD3.out, by have := HOL.out; simp; omega, fun _ => rfl, by rw [HV3.out]; simp, HB3.out⟩
      · obtain rfl : sz = ds.length := by omega
        have HO3 := Lib.hid (show OwnN wr w.heap.size (.slice (some ⟨w.heap.size, 0, none⟩) ds.length ds.length) out by have := HOX.out; rwa [Nat.sub_self, List.replicate_zero, List.append_nil] at this)
        go_wp2
        go_ret
        exact ⟨out, cy, rfl, HO3.out, HOD.out, HOL.out, fun h => by omega, by have := HQ.out; rwa [List.take_length] at this, HBW2.out⟩
def ShrInv (w : World) (n : Nat) (ds : List Nat) (i : Value) (wr : World) : Prop :=
  ∃ k : Nat, k ≤ ds.length ∧ i = .int .i64 k ∧ OwnN wr w.heap.size (.slice (some ⟨w.heap.size, 0, none⟩) ds.length ds.length) ((shr n ds).take k ++ List.replicate (ds.length - k) 0) ∧ Below w.heap.size w wr ∧ w.heap.size < wr.heap.size
theorem shr_row {n k g : Nat} {ds : List Nat} (hk : k < ds.length) (hg : ∀ h : k < (shr n ds).length, (shr n ds)[k] = g) : ((shr n ds).take k ++ List.replicate (ds.length - k) 0).set k g = (shr n ds).take (k + 1) ++ List.replicate (ds.length - (k + 1)) 0 := by
  have hsl := shr_length n ds
  rw [show ds.length - k = ds.length - (k + 1) + 1 by omega, row_put _ _ _ _ (by rw [List.length_take, hsl]; omega), List.take_succ_eq_append_getElem (by omega), hg (by omega)]
theorem ShrInv.next {w wr : World} {n k g : Nat} {z i : Int} {ds : List Nat} (hk : k < ds.length) (hg : ∀ h : k < (shr n ds).length, (shr n ds)[k] = g) (hox : OwnN wr w.heap.size (.slice (some ⟨w.heap.size, 0, none⟩) ds.length ds.length) ((shr n ds).take k ++ List.replicate (ds.length - k) 0)) (hb : Below w.heap.size w wr) (hs : w.heap.size < wr.heap.size) (hz : z = (g : Int)) (hi : i = ((k + 1 : Nat) : Int)) :
    ShrInv w n ds (.int .i64 i) (wr.setCell ⟨w.heap.size, k, none⟩ (.int .u32 z)) := by
  subst hi
  refine ⟨k + 1, hk, rfl, ?_, hb.setCell (p := ⟨w.heap.size, k, none⟩) (Nat.le_refl _) _, by simpa [World.setCell] using hs⟩
  have := hox.put (i := k) (by simp [shr_length]; omega) z g hz
  rwa [shr_row hk hg] at this
theorem ShrInv.next2 {w wr : World} {n k g x : Nat} {z i : Int} {ds : List Nat} (hk : k < ds.length) (hg : ∀ h : k < (shr n ds).length, (shr n ds)[k] = g) (hox : OwnN wr w.heap.size (.slice (some ⟨w.heap.size, 0, none⟩) ds.length ds.length) ((shr n ds).take k ++ List.replicate (ds.length - k) 0)) (hb : Below w.heap.size w wr) (hs : w.heap.size < wr.heap.size) (hz : z = (g : Int)) (hi : i = ((k + 1 : Nat) : Int)) :
    ShrInv w n ds (.int .i64 i) ((wr.setCell ⟨w.heap.size, k, none⟩ (.int .u32 ((x : Int) / 2 ^ n))).setCell ⟨w.heap.size, k, none⟩ (.int .u32 z)).drew := by
  subst hi
  have hb2 := (hb.setCell (p := ⟨w.heap.size, k, none⟩) (Nat.le_refl _) (.int .u32 ((x : Int) / 2 ^ n))).setCell (p := ⟨w.heap.size, k, none⟩) (Nat.le_refl _) (.int .u32 z)
  refine ⟨k + 1, hk, rfl, ?_, hb2.drew, by simpa [World.setCell] using hs⟩
  have h1 := hox.put (i := k) (by simp [shr_length]; omega) ((x : Int) / 2 ^ n) (x / 2 ^ n) (by simp)
  have h2 := h1.put (i := k) (by simp [shr_length]; omega) z g hz
  rw [List.set_set, shr_row hk hg] at h2
  exact h2.below ((Below.refl _ _).drew)
theorem shr_last {n k x : Nat} {ds : List Nat} (hk : k < ds.length) (hx : ds[k] = x) (h1 : ¬ k + 1 < ds.length) : ∀ h : k < (shr n ds).length, (shr n ds)[k] = x / 2 ^ n := fun h => by
  rw [shr_get n ds k hk h, hx, List.drop_of_length_le (by omega)]; simp
theorem shr_mid {n k x y : Nat} {ds : List Nat} (hn : n < 32) (hk : k < ds.length) (hx : ds[k] = x) (hx32 : x < 4294967296) (h1 : k + 1 < ds.length) (hy : ds[k + 1] = y) (hy32 : y < 4294967296) :
    ∃ g : Nat, (∀ h : k < (shr n ds).length, (shr n ds)[k] = g) ∧ bits .or .u32 ((x : Int) / 2 ^ n) (IntKind.u64.wrap ((y : Int) * 2 ^ (32 - n)) % 4294967296) = (g : Int) := by
  have e := pow32 hn
  have hp : 0 < 2 ^ n := Nat.pow_pos (by decide)
  have hp2 : 0 < 2 ^ (32 - n) := Nat.pow_pos (by decide)
  refine ⟨x / 2 ^ n + y % 2 ^ n * 2 ^ (32 - n), fun h => ?_, ?_⟩
  · rw [shr_get n ds k hk h, hx, List.drop_eq_getElem_cons h1, hy]; rfl
  · have h2 : x / 2 ^ n < 2 ^ (32 - n) := by rw [Nat.div_lt_iff_lt_mul hp, Nat.mul_comm, e]; exact hx32
    have h3 : y * 2 ^ (32 - n) % 4294967296 = y % 2 ^ n * 2 ^ (32 - n) := by rw [← e, Nat.mul_mod_mul_right]
    have h4 : y % 2 ^ n * 2 ^ (32 - n) < 4294967296 := by rw [← h3]; exact Nat.mod_lt _ (by decide)
    have h5 : x / 2 ^ n ≤ x := Nat.div_le_self _ _
    have h6 : 2 ^ (32 - n) ≤ 4294967296 := by rw [← e]; exact Nat.le_mul_of_pos_left _ hp
    have h7 : y * 2 ^ (32 - n) ≤ 4294967295 * 4294967296 := Nat.mul_le_mul (by omega) h6
    have e1 : ((x : Int) / 2 ^ n) = ((x / 2 ^ n : Nat) : Int) := by simp
    have e2 : ((y : Int) * 2 ^ (32 - n)) = ((y * 2 ^ (32 - n) : Nat) : Int) := by simp
    have e3 : IntKind.u64.wrap ((y * 2 ^ (32 - n) : Nat) : Int) % 4294967296 = ((y % 2 ^ n * 2 ^ (32 - n) : Nat) : Int) := by
      rw [IntKind.wrap_u64, ← h3]
      generalize y * 2 ^ (32 - n) = q at *
      omega
    rw [e1, e2, e3, u32_or_nat _ _ (by omega) h4, Nat.or_comm, ← Nat.shiftLeft_eq, ← Nat.shiftLeft_add_eq_or_of_lt h2, Nat.shiftLeft_eq, Nat.add_comm]
set_option maxRecDepth 100000 in
set_option maxHeartbeats 4000000 in
theorem shr_any (A : Option Addr) (c : Nat) (ds : List Nat) (n : Nat) (w : World) (h : IsN w A c ds) (hl : ds.length ≤ 1048577) (hn : n < 32) :
    Calls Tryz.prog 251 #[.slice A ds.length c, .int .u64 n] w (Gives (fun W v => IsD W v (nval ds / 2 ^ n)) w) := by
  have HI := Lib.hid h
  clear h
  obtain ⟨W, hmk, hoW, hbW, hzW⟩ := make_nats w ds.length (by omega)
  have hmk := hmk .i64 .i64
  have HOW := Lib.hid hoW
  have HBW := Lib.hid hbW
  have hzW' : w.heap.size < W.heap.size := by omega
  clear hoW hbW hzW
  go_enter Tryz.func251, Tryz.ntmps251
  go_wp2
  clear hmk
  go_loopw [13] (fun i wr => ShrInv w n ds i wr) (fun i _ => ds.length - (intOf i).toNat)
  case atStart => exact ⟨0, Nat.zero_le _, rfl, by simpa using HOW.out, HBW.out, hzW'⟩
  case round =>
    obtain ⟨k, hk, rfl, hox, hbw, hsr⟩ := hrel
    have HOX := Lib.hid hox
    have HBW2 := Lib.hid hbw
    clear hox hbw
    have hsl := shr_length n ds
    by_cases hlt : k < ds.length
    · obtain ⟨bx, ox, rfl, hbx, hcx⟩ := (HI.out.below HBW2.out).digit hlt
      have cx := hcx k hlt
      have hx32 := HI.out.lt hlt
      obtain ⟨x, hx⟩ : ∃ x, ds[k] = x := ⟨_, rfl⟩
      rw [hx] at cx hx32
      have HX := Lib.hid hx
      have hfr := HOX.out.free k
      have hlen : ((shr n ds).take k ++ List.replicate (ds.length - k) 0).length = ds.length := by simp [hsl]; omega
      have hce := HOX.out.cell (i := k) (by omega)
      obtain ⟨old, hold⟩ : ∃ old, ((shr n ds).take k ++ List.replicate (ds.length - k) 0)[k]'(by omega) = old := ⟨_, rfl⟩
      rw [hold] at hce
      clear hx hold
      by_cases hk1 : k + 1 < ds.length
      · have cy := hcx (k + 1) hk1
        have hy32 := HI.out.lt hk1
        obtain ⟨y, hy⟩ : ∃ y, ds[k + 1] = y := ⟨_, rfl⟩
        rw [hy] at cy hy32
        have HY := Lib.hid hy
        obtain ⟨g, hg1, hg2⟩ := shr_mid hn hlt HX.out hx32 hk1 hy hy32
        have HG1 := Lib.hid hg1
        have HG2 := Lib.hid hg2
        clear hcx hy hg1 hg2
        go_wp2
        go_region
        go_wp2
        go_roundw
        case rel => exact ShrInv.next2 hlt HG1.out HOX.out HBW2.out hsr HG2.out (by omega)
        case measure => simp [intOf]; omega
      · clear hcx
        go_wp2
        go_roundw
        case rel => exact ShrInv.next hlt (shr_last hlt HX.out hk1) HOX.out HBW2.out hsr (by simp) (by omega)
        case measure => simp [intOf]; omega
    · obtain rfl : k = ds.length := by omega
      have h1 : OwnN wr w.heap.size (.slice (some ⟨w.heap.size, 0, none⟩) ds.length ds.length) (shr n ds) := by
        have := HOX.out
        rwa [Nat.sub_self, List.replicate_zero, List.append_nil, List.take_of_length_le (by omega)] at this
      obtain ⟨h4, h5⟩ := h1.isN (shr_digs hn ds HI.out.ok)
      have HT := Lib.hid (trimL h4 h5 (by omega) (shr_val hn ds))
      clear h1 h4 h5
      go_wp2_with fail
      refine HT.out.mono ?_
      rintro e w5 ⟨v5, rfl, hd5, hb5⟩
      have HD5 := Lib.hid hd5
      have HB5 := Lib.hid (below_then HBW2.out hb5 HBW2.out.size)
      clear hd5 hb5
      go_wp2
      go_ret
      exact ⟨_, rfl, HD5.out, HB5.out⟩
end Go.Proofs.YtpinhcdcnaaihaaGreatDoor
namespace Go.Proofs.YtpinhcdcnaaihaaGreatDoor
open Go.RowKit
theorem guess_start {X V P v1 v2 vl u2 xl top : Nat} (hX : X = (top * 4294967296 + u2) * P + xl) (hxl : xl < P) (hu2 : u2 < 4294967296) (hV : V = (v1 * 4294967296 + v2) * P + vl) (hv1 : 0 < v1) : X / V ≤ top / v1 := by
  have hm := Nat.div_add_mod top v1
  have hl := Nat.mod_lt top hv1
  have h1 : top + 1 ≤ (top / v1 + 1) * v1 := by rw [Nat.add_mul, Nat.mul_comm]; omega
  have h2 : (top + 1) * (4294967296 * P) ≤ ((top / v1 + 1) * v1) * (4294967296 * P) := Nat.mul_le_mul_right _ h1
  have h3 : ((top / v1 + 1) * v1) * (4294967296 * P) ≤ (top / v1 + 1) * V := by
    rw [Nat.mul_assoc]
    refine Nat.mul_le_mul_left _ ?_
    rw [hV, ← Nat.mul_assoc]
    have : v1 * 4294967296 * P ≤ (v1 * 4294967296 + v2) * P := Nat.mul_le_mul_right _ (by omega)
    omega
  have h4 : X < (top + 1) * (4294967296 * P) := by
    have e : (top + 1) * (4294967296 * P) = (top * 4294967296 + 4294967296) * P := by rw [← Nat.mul_assoc, Nat.add_mul _ _ 4294967296]
    have h5 : (top * 4294967296 + u2 + 1) * P ≤ (top * 4294967296 + 4294967296) * P := Nat.mul_le_mul_right _ (by omega)
    rw [e, hX]
    rw [Nat.add_mul _ 1] at h5
    omega
  have hV0 : 0 < V := by
    have : 0 < P := by omega
    have : 1 * P ≤ (v1 * 4294967296 + v2) * P := Nat.mul_le_mul_right _ (by omega)
    omega
  have : X / V < top / v1 + 1 := (Nat.div_lt_iff_lt_mul hV0).2 (by omega)
  omega
theorem quo_low {t v : Nat} (hv : 0 < v) (h : t < 18446744073709551616) : (t : Int) / (v : Int) % 18446744073709551616 = ((t / v : Nat) : Int) := by
  have h1 : t / v ≤ t := Nat.div_le_self _ _
  rw [show ((t : Int) / (v : Int)) = ((t / v : Nat) : Int) by simp]
  generalize t / v = q at *
  omega
structure GuessD (X V P v1 v2 vl u0 u1 u2 xl : Nat) : Prop where
  hx : X = ((u0 * 4294967296 + u1) * 4294967296 + u2) * P + xl
  hxl : xl < P
  hv : V = (v1 * 4294967296 + v2) * P + vl
  hvl : vl < P
  hv1 : 2147483648 ≤ v1 ∧ v1 < 4294967296
  hv2 : v2 < 4294967296
  hu1 : u1 < 4294967296
  hu2 : u2 < 4294967296
  hu0 : u0 ≤ v1
  lt : X / V < 4294967296
def GuPost (w : World) (X V : Nat) (e : Ending) (w' : World) : Prop := ∃ g : Nat, e = .returned (.int .u64 g) ∧ X / V ≤ g ∧ g ≤ X / V + 1 ∧ g < 4294967296 ∧ Below w.heap.size w w'
def GuInv (w : World) (X V v1 top : Nat) (gv rv : Value) (wr : World) : Prop := ∃ g r : Nat, gv = .int .u64 g ∧ rv = .int .u64 r ∧ GuessI X V v1 top g r ∧ g < 8589934592 ∧ Below w.heap.size w wr
section
variable {X V P v1 v2 vl u0 u1 u2 xl g r : Nat}
theorem GuessD.stop (h : GuessD X V P v1 v2 vl u0 u1 u2 xl) (ht : u0 * 4294967296 + u1 = g * v1 + r) (hle : X / V ≤ g) (hg : g < 4294967296) (hn : g * v2 ≤ r * 4294967296 + u2) : X / V ≤ g ∧ g ≤ X / V + 1 ∧ g < 4294967296 :=
  ⟨hle, knuth_near h.hx h.hv h.hvl (by have := h.hv1; omega) ht hn hg, hg⟩
theorem GuessD.big (h : GuessD X V P v1 v2 vl u0 u1 u2 xl) (ht : u0 * 4294967296 + u1 = g * v1 + r) (hg : 4294967296 ≤ g) : (g = 4294967296 ∨ r + v1 < 4294967296) ∧ g * v1 = (g - 1) * v1 + v1 := by
  have hv := h.hv1
  have hu1 := h.hu1
  have h0 : u0 * 4294967296 ≤ v1 * 4294967296 := Nat.mul_le_mul_right _ h.hu0
  refine ⟨?_, ?_⟩
  · by_cases e : g = 4294967296
    · exact .inl e
    · right
      have h1 : 4294967297 * v1 ≤ g * v1 := Nat.mul_le_mul_right _ (by omega)
      omega
  · obtain ⟨k, rfl⟩ : ∃ k, g = k + 1 := ⟨g - 1, by omega⟩
    rw [Nat.add_sub_cancel, Nat.add_mul, Nat.one_mul]
theorem pred_mul {g v : Nat} (h : 0 < g) : g * v = (g - 1) * v + v := by
  obtain ⟨k, rfl⟩ : ∃ k, g = k + 1 := ⟨g - 1, by omega⟩
  rw [Nat.add_sub_cancel, Nat.add_mul, Nat.one_mul]
theorem GuessD.brk (h : GuessD X V P v1 v2 vl u0 u1 u2 xl) (ht : u0 * 4294967296 + u1 = g * v1 + r) (hle : X / V + 1 ≤ g) (hg : g ≤ 4294967296) (hr : 4294967296 ≤ r + v1) : X / V ≤ g - 1 ∧ g - 1 ≤ X / V + 1 ∧ g - 1 < 4294967296 := by
  have hg0 : 0 < g := Nat.lt_of_lt_of_le (Nat.succ_pos _) hle
  refine h.stop (r := r + v1) (by rw [ht, pred_mul hg0]; omega) (Nat.le_sub_one_of_lt hle) (by omega) ?_
  have h1 : (g - 1) * v2 ≤ 4294967295 * 4294967295 := Nat.mul_le_mul (by omega) (by have := h.hv2; omega)
  omega
theorem GuessD.over (h : GuessD X V P v1 v2 vl u0 u1 u2 xl) (ht : u0 * 4294967296 + u1 = g * v1 + r) (hn : r * 4294967296 + u2 < g * v2) : X / V + 1 ≤ g := by
  have h1 := knuth_over h.hx h.hxl h.hv ht hn
  have h2 : X / V < g := by
    rw [Nat.div_lt_iff_lt_mul]
    · exact h1
    · refine Nat.pos_of_ne_zero fun e => ?_
      rw [e, Nat.mul_zero] at h1; omega
  omega
theorem GuInv.start {w wr : World} {t : Nat} {zg zr : Int} (h : GuessD X V P v1 v2 vl u0 u1 u2 xl) (ht : u0 * 4294967296 + u1 = t) (h1 : zg = ((t / v1 : Nat) : Int)) (h2 : zr = ((t % v1 : Nat) : Int)) (hb : Below w.heap.size w wr) : GuInv w X V v1 t (.int .u64 zg) (.int .u64 zr) wr := by
  subst h1 h2
  have hv := h.hv1
  have hm := Nat.mod_lt t (show 0 < v1 by omega)
  refine ⟨_, _, rfl, rfl, ⟨by rw [Nat.mul_comm]; exact (Nat.div_add_mod t v1).symm, by omega, ?_⟩, ?_, hb⟩
  · rw [← ht]; exact guess_start h.hx h.hxl h.hu2 h.hv (by omega)
  · rw [Nat.div_lt_iff_lt_mul (by omega)]
    have := h.hu0
    have := h.hu1
    omega
theorem GuInv.next {w wr : World} {t : Nat} {zg zr : Int} (hI : GuessI X V v1 t g r) (hle : X / V + 1 ≤ g) (hg : g < 8589934592) (hr : r + v1 < 4294967296) (h1 : zg = (g : Int) - 1) (h2 : zr = (r : Int) + (v1 : Int)) (hb : Below w.heap.size w wr) : GuInv w X V v1 t (.int .u64 zg) (.int .u64 zr) wr := by
  have hg0 : 0 < g := Nat.lt_of_lt_of_le (Nat.succ_pos _) hle
  subst h1 h2
  refine ⟨g - 1, r + v1, by congr 1; omega, by congr 1, ⟨by rw [hI.1, pred_mul hg0]; omega, hr, Nat.le_sub_one_of_lt hle⟩, by omega, hb⟩
end
set_option maxRecDepth 100000 in
set_option maxHeartbeats 8000000 in
theorem guess_any (A B : Option Addr) (ca cb : Nat) (us vs : List Nat) (n : Nat) (w : World) (hA : IsN w A ca us) (hB : IsN w B cb vs) (hg : Guess us vs n) (hn : n ≤ 1048577) :
    Calls Tryz.prog 248 #[.slice A us.length ca, .slice B vs.length cb] w (GuPost w (nval us) (nval vs)) := by
  have HI1 := Lib.hid hA
  have HI2 := Lib.hid hB
  have hn2 := hg.n2
  have hlu := hg.lu
  have hlv := hg.lv
  clear hA hB
  obtain ⟨b1, o1, rfl, hb1, hc1⟩ := HI1.out.digit (i := n) (by omega)
  obtain ⟨b2, o2, rfl, hb2, hc2⟩ := HI2.out.digit (i := n - 1) (by omega)
  have c0 := hc1 n (by omega)
  have c1 := hc1 (n - 1) (by omega)
  have c2 := hc1 (n - 2) (by omega)
  have d1 := hc2 (n - 1) (by omega)
  have d2 := hc2 (n - 2) (by omega)
  clear hc1 hc2
  obtain ⟨px, pxl, pv, pvl⟩ := hg.parts (by omega) (by omega) (by omega) (by omega) (by omega)
  have pf := hg.first (by omega) (by omega)
  have hu1 : us[n - 1]'(by omega) < 4294967296 := hg.du.get _ (by omega)
  have hu2 : us[n - 2]'(by omega) < 4294967296 := hg.du.get _ (by omega)
  have hv1 : vs[n - 1]'(by omega) < 4294967296 := hg.dv.get _ (by omega)
  have hv2 : vs[n - 2]'(by omega) < 4294967296 := hg.dv.get _ (by omega)
  have htp := hg.top (by omega)
  have hXV : nval us / nval vs < 4294967296 := by
    have := hg.lt
    rw [Nat.div_lt_iff_lt_mul (by
      refine Nat.pos_of_ne_zero fun e => ?_
      rw [e] at this; omega)]
    exact this
  obtain ⟨x0, e0⟩ : ∃ x, us[n]'(by omega) = x := ⟨_, rfl⟩
  obtain ⟨x1, e1⟩ : ∃ x, us[n - 1]'(by omega) = x := ⟨_, rfl⟩
  obtain ⟨x2, e2⟩ : ∃ x, us[n - 2]'(by omega) = x := ⟨_, rfl⟩
  obtain ⟨y1, f1⟩ : ∃ x, vs[n - 1]'(by omega) = x := ⟨_, rfl⟩
  obtain ⟨y2, f2⟩ : ∃ x, vs[n - 2]'(by omega) = x := ⟨_, rfl⟩
  rw [e0] at c0 px pf
  rw [e1] at c1 px hu1
  rw [e2] at c2 px hu2
  rw [f1] at d1 pv pf hv1 htp
  rw [f2] at d2 pv hv2
  have HD : Hid (GuessD (nval us) (nval vs) (4294967296 ^ (n - 2)) y1 y2 (nval (vs.take (n - 2))) x0 x1 x2 (nval (us.take (n - 2)))) := ⟨px, pxl, pv, pvl, ⟨htp, hv1⟩, hv2, hu1, hu2, pf, hXV⟩
  clear px pxl pv pvl hXV e0 e1 e2 f1 f2 hg
  obtain ⟨X, hX⟩ : ∃ X, nval us = X := ⟨_, rfl⟩
  obtain ⟨V, hV⟩ : ∃ V, nval vs = V := ⟨_, rfl⟩
  rw [hX, hV] at HD ⊢
  clear hX hV
  have hor := or_hi x0 x1 (by omega) hu1
  rw [show (((x0 * 4294967296 : Nat)) : Int) = (x0 : Int) * 4294967296 by omega] at hor
  have ht64 : x0 * 4294967296 + x1 < 18446744073709551616 := by omega
  obtain ⟨t, ht⟩ : ∃ t, x0 * 4294967296 + x1 = t := ⟨_, rfl⟩
  rw [ht] at hor ht64
  have HT := Lib.hid ht
  have hy0 : ((y1 : Int) == 0) = false := by rw [beq_eq_false_iff_ne]; omega
  rw [hlu, hlv]
  have g1 : (0 : Int) ≤ (n : Int) - 1 := by omega
  have g2 : ((n : Int) - 1).toNat = n - 1 := by omega
  have g3 : (0 : Int) ≤ (n : Int) - 2 := by omega
  have g4 : ((n : Int) - 2).toNat = n - 2 := by omega
  clear ht
  go_enter Tryz.func248, Tryz.ntmps248
  go_wp2
  go_quiet (fail)
  go_wp2
  go_loopw [7, 8] (fun gv rv wr => GuInv w X V y1 t gv rv wr) (fun gv _ _ => (intOf gv).toNat)
  case atStart => exact GuInv.start HD.out HT.out (by rw [IntKind.wrap_u64]; exact quo_low (by omega) ht64) (by simp) (below_drewN (Below.refl _ _))
  case round =>
    obtain ⟨g, r, rfl, rfl, hI, hg33, hbw⟩ := hrel
    have HI := Lib.hid hI
    have HBW := Lib.hid hbw
    have hr32 := hI.2.1
    have C2 := (HBW.out.cell (p := ⟨b1, o1 + (n - 2), none⟩) hb1).trans c2
    have D1 := (HBW.out.cell (p := ⟨b2, o2 + (n - 1), none⟩) hb2).trans d1
    have D2 := (HBW.out.cell (p := ⟨b2, o2 + (n - 2), none⟩) hb2).trans d2
    clear hI hbw
    by_cases hgb : 4294967296 ≤ g
    · have hd : decide ((g : Int) ≥ 4294967296) = true := decide_eq_true (by omega)
      have HLE := Lib.hid (show X / V + 1 ≤ g by have := HD.out.lt; exact Nat.le_trans (Nat.succ_le_of_lt this) hgb)
      have hg0 : 0 < g := Nat.lt_of_lt_of_le (Nat.succ_pos _) HLE.out
      have hbig := (HD.out.big (by rw [HT.out]; exact HI.out.1) hgb).1
      go_wp2
      go_quiet (fail)
      by_cases hr : 4294967296 ≤ r + y1
      · have HP := Lib.hid (HD.out.brk (g := g) (r := r) (by rw [HT.out]; exact HI.out.1) HLE.out (by omega) hr)
        have q1 : IntKind.u64.wrap ((g : Int) - 1) = (g : Int) - 1 := by rw [IntKind.wrap_u64]; omega
        have q2 : IntKind.u64.wrap ((r : Int) + (y1 : Int)) = (r : Int) + (y1 : Int) := by rw [IntKind.wrap_u64]; omega
        have q3 : decide ((r : Int) + (y1 : Int) ≥ 4294967296) = true := decide_eq_true (by omega)
        have HG1 := Lib.hid (show ((g - 1 : Nat) : Int) = (g : Int) - 1 by omega)
        clear hg33 hgb hr hd hg0
        go_wp2
        go_ret
        exact ⟨g - 1, by rw [HG1.out]; rfl, HP.out.1, HP.out.2.1, HP.out.2.2, by first | exact below_drewN HBW.out | exact below_drewN (below_drewN HBW.out)⟩
      · have q1 : IntKind.u64.wrap ((g : Int) - 1) = (g : Int) - 1 := by rw [IntKind.wrap_u64]; omega
        have q2 : IntKind.u64.wrap ((r : Int) + (y1 : Int)) = (r : Int) + (y1 : Int) := by rw [IntKind.wrap_u64]; omega
        have q3 : decide ((r : Int) + (y1 : Int) ≥ 4294967296) = false := decide_eq_false (by omega)
        have HG1 := Lib.hid (show (intOf (.int .u64 ((g : Int) - 1))).toNat < (intOf (.int .u64 (g : Int))).toNat by simp [intOf]; omega)
        have HN := Lib.hid (fun zg zr wr' => GuInv.next (w := w) (wr := wr') (zg := zg) (zr := zr) HI.out HLE.out hg33 (by omega : r + y1 < 4294967296))
        clear hg33 hgb hr hd hg0
        go_wp2
        go_roundw
        case rel => exact HN.out _ _ _ rfl rfl (by first | exact below_drewN HBW.out | exact below_drewN (below_drewN HBW.out))
        case measure => exact HG1.out
    · have hd : decide ((g : Int) ≥ 4294967296) = false := decide_eq_false (by omega)
      have hmx : g * y2 ≤ 4294967295 * 4294967295 := Nat.mul_le_mul (by omega) (by omega)
      obtain ⟨m, hm⟩ : ∃ m, g * y2 = m := ⟨_, rfl⟩
      rw [hm] at hmx
      have hmi : IntKind.u64.wrap ((g : Int) * (y2 : Int)) = (m : Int) := by
        rw [show (g : Int) * (y2 : Int) = (m : Int) by rw [← hm]; simp, IntKind.wrap_u64]; omega
      have hor2 := or_hi r x2 hr32 hu2
      rw [show (((r * 4294967296 : Nat)) : Int) = (r : Int) * 4294967296 by omega] at hor2
      have hrq : IntKind.u64.wrap ((r : Int) * 4294967296) = (r : Int) * 4294967296 := by rw [IntKind.wrap_u64]; omega
      have hq64 : r * 4294967296 + x2 < 18446744073709551616 := by omega
      obtain ⟨q, hq⟩ : ∃ q, r * 4294967296 + x2 = q := ⟨_, rfl⟩
      rw [hq] at hor2 hq64
      have HM := Lib.hid hm
      have HQ := Lib.hid hq
      clear hm hq
      by_cases hn : q < m
      · have hd2 : decide ((m : Int) > (q : Int)) = true := decide_eq_true (by omega)
        have HLE := Lib.hid (HD.out.over (g := g) (r := r) (by rw [HT.out]; exact HI.out.1) (by rw [HQ.out, HM.out]; exact hn))
        have hg0 : 0 < g := Nat.lt_of_lt_of_le (Nat.succ_pos _) HLE.out
        go_wp2
        go_quiet (fail)
        clear hd2 hn hmi hor2 hrq hq64 hmx
        by_cases hr : 4294967296 ≤ r + y1
        · have HP := Lib.hid (HD.out.brk (g := g) (r := r) (by rw [HT.out]; exact HI.out.1) HLE.out (by omega) hr)
          have q1 : IntKind.u64.wrap ((g : Int) - 1) = (g : Int) - 1 := by rw [IntKind.wrap_u64]; omega
          have q2 : IntKind.u64.wrap ((r : Int) + (y1 : Int)) = (r : Int) + (y1 : Int) := by rw [IntKind.wrap_u64]; omega
          have q3 : decide ((r : Int) + (y1 : Int) ≥ 4294967296) = true := decide_eq_true (by omega)
          have HG1 := Lib.hid (show ((g - 1 : Nat) : Int) = (g : Int) - 1 by omega)
          clear hg33 hgb hr hd hg0
          go_wp2
          go_ret
          exact ⟨g - 1, by rw [HG1.out]; rfl, HP.out.1, HP.out.2.1, HP.out.2.2, by first | exact below_drewN HBW.out | exact below_drewN (below_drewN HBW.out)⟩
        · have q1 : IntKind.u64.wrap ((g : Int) - 1) = (g : Int) - 1 := by rw [IntKind.wrap_u64]; omega
          have q2 : IntKind.u64.wrap ((r : Int) + (y1 : Int)) = (r : Int) + (y1 : Int) := by rw [IntKind.wrap_u64]; omega
          have q3 : decide ((r : Int) + (y1 : Int) ≥ 4294967296) = false := decide_eq_false (by omega)
          have HG1 := Lib.hid (show (intOf (.int .u64 ((g : Int) - 1))).toNat < (intOf (.int .u64 (g : Int))).toNat by simp [intOf]; omega)
          have HN := Lib.hid (fun zg zr wr' => GuInv.next (w := w) (wr := wr') (zg := zg) (zr := zr) HI.out HLE.out hg33 (by omega : r + y1 < 4294967296))
          clear hg33 hgb hr hd hg0
          go_wp2
          go_roundw
          case rel => exact HN.out _ _ _ rfl rfl (by first | exact below_drewN HBW.out | exact below_drewN (below_drewN HBW.out))
          case measure => exact HG1.out
      · have hd2 : decide ((m : Int) > (q : Int)) = false := decide_eq_false (by omega)
        have HP := Lib.hid (HD.out.stop (g := g) (r := r) (by rw [HT.out]; exact HI.out.1) HI.out.2.2 (by omega) (by rw [HQ.out, HM.out]; omega))
        go_wp2
        go_quiet (fail)
        clear hd2 hn hmi hor2 hrq hq64 hmx hg33 hgb hd
        go_wp2
        go_ret
        exact ⟨g, rfl, HP.out.1, HP.out.2.1, HP.out.2.2, by first | exact below_drewN HBW.out | exact below_drewN (below_drewN HBW.out)⟩
end Go.Proofs.YtpinhcdcnaaihaaGreatDoor
