/-
  credenceref1.double and half, walked.
-/
import Derived.Test.YtpjfkhbdhdolfaaDoorNatc
import Derived.Laws.BitsAllLaws
namespace Go.Proofs.YtpjfkhbdhdolfaaDoor
open Go.RowKit

theorem or_low (a b : Nat) (ha : a < 4294967296) (hb : b ≤ 1) (he : a % 2 = 0) : bits .or .u32 (a : Int) (b : Int) = ((a + b : Nat) : Int) := by
  rw [u32_or_nat a b ha (by omega)]
  have h : a ||| b = a + b := by
    have := Nat.shiftLeft_add_eq_or_of_lt (i := 1) (b := b) (by omega) (a / 2)
    rw [Nat.shiftLeft_eq] at this
    rw [show a / 2 * 2 ^ 1 = a by omega] at this
    exact this.symm
  rw [h]
def DblInv (w : World) (ds : List Nat) (bit : Nat) (v c i : Value) (wr : World) : Prop :=
  ∃ (k cy : Nat) (o : List Nat), k ≤ ds.length ∧ i = .int .i64 k ∧ c = .int .u32 cy ∧ cy ≤ 1 ∧ o.length = k ∧ Digs o ∧ OwnN wr w.heap.size v o ∧ nval o + 4294967296 ^ k * cy = 2 * nval (ds.take k) + bit ∧ Below w.heap.size w wr
theorem DblInv.next {w wr : World} {ds o : List Nat} {bit k cy d : Nat} {v : Value} {x i : Int} (hk : k < ds.length) (hol : o.length = k) (hod : Digs o) (hd : ds[k] = d) (hd32 : d < 4294967296) (hcy : cy ≤ 1) (hown : OwnN wr w.heap.size v (o ++ [d * 2 % 4294967296 + cy])) (he : nval o + 4294967296 ^ k * cy = 2 * nval (ds.take k) + bit) (hb : Below w.heap.size w wr)
    (hx : x = ((d / 2147483648 : Nat) : Int)) (hi : i = ((k + 1 : Nat) : Int)) : DblInv w ds bit v (.int .u32 x) (.int .i64 i) wr := by
  subst hx hi
  refine ⟨k + 1, d / 2147483648, o ++ [d * 2 % 4294967296 + cy], hk, rfl, rfl, by omega, by simp [hol], fun e hm => ?_, hown, ?_, hb⟩
  · rcases List.mem_append.1 hm with h | h
    · exact hod e h
    · simp at h; omega
  · rw [snoc_val _ _ k hol, take_val ds k hk, hd, Nat.pow_succ]
    generalize 4294967296 ^ k = P at *
    have h1 : P * (d * 2 % 4294967296 + cy) + P * (4294967296 * (d / 2147483648)) = P * (2 * d) + P * cy := by
      rw [← Nat.mul_add, ← Nat.mul_add]; congr 1; omega
    rw [Nat.mul_assoc]
    have h2 : P * (2 * d) = 2 * (P * d) := by rw [← Nat.mul_assoc, Nat.mul_comm P 2, Nat.mul_assoc]
    omega
set_option maxRecDepth 100000 in
set_option maxHeartbeats 2000000 in
theorem double_any (A : Option Addr) (c : Nat) (ds : List Nat) (bit : Nat) (w : World) (h : IsN w A c ds) (hl : ds.length ≤ 1073741822) (hbit : bit ≤ 1) :
    Calls Tryd.prog 99 #[.slice A ds.length c, .int .u32 bit] w (NatPost (2 * nval ds + bit) w) := by
  have HI := Lib.hid h
  clear h
  go_enter Tryd.func99, Tryd.ntmps99
  go_wp2
  go_loopw [1, 5, 6] (fun cb v i wr => DblInv w ds bit v cb i wr) (fun _ _ i _ => ds.length - (intOf i).toNat)
  case atStart => exact ⟨0, bit, [], Nat.zero_le _, rfl, rfl, hbit, rfl, fun d hd => by simp at hd, OwnN.nil _ _, by simp [nval], Below.refl _ _⟩
  case round =>
    obtain ⟨k, cy, o, hk, rfl, rfl, hcy, hol, hod, hown, heq, hbw⟩ := hrel
    have HO := Lib.hid hown
    have HQ := Lib.hid heq
    have HB := Lib.hid hbw
    have HOL := Lib.hid hol
    have HOD := Lib.hid hod
    have hsr := hbw.size
    have hol' : o.length ≤ 1073741822 := by omega
    clear hown heq hbw hol hod
    by_cases hlt : k < ds.length
    · obtain ⟨b, off, rfl, hb, hc⟩ := HI.out.digit hlt
      obtain ⟨d, hd⟩ : ∃ d, ds[k] = d := ⟨_, rfl⟩
      have hce := (HB.out.cell (p := ⟨b, off + k, none⟩) hb).trans (hc k hlt)
      rw [hd] at hce
      have hd32 : d < 4294967296 := by rw [← hd]; exact HI.out.ok _ (List.getElem_mem hlt)
      have HD := Lib.hid hd
      have hor := or_low (d * 2 % 4294967296) cy (by omega) hcy (by omega)
      rw [show ((d * 2 % 4294967296 : Nat) : Int) = (d : Int) * 2 % 4294967296 by omega] at hor
      have HOR := Lib.hid hor
      clear hor
      clear hc hd
      go_wp2_with (at_builtin; refine app_digit w.heap.size _ o _ (d * 2 % 4294967296 + cy) (.tmp 13) (.tmp 21) rfl rfl rfl rfl HO.out HOR.out (by omega) hsr ?_; intro v2 w2 hown2 hgr2; have HO2 := Lib.hid hown2; have HR2 := Lib.hid hgr2; have hce := (hgr2.below.cell (p := ⟨b, off + k, none⟩) hb).trans hce; clear hown2 hgr2)
      go_roundw
      case rel => exact DblInv.next hlt HOL.out HOD.out HD.out hd32 hcy HO2.out HQ.out (HB.out.trans HR2.out.below) (by omega) (by omega)
      case measure => simp [intOf]; omega
    · obtain rfl : k = ds.length := by omega
      have hv : nval (o ++ [cy]) = 2 * nval ds + bit := by
        have := HQ.out
        rw [List.take_length] at this
        rw [snoc_val o cy _ HOL.out]; omega
      have HV := Lib.hid hv
      have HDO : Hid (Digs (o ++ [cy])) := fun e hm => by
        rcases List.mem_append.1 hm with h | h
        · exact HOD.out e h
        · simp at h; omega
      obtain ⟨L, hL⟩ : ∃ L, o ++ [cy] = L := ⟨_, rfl⟩
      have hLl : L.length ≤ 1073741823 := by rw [← hL]; simp; omega
      have HL := Lib.hid hL
      rw [hL] at HV HDO
      clear hv hL
      go_wp2_with (at_builtin; refine app_digit w.heap.size _ o _ cy (.tmp 28) (.tmp 30) rfl rfl rfl rfl HO.out rfl (by omega) hsr ?_; intro v2 w2 hown2 hgr2; rw [HL.out] at hown2; have HR2 := Lib.hid hgr2; obtain ⟨A2, c2, e2, hi2⟩ := hown2.is HDO.out; subst e2; have HI2 := Lib.hid hi2; have hs2 : w.heap.size ≤ w2.heap.size := Nat.le_trans hsr hgr2.size; clear hown2 hgr2 hi2)
      refine (norm_any A2 c2 L _ HI2.out hLl).mono ?_
      rintro e w3 ⟨v3, rfl, ho3, hb3⟩
      rw [HV.out] at ho3
      have HO3 := Lib.hid (ho3.base_le hs2)
      have HB3 := Lib.hid ((HB.out.trans HR2.out.below).trans (hb3.mono hs2))
      clear ho3 hb3
      go_wp2
      go_ret
      exact ⟨v3, rfl, HO3.out, HB3.out⟩
/-- Half of a number, digit by digit: what holds at the head of a round. -/
def HalfInv (w : World) (ds : List Nat) (v i : Value) (wr : World) : Prop :=
  ∃ (k : Nat) (o : List Nat), k ≤ ds.length ∧ i = .int .i64 k ∧ o.length = k ∧ Digs o ∧ OwnN wr w.heap.size v o ∧ 2 * nval o + ds.getD 0 0 % 2 = nval (ds.take k) + 4294967296 ^ k * (ds.getD k 0 % 2) ∧ Below w.heap.size w wr
theorem HalfInv.next {w wr : World} {ds o : List Nat} {k d nx : Nat} {v : Value} {i : Int} (hk : k < ds.length) (hol : o.length = k) (hod : Digs o) (hd : ds[k] = d) (hn : ds.getD (k + 1) 0 % 2 = nx) (hd32 : d < 4294967296) (hown : OwnN wr w.heap.size v (o ++ [d / 2 + 2147483648 * nx]))
    (he : 2 * nval o + ds.getD 0 0 % 2 = nval (ds.take k) + 4294967296 ^ k * (ds.getD k 0 % 2)) (hb : Below w.heap.size w wr) (hi : i = ((k + 1 : Nat) : Int)) : HalfInv w ds v (.int .i64 i) wr := by
  subst hi
  have hg : ds.getD k 0 = d := by rw [List.getD_eq_getElem?_getD, List.getElem?_eq_getElem hk, Option.getD_some, hd]
  have hnx : nx ≤ 1 := by omega
  refine ⟨k + 1, o ++ [d / 2 + 2147483648 * nx], hk, rfl, by simp [hol], fun e hm => ?_, hown, ?_, hb⟩
  · rcases List.mem_append.1 hm with h | h
    · exact hod e h
    · simp at h; omega
  · rw [snoc_val _ _ k hol, take_val ds k hk, hd, hn, Nat.pow_succ]
    rw [hg] at he
    generalize 4294967296 ^ k = P at *
    have h1 : 2 * (P * (d / 2 + 2147483648 * nx)) + P * (d % 2) = P * d + P * (4294967296 * nx) := by
      rw [← Nat.mul_add, ← Nat.mul_assoc, Nat.mul_comm 2 P, Nat.mul_assoc, ← Nat.mul_add]; congr 1; omega
    rw [Nat.mul_assoc, Nat.mul_add]
    omega
theorem or_high (a x : Nat) (ha : a < 2147483648) : bits .or .u32 (a : Int) ((x * 2147483648 % 4294967296 : Nat) : Int) = ((a + 2147483648 * (x % 2) : Nat) : Int) := by
  have e : x * 2147483648 % 4294967296 = 2147483648 * (x % 2) := by omega
  rw [e, u32_or_nat a (2147483648 * (x % 2)) (by omega) (by omega)]
  have h : a ||| 2147483648 * (x % 2) = 2147483648 * (x % 2) + a := by
    have := Nat.shiftLeft_add_eq_or_of_lt (i := 31) (b := a) (by omega) (x % 2)
    rw [Nat.shiftLeft_eq] at this
    rw [Nat.or_comm, show 2147483648 * (x % 2) = x % 2 * 2 ^ 31 by omega]
    exact this.symm
  rw [h, Nat.add_comm]
set_option maxRecDepth 100000 in
set_option maxHeartbeats 2000000 in
theorem half_any (A : Option Addr) (c : Nat) (ds : List Nat) (w : World) (h : IsN w A c ds) (hl : ds.length ≤ 1073741822) :
    Calls Tryd.prog 97 #[.slice A ds.length c] w (NatPost (nval ds / 2) w) := by
  have HI := Lib.hid h
  clear h
  go_enter Tryd.func97, Tryd.ntmps97
  go_wp2
  go_loopw [3, 4] (fun v i wr => HalfInv w ds v i wr) (fun _ i _ => ds.length - (intOf i).toNat)
  case atStart => exact ⟨0, [], Nat.zero_le _, rfl, rfl, fun d hd => by simp at hd, OwnN.nil _ _, by simp [nval], Below.refl _ _⟩
  case round =>
    obtain ⟨k, o, hk, rfl, hol, hod, hown, heq, hbw⟩ := hrel
    have HO := Lib.hid hown
    have HQ := Lib.hid heq
    have HB := Lib.hid hbw
    have HOL := Lib.hid hol
    have HOD := Lib.hid hod
    have hsr := hbw.size
    have hol' : o.length ≤ 1073741822 := by omega
    clear hown heq hbw hol hod
    by_cases hlt : k < ds.length
    · obtain ⟨b, off, rfl, hb, hc⟩ := HI.out.digit hlt
      obtain ⟨d, hd⟩ : ∃ d, ds[k] = d := ⟨_, rfl⟩
      have hce := (HB.out.cell (p := ⟨b, off + k, none⟩) hb).trans (hc k hlt)
      rw [hd] at hce
      have hd32 : d < 4294967296 := by rw [← hd]; exact HI.out.ok _ (List.getElem_mem hlt)
      have HD := Lib.hid hd
      clear hd
      by_cases hlt2 : k + 1 < ds.length
      · obtain ⟨x, hx⟩ : ∃ x, ds[k + 1] = x := ⟨_, rfl⟩
        have hce2 := (HB.out.cell (p := ⟨b, off + (k + 1), none⟩) hb).trans (hc (k + 1) hlt2)
        rw [hx] at hce2
        have hx32 : x < 4294967296 := by rw [← hx]; exact HI.out.ok _ (List.getElem_mem hlt2)
        have HN := Lib.hid (show ds.getD (k + 1) 0 % 2 = x % 2 by rw [List.getD_eq_getElem?_getD, List.getElem?_eq_getElem hlt2, Option.getD_some, hx])
        have hor := or_high (d / 2) x (by omega)
        rw [show ((d / 2 : Nat) : Int) = (d : Int) / 2 by omega, show ((x * 2147483648 % 4294967296 : Nat) : Int) = (x : Int) * 2147483648 % 4294967296 by omega] at hor
        have HOR := Lib.hid hor
        clear hor hx hc
        go_wp2_with (at_builtin; refine app_digit w.heap.size _ o _ (d / 2 + 2147483648 * (x % 2)) (.tmp 30) (.tmp 32) rfl rfl rfl rfl HO.out HOR.out (by omega) hsr ?_; intro v2 w2 hown2 hgr2; have HO2 := Lib.hid hown2; have HR2 := Lib.hid hgr2; clear hown2 hgr2)
        go_roundw
        case rel => exact HalfInv.next hlt HOL.out HOD.out HD.out HN.out hd32 HO2.out HQ.out (HB.out.trans HR2.out.below) (by omega)
        case measure => simp [intOf]; omega
      · have HN := Lib.hid (show ds.getD (k + 1) 0 % 2 = 0 by rw [List.getD_eq_getElem?_getD, List.getElem?_eq_none (by omega)]; rfl)
        clear hc
        go_wp2_with (at_builtin; refine app_digit w.heap.size _ o _ (d / 2 + 2147483648 * 0) (.tmp 30) (.tmp 32) rfl rfl rfl rfl HO.out (by omega) (by omega) hsr ?_; intro v2 w2 hown2 hgr2; have HO2 := Lib.hid hown2; have HR2 := Lib.hid hgr2; clear hown2 hgr2)
        go_roundw
        case rel => exact HalfInv.next hlt HOL.out HOD.out HD.out HN.out hd32 HO2.out HQ.out (HB.out.trans HR2.out.below) (by omega)
        case measure => simp [intOf]; omega
    · obtain rfl : k = ds.length := by omega
      have hv : nval o = nval ds / 2 := by
        have h1 := HQ.out
        rw [List.take_length, List.getD_eq_getElem?_getD (i := ds.length), List.getElem?_eq_none (Nat.le_refl _)] at h1
        simp only [Option.getD_none, Nat.zero_mod, Nat.mul_zero, Nat.add_zero] at h1
        omega
      have HV := Lib.hid hv
      clear hv
      obtain ⟨A2, c2, e2, hi2⟩ := HO.out.is HOD.out
      subst e2
      have HI2 := Lib.hid hi2
      clear hi2
      go_wp2_with fail
      refine (norm_any A2 c2 o _ HI2.out (by omega)).mono ?_
      rintro e w3 ⟨v3, rfl, ho3, hb3⟩
      rw [HV.out] at ho3
      have HO3 := Lib.hid (ho3.base_le hsr)
      have HB3 := Lib.hid (below_then HB.out hb3 hsr)
      clear ho3 hb3
      go_wp2
      go_ret
      exact ⟨v3, rfl, HO3.out, HB3.out⟩
end Go.Proofs.YtpjfkhbdhdolfaaDoor
