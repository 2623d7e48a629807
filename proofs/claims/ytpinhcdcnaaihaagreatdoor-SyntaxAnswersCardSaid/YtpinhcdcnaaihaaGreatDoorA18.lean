import Derived.Test.YtpinhcdcnaaihaaGreatDoorA17
namespace Go.Proofs.YtpinhcdcnaaihaaGreatDoor
open Go.RowKit
theorem grown_cell (w : World) (g i : Nat) (u : Value) : w.grownBy (w.setCell ⟨g, i, none⟩ u) (some g) := ⟨rfl, rfl, rfl, by simp [World.setCell], fun k _ hk => by
  simp only [World.setCell]
  rw [Array.getElem?_modify, if_neg (fun e => hk (by rw [e]))]⟩
theorem IsN.grown {W W' : World} {A : Option Addr} {c g : Nat} {l : List Nat} (h : IsN W A c l) (hb : W.grownBy W' (some g)) (hg : ∀ b off, A = some ⟨b, off, none⟩ → b ≠ g) : IsN W' A c l := by
  refine ⟨fun hp => ?_, h.nil, h.cap, h.max, h.ok⟩
  obtain ⟨b, off, e, hlt, hc⟩ := h.at_ hp
  refine ⟨b, off, e, Nat.lt_of_lt_of_le hlt hb.size, fun j u hu => ?_⟩
  rw [← hc j u hu]
  exact World.cell?_of_block (hb.block b hlt fun e2 => hg b off e (by injection e2 with e2))
def SmInv (w : World) (g cap base j n f : Nat) (L vs : List Nat) (cv bv i : Value) (wr : World) : Prop :=
  ∃ (k c b : Nat) (out : List Nat), k ≤ n ∧ i = .int .i64 k ∧ cv = .int .u64 c ∧ bv = .int .u64 b ∧ c < 4294967296 ∧ b ≤ 1 ∧ out.length = k ∧ Digs out ∧ OwnN wr base (.slice (some ⟨g, 0, none⟩) L.length cap) (L.take j ++ (out ++ L.drop (j + k))) ∧ nval out + f * nval (vs.take k) = nval ((L.drop j).take k) + (c + b) * 4294967296 ^ k ∧ w.grownBy wr (some g)
theorem win_len {L out : List Nat} {j k : Nat} (hj : j + k ≤ L.length) (ho : out.length = k) : (L.take j ++ (out ++ L.drop (j + k))).length = L.length := by
  simp only [List.length_append, List.length_take, List.length_drop, ho]; omega
theorem win_at {L out : List Nat} {j k : Nat} (hj : j + k < L.length) (ho : out.length = k) (h : j + k < (L.take j ++ (out ++ L.drop (j + k))).length) : (L.take j ++ (out ++ L.drop (j + k)))[j + k] = L[j + k] := by
  have e : (L.take j ++ out).length = j + k := by simp [ho]; omega
  have h2 : (L.take j ++ (out ++ L.drop (j + k)))[j + k]? = L[j + k]? := by
    rw [← List.append_assoc, List.getElem?_append_right (by omega), e, Nat.sub_self, List.getElem?_drop, Nat.add_zero]
  rw [List.getElem?_eq_getElem h, List.getElem?_eq_getElem hj] at h2
  exact Option.some.inj h2
theorem win_put {L out : List Nat} {j k d : Nat} (hj : j + k < L.length) (ho : out.length = k) : (L.take j ++ (out ++ L.drop (j + k))).set (j + k) d = L.take j ++ ((out ++ [d]) ++ L.drop (j + (k + 1))) := by
  have e : (L.take j ++ out).length = j + k := by simp [ho]; omega
  rw [← List.append_assoc, List.set_append_right _ _ (by omega), e, Nat.sub_self, List.drop_eq_getElem_cons hj, List.set_cons_zero, List.append_assoc, List.append_assoc, show j + (k + 1) = j + k + 1 by omega]
  rfl
theorem win_take {L : List Nat} {j k : Nat} (hj : j + k < L.length) : nval ((L.drop j).take (k + 1)) = nval ((L.drop j).take k) + 4294967296 ^ k * L[j + k] := by
  rw [nval_takeS _ _ (by simp; omega), List.getElem_drop]
theorem and_low {t : Nat} (ht : t < 18446744073709551616) : bits .and .u64 (t : Int) 4294967295 = ((t % 4294967296 : Nat) : Int) := by
  have h := u64_and_nat t 4294967295 ht (by decide)
  rw [show (4294967295 : Nat) = 2 ^ 32 - 1 by decide, Nat.and_two_pow_sub_one_eq_mod, show (2 : Nat) ^ 32 = 4294967296 by decide] at h
  exact h
theorem sm_digit {f x c u b : Nat} (hf : f < 4294967296) (hx : x < 4294967296) (hc : c < 4294967296) (hu : u < 4294967296) (hb : b ≤ 1) :
    ∃ t u' b' : Nat, t = f * x + c ∧ IntKind.u64.wrap (IntKind.u64.wrap ((f : Int) * (x : Int)) + (c : Int)) = (t : Int) ∧ t / 4294967296 < 4294967296 ∧
      IntKind.u64.wrap (IntKind.u64.wrap ((u : Int) - bits .and .u64 (t : Int) 4294967295) - (b : Int)) % 4294967296 = (u' : Int) ∧
      IntKind.u64.wrap (IntKind.u64.wrap ((u : Int) - bits .and .u64 (t : Int) 4294967295) - (b : Int)) / 9223372036854775808 = (b' : Int) ∧ u' < 4294967296 ∧ b' ≤ 1 ∧ u' + t % 4294967296 + b = u + b' * 4294967296 := by
  have h1 : f * x ≤ 4294967295 * 4294967295 := Nat.mul_le_mul (by omega) (by omega)
  obtain ⟨p, hp⟩ : ∃ p, f * x = p := ⟨_, rfl⟩
  rw [hp] at h1
  have hpi : (f : Int) * (x : Int) = (p : Int) := by rw [← hp]; simp
  obtain ⟨u', b', e1, e2, h2, h3, h4⟩ := sub_digit (u := u) (lo := (p + c) % 4294967296) (bo := b) hu (Nat.mod_lt _ (by decide)) hb
  have e : ∀ a : Int, IntKind.u64.wrap (IntKind.u64.wrap ((u : Int) - a) - (b : Int)) = ((u : Int) - a - (b : Int)) % 18446744073709551616 := fun a => by rw [IntKind.wrap_u64, IntKind.wrap_u64]; omega
  refine ⟨p + c, u', b', by rw [hp], by rw [hpi, IntKind.wrap_u64, IntKind.wrap_u64]; omega, by omega, ?_, ?_, h2, h3, h4⟩
  · rw [and_low (by omega), e]; exact e1
  · rw [and_low (by omega), e]; exact e2
theorem SmInv.next {w wr : World} {g cap base j n f k c b x u : Nat} {L vs out : List Nat} {i : Int} (hk : k < n) (hvl : vs.length = n) (hj : j + (n + 1) ≤ L.length) (hx : ∃ h : k < vs.length, vs[k] = x) (hu : ∃ h : j + k < L.length, L[j + k] = u) (hf : f < 4294967296) (hx32 : x < 4294967296) (hc : c < 4294967296) (hu32 : u < 4294967296) (hb : b ≤ 1) (hol : out.length = k) (hod : Digs out) (hox : OwnN wr base (.slice (some ⟨g, 0, none⟩) L.length cap) (L.take j ++ (out ++ L.drop (j + k)))) (he : nval out + f * nval (vs.take k) = nval ((L.drop j).take k) + (c + b) * 4294967296 ^ k) (hgr : w.grownBy wr (some g)) (hi : i = ((k + 1 : Nat) : Int)) :
    SmInv w g cap base j n f L vs (.int .u64 (IntKind.u64.wrap (IntKind.u64.wrap ((f : Int) * (x : Int)) + (c : Int)) / 4294967296))
      (.int .u64 (IntKind.u64.wrap (IntKind.u64.wrap ((u : Int) - bits .and .u64 (IntKind.u64.wrap (IntKind.u64.wrap ((f : Int) * (x : Int)) + (c : Int))) 4294967295) - (b : Int)) / 9223372036854775808)) (.int .i64 i)
      (wr.setCell ⟨g, j + k, none⟩ (.int .u32 (IntKind.u64.wrap (IntKind.u64.wrap ((u : Int) - bits .and .u64 (IntKind.u64.wrap (IntKind.u64.wrap ((f : Int) * (x : Int)) + (c : Int))) 4294967295) - (b : Int)) % 4294967296))) := by
  subst hi
  obtain ⟨hk2, hx⟩ := hx
  obtain ⟨hj2, hu⟩ := hu
  obtain ⟨t, u', b', h1, h2, h3, h4, h5, h6, h7, h8⟩ := sm_digit hf hx32 hc hu32 hb
  rw [h2, h4, h5]
  refine ⟨k + 1, t / 4294967296, b', out ++ [u'], hk, rfl, by congr 1, rfl, h3, h7, by simp [hol], digs_snoc hod h6, ?_, ?_, hgr.trans (grown_cell _ _ _ _)⟩
  · have := hox.put (i := j + k) (by rw [win_len (by omega) hol]) _ u' rfl
    rwa [win_put hj2 hol] at this
  · rw [snoc_val out _ k hol, take_val vs k hk2, hx, win_take hj2, hu, Nat.pow_succ]
    exact subm_step he h1 (by omega) h8
theorem sm_last {u c b : Nat} (hu : u < 4294967296) (hc : c < 4294967296) (hb : b ≤ 1) : ∃ u' b' : Nat, IntKind.u64.wrap (IntKind.u64.wrap ((u : Int) - (c : Int)) - (b : Int)) % 4294967296 = (u' : Int) ∧ IntKind.u64.wrap (IntKind.u64.wrap ((u : Int) - (c : Int)) - (b : Int)) / 9223372036854775808 = (b' : Int) ∧ u' < 4294967296 ∧ b' ≤ 1 ∧ u' + c + b = u + b' * 4294967296 := by
  obtain ⟨u', b', e1, e2, h2, h3, h4⟩ := sub_digit (u := u) (lo := c) (bo := b) hu hc hb
  have e : IntKind.u64.wrap (IntKind.u64.wrap ((u : Int) - (c : Int)) - (b : Int)) = ((u : Int) - (c : Int) - (b : Int)) % 18446744073709551616 := by rw [IntKind.wrap_u64, IntKind.wrap_u64]; omega
  rw [e]
  exact ⟨u', b', e1, e2, h2, h3, h4⟩
theorem sm_end {A F U c b u u' b' P : Nat} (he : A + F = U + (c + b) * P) (h : u' + c + b = u + b' * 4294967296) : (A + P * u') + F = (U + P * u) + b' * (P * 4294967296) := by
  have e1 : P * (u' + (c + b)) = P * (u + b' * 4294967296) := by rw [← h]; congr 1; omega
  rw [Nat.mul_add P u', Nat.mul_add P u, Nat.mul_comm P (c + b)] at e1
  have e2 : P * (b' * 4294967296) = b' * (P * 4294967296) := Nat.mul_left_comm ..
  omega
def SmPost (w : World) (g cap base j n f : Nat) (L vs : List Nat) (e : Ending) (w' : World) : Prop :=
  ∃ (b : Bool) (out : List Nat), e = .returned (.bool b) ∧ out.length = n + 1 ∧ Digs out ∧ OwnN w' base (.slice (some ⟨g, 0, none⟩) L.length cap) (L.take j ++ (out ++ L.drop (j + (n + 1)))) ∧ nval out + f * nval vs = nval ((L.drop j).take (n + 1)) + (if b then 4294967296 ^ (n + 1) else 0) ∧ w.grownBy w' (some g)
set_option maxRecDepth 100000 in
set_option maxHeartbeats 8000000 in
theorem subm_any (g cap base j n f cw cb : Nat) (B : Option Addr) (L vs : List Nat) (w : World) (hL : OwnN w base (.slice (some ⟨g, 0, none⟩) L.length cap) L) (hd : Digs L) (hB : IsN w B cb vs) (hBg : ∀ b off, B = some ⟨b, off, none⟩ → b ≠ g) (hvl : vs.length = n) (hj : j + (n + 1) ≤ L.length) (hn : 0 < n) (hf : f < 4294967296) (hcw : n + 1 ≤ cw) (hbig : L.length ≤ 1073741824) :
    Calls Tryz.prog 249 #[.slice (some ⟨g, j, none⟩) (n + 1) cw, .slice B vs.length cb, .int .u64 f] w (SmPost w g cap base j n f L vs) := by
  have HO := Lib.hid hL
  have HD := Lib.hid hd
  have HI := Lib.hid hB
  clear hL hd hB
  obtain ⟨b2, o2, rfl, hb2, hc2⟩ := HI.out.digit (i := 0) (by omega)
  have hne : b2 ≠ g := hBg b2 o2 rfl
  rw [hvl]
  clear hc2
  go_enter Tryz.func249, Tryz.ntmps249
  go_wp2
  go_loopw [8, 9, 19] (fun cv bv i wr => SmInv w g cap base j n f L vs cv bv i wr) (fun _ _ i _ => n - (intOf i).toNat)
  case atStart => exact ⟨0, 0, 0, [], Nat.zero_le _, rfl, rfl, rfl, by omega, by omega, rfl, fun d hd => by simp at hd, by rw [List.nil_append, Nat.add_zero, List.take_append_drop]; exact HO.out, by simp [nval], World.grownBy.refl _ _⟩
  case round =>
    obtain ⟨k, c, b, out, hk, rfl, rfl, rfl, hc, hb, hol, hod, hox, heq, hgr⟩ := hrel
    have HOX := Lib.hid hox
    have HQ := Lib.hid heq
    have HG := Lib.hid hgr
    have HOL := Lib.hid hol
    have HOD := Lib.hid hod
    have HIG := Lib.hid (HI.out.grown hgr hBg)
    clear hox heq hgr hol hod
    have hwl := win_len (L := L) (j := j) (k := k) (by omega) HOL.out
    by_cases hlt : k < n
    · obtain ⟨b3, o3, he3, hb3, hcx⟩ := HIG.out.digit (i := k) (by omega)
      injection he3 with he3
      injection he3 with he3 he4
      subst he3 he4
      have cx := hcx k (by omega)
      have hx32 := HI.out.lt (i := k) (by omega)
      obtain ⟨x, hx⟩ : ∃ x, vs[k]'(by omega) = x := ⟨_, rfl⟩
      rw [hx] at cx hx32
      have HX := Lib.hid hx
      have hce := HOX.out.cell (i := j + k) (by omega)
      rw [win_at (by omega) HOL.out] at hce
      have hfr := HOX.out.free (j + k)
      have hu32 : L[j + k]'(by omega) < 4294967296 := HD.out.get _ (by omega)
      obtain ⟨u, hu⟩ : ∃ u, L[j + k]'(by omega) = u := ⟨_, rfl⟩
      rw [hu] at hce hu32
      have HU := Lib.hid hu
      clear hcx hx hu
      go_wp2
      go_roundw
      case rel => exact SmInv.next hlt hvl hj ⟨by omega, HX.out⟩ ⟨by omega, HU.out⟩ hf hx32 hc hu32 hb HOL.out HOD.out HOX.out HQ.out HG.out (by omega)
      case measure => simp [intOf]; omega
    · obtain rfl : k = n := by omega
      have hce := HOX.out.cell (i := j + k) (by omega)
      rw [win_at (by omega) HOL.out] at hce
      have hfr := HOX.out.free (j + k)
      have hu32 : L[j + k]'(by omega) < 4294967296 := HD.out.get _ (by omega)
      obtain ⟨u, hu⟩ : ∃ u, L[j + k]'(by omega) = u := ⟨_, rfl⟩
      rw [hu] at hce hu32
      obtain ⟨u', b', h1, h2, h3, h4, h5⟩ := sm_last hu32 hc hb
      have HE : Hid (nval (out ++ [u']) + f * nval vs = nval ((L.drop j).take (k + 1)) + (if decide (b' = 1) then 4294967296 ^ (k + 1) else 0)) := by
        show _ = _
        have h6 := HQ.out
        rw [List.take_of_length_le (Nat.le_of_eq hvl)] at h6
        rw [snoc_val out _ k HOL.out, win_take (by omega), hu, sm_end h6 h5, Nat.pow_succ]
        have h7 : b' = 0 ∨ b' = 1 := by omega
        rcases h7 with rfl | rfl <;> simp
      have HP := Lib.hid (HOX.out.put (i := j + k) hwl.symm (u' : Int) u' rfl)
      rw [win_put (by omega) HOL.out] at HP
      have HOD3 := Lib.hid (digs_snoc HOD.out h3)
      have hb1 : ((b' : Int) == 1) = decide (b' = 1) := by
        have h7 : b' = 0 ∨ b' = 1 := by omega
        rcases h7 with rfl | rfl <;> rfl
      clear hu h5
      go_wp2
      go_ret
      exact ⟨decide (b' = 1), out ++ [u'], by rw [← hb1]; rfl, by have := HOL.out; simp [this], HOD3.out, HP.out, HE.out, HG.out.trans (grown_cell _ _ _ _)⟩
def AbInv (w : World) (g cap base j n : Nat) (L vs : List Nat) (cv i : Value) (wr : World) : Prop :=
  ∃ (k c : Nat) (out : List Nat), k ≤ n ∧ i = .int .i64 k ∧ cv = .int .u64 c ∧ c ≤ 1 ∧ out.length = k ∧ Digs out ∧ OwnN wr base (.slice (some ⟨g, 0, none⟩) L.length cap) (L.take j ++ (out ++ L.drop (j + k))) ∧ nval out + c * 4294967296 ^ k = nval ((L.drop j).take k) + nval (vs.take k) ∧ w.grownBy wr (some g)
theorem AbInv.next {w wr : World} {g cap base j n k c x u : Nat} {L vs out : List Nat} {i zc zd : Int} (hk : k < n) (hvl : vs.length = n) (hj : j + (n + 1) ≤ L.length) (hx : ∃ h : k < vs.length, vs[k] = x) (hu : ∃ h : j + k < L.length, L[j + k] = u) (hx32 : x < 4294967296) (hu32 : u < 4294967296) (hc : c ≤ 1) (hol : out.length = k) (hod : Digs out) (hox : OwnN wr base (.slice (some ⟨g, 0, none⟩) L.length cap) (L.take j ++ (out ++ L.drop (j + k)))) (he : nval out + c * 4294967296 ^ k = nval ((L.drop j).take k) + nval (vs.take k)) (hgr : w.grownBy wr (some g)) (hi : i = ((k + 1 : Nat) : Int)) (h1 : zc = (((u + x + c) / 4294967296 : Nat) : Int)) (h2 : zd = (((u + x + c) % 4294967296 : Nat) : Int)) :
    AbInv w g cap base j n L vs (.int .u64 zc) (.int .i64 i) (wr.setCell ⟨g, j + k, none⟩ (.int .u32 zd)) := by
  subst hi h1 h2
  obtain ⟨hk2, hx⟩ := hx
  obtain ⟨hj2, hu⟩ := hu
  refine ⟨k + 1, (u + x + c) / 4294967296, out ++ [(u + x + c) % 4294967296], hk, rfl, rfl, by omega, by simp [hol], digs_snoc hod (Nat.mod_lt _ (by decide)), ?_, ?_, hgr.trans (grown_cell _ _ _ _)⟩
  · have := hox.put (i := j + k) (by rw [win_len (by omega) hol]) _ ((u + x + c) % 4294967296) rfl
    rwa [win_put hj2 hol] at this
  · rw [snoc_val out _ k hol, take_val vs k hk2, hx, win_take hj2, hu, Nat.pow_succ]
    exact addb_step he rfl
def AbPost (w : World) (g cap base j n : Nat) (L vs : List Nat) (e : Ending) (w' : World) : Prop :=
  ∃ (out : List Nat) (q : Nat), e = .returned (.tuple #[]) ∧ out.length = n + 1 ∧ Digs out ∧ OwnN w' base (.slice (some ⟨g, 0, none⟩) L.length cap) (L.take j ++ (out ++ L.drop (j + (n + 1)))) ∧ nval out + q * 4294967296 ^ (n + 1) = nval ((L.drop j).take (n + 1)) + nval vs ∧ w.grownBy w' (some g)
theorem ab_end {A V U c u P : Nat} (h : A + c * P = U + V) : (A + P * ((u + c) % 4294967296)) + (u + c) / 4294967296 * (P * 4294967296) = (U + P * u) + V := by
  have e1 : P * ((u + c) % 4294967296) + (u + c) / 4294967296 * (P * 4294967296) = P * (u + c) := by
    rw [← Nat.mul_assoc, Nat.mul_comm ((u + c) / 4294967296) P, Nat.mul_assoc, ← Nat.mul_add]
    congr 1
    omega
  rw [Nat.mul_add P u, Nat.mul_comm P c] at e1
  omega
set_option maxRecDepth 100000 in
set_option maxHeartbeats 8000000 in
theorem addb_any (g cap base j n cw cb : Nat) (B : Option Addr) (L vs : List Nat) (w : World) (hL : OwnN w base (.slice (some ⟨g, 0, none⟩) L.length cap) L) (hd : Digs L) (hB : IsN w B cb vs) (hBg : ∀ b off, B = some ⟨b, off, none⟩ → b ≠ g) (hvl : vs.length = n) (hj : j + (n + 1) ≤ L.length) (hn : 0 < n) (hcw : n + 1 ≤ cw) (hbig : L.length ≤ 1073741824) :
    Calls Tryz.prog 250 #[.slice (some ⟨g, j, none⟩) (n + 1) cw, .slice B vs.length cb] w (AbPost w g cap base j n L vs) := by
  have HO := Lib.hid hL
  have HD := Lib.hid hd
  have HI := Lib.hid hB
  clear hL hd hB
  obtain ⟨b2, o2, rfl, hb2, hc2⟩ := HI.out.digit (i := 0) (by omega)
  have hne : b2 ≠ g := hBg b2 o2 rfl
  rw [hvl]
  clear hc2
  go_enter Tryz.func250, Tryz.ntmps250
  go_wp2
  go_loopw [4, 10] (fun cv i wr => AbInv w g cap base j n L vs cv i wr) (fun _ i _ => n - (intOf i).toNat)
  case atStart => exact ⟨0, 0, [], Nat.zero_le _, rfl, rfl, by omega, rfl, fun d hd => by simp at hd, by rw [List.nil_append, Nat.add_zero, List.take_append_drop]; exact HO.out, by simp [nval], World.grownBy.refl _ _⟩
  case round =>
    obtain ⟨k, c, out, hk, rfl, rfl, hc, hol, hod, hox, heq, hgr⟩ := hrel
    have HOX := Lib.hid hox
    have HQ := Lib.hid heq
    have HG := Lib.hid hgr
    have HOL := Lib.hid hol
    have HOD := Lib.hid hod
    have HIG := Lib.hid (HI.out.grown hgr hBg)
    clear hox heq hgr hol hod
    have hwl := win_len (L := L) (j := j) (k := k) (by omega) HOL.out
    have hce := HOX.out.cell (i := j + k) (by omega)
    rw [win_at (by omega) HOL.out] at hce
    have hfr := HOX.out.free (j + k)
    have hu32 : L[j + k]'(by omega) < 4294967296 := HD.out.get _ (by omega)
    obtain ⟨u, hu⟩ : ∃ u, L[j + k]'(by omega) = u := ⟨_, rfl⟩
    rw [hu] at hce hu32
    have HU := Lib.hid hu
    clear hu
    by_cases hlt : k < n
    · obtain ⟨b3, o3, he3, hb3, hcx⟩ := HIG.out.digit (i := k) (by omega)
      injection he3 with he3
      injection he3 with he3 he4
      subst he3 he4
      have cx := hcx k (by omega)
      have hx32 := HI.out.lt (i := k) (by omega)
      obtain ⟨x, hx⟩ : ∃ x, vs[k]'(by omega) = x := ⟨_, rfl⟩
      rw [hx] at cx hx32
      have HX := Lib.hid hx
      clear hcx hx
      go_wp2
      go_roundw
      case rel => exact AbInv.next hlt hvl hj ⟨by omega, HX.out⟩ ⟨by omega, HU.out⟩ hx32 hu32 hc HOL.out HOD.out HOX.out HQ.out HG.out (by omega) (by omega) (by omega)
      case measure => simp [intOf]; omega
    · obtain rfl : k = n := by omega
      have HE : Hid (nval (out ++ [(u + c) % 4294967296]) + (u + c) / 4294967296 * 4294967296 ^ (k + 1) = nval ((L.drop j).take (k + 1)) + nval vs) := by
        show _ = _
        have h6 := HQ.out
        rw [List.take_of_length_le (Nat.le_of_eq hvl)] at h6
        rw [snoc_val out _ k HOL.out, win_take (by omega), HU.out, Nat.pow_succ]
        exact ab_end h6
      have HP := Lib.hid (HOX.out.put (i := j + k) hwl.symm (((u + c) % 4294967296 : Nat) : Int) ((u + c) % 4294967296) rfl)
      rw [win_put (by omega) HOL.out] at HP
      have HOD3 := Lib.hid (digs_snoc HOD.out (Nat.mod_lt (u + c) (show 0 < 4294967296 by decide)))
      have HZ := Lib.hid (show ((u : Int) + (c : Int)) % 4294967296 = (((u + c) % 4294967296 : Nat) : Int) by omega)
      go_wp2
      go_end0
      rw [HZ.out]
      exact ⟨_, _, rfl, by have := HOL.out; simp [this], HOD3.out, HP.out, HE.out, HG.out.trans (grown_cell _ _ _ _)⟩
end Go.Proofs.YtpinhcdcnaaihaaGreatDoor
