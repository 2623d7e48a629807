import Derived.Test.YtpinhcdcnaaihaaGreatDoorA18
namespace Go.Proofs.YtpinhcdcnaaihaaGreatDoor
open Go.RowKit
theorem OwnN.win {w : World} {base g m cap : Nat} {L : List Nat} (h : OwnN w base (.slice (some ⟨g, 0, none⟩) m cap) L) (hd : Digs L) (j k c : Nat) (hj : j + k ≤ L.length) (hk : k ≤ c) (hc : c ≤ 9223372036854775807) : IsN w (some ⟨g, j, none⟩) c ((L.drop j).take k) := by
  have hl : ((L.drop j).take k).length = k := by rw [List.length_take, List.length_drop]; omega
  refine ⟨fun hp => ⟨g, j, rfl, ?_, fun i u hu => ?_⟩, fun e => (by cases e), by omega, hc, (hd.drop j).take k⟩
  · rw [cellsN_length, hl] at hp
    obtain ⟨g', cap', e, _, hlt, _⟩ := h.lies (by omega)
    injection e with e1
    injection e1 with e1
    injection e1 with e1
    rw [e1]; exact hlt
  · have hi := (List.getElem?_eq_some_iff.1 hu).1
    rw [cellsN_length, hl] at hi
    rw [h.cell (i := j + i) (by omega), ← hu]
    simp only [cellsN, List.getElem?_map]
    rw [List.getElem?_take, if_pos hi, List.getElem?_drop, List.getElem?_eq_getElem (by omega)]
    rfl
theorem OwnN.keep {w w' : World} {base g gr n cap : Nat} {L : List Nat} (h : OwnN w base (.slice (some ⟨g, 0, none⟩) n cap) L) (hw : w.grownBy w' (some gr)) (hne : g ≠ gr) : OwnN w' base (.slice (some ⟨g, 0, none⟩) n cap) L := by
  unfold OwnN at h ⊢
  refine h.kept hw (.inr ?_)
  show some g ≠ some gr
  exact fun e => hne (by injection e)
theorem norm_top {Y n d s : Nat} (hn : 1 ≤ n) (hl : (digs Y).length = n) (hd : ∃ h : n - 1 < (digs Y).length, (digs Y)[n - 1] = d) (h1 : 2147483648 ≤ 2 ^ s * d) (h2 : 2 ^ s * (d + 1) ≤ 4294967296) : 2 ^ s * Y < 4294967296 ^ n ∧ 2147483648 * 4294967296 ^ (n - 1) ≤ 2 ^ s * Y := by
  obtain ⟨hlt, hd⟩ := hd
  have e := take_val (digs Y) (n - 1) hlt
  rw [show n - 1 + 1 = n by omega, List.take_of_length_le (Nat.le_of_eq hl), nval_digs, hd] at e
  have h3 := nval_lt ((digs Y).take (n - 1)) fun x hx => digs_lt Y x (List.mem_of_mem_take hx)
  rw [List.length_take, hl, Nat.min_eq_left (by omega)] at h3
  have e2 : 4294967296 ^ n = 4294967296 ^ (n - 1) * 4294967296 := by rw [← Nat.pow_succ]; congr 1; omega
  generalize 4294967296 ^ (n - 1) = P at *
  generalize nval ((digs Y).take (n - 1)) = t at *
  generalize 2 ^ s = S at *
  constructor
  · have h4 : S * Y < S * (P * (d + 1)) ∨ S = 0 := by
      rcases Nat.eq_zero_or_pos S with h | h
      · exact .inr h
      · left
        refine Nat.mul_lt_mul_of_pos_left ?_ h
        rw [Nat.mul_add]; omega
    rcases h4 with h4 | h4
    · have h5 : S * (P * (d + 1)) ≤ P * 4294967296 := by rw [Nat.mul_left_comm]; exact Nat.mul_le_mul_left _ h2
      omega
    · subst h4; omega
  · have h4 : P * 2147483648 ≤ P * (S * d) := Nat.mul_le_mul_left _ h1
    have h5 : S * (P * d) ≤ S * Y := Nat.mul_le_mul_left _ (by omega)
    rw [Nat.mul_left_comm] at h5
    omega
theorem top_of {vs : List Nat} {n V : Nat} (hn : 1 ≤ n) (hl : vs.length = n) (hd : Digs vs) (hv : nval vs = V) (h : 2147483648 * 4294967296 ^ (n - 1) ≤ V) : ∀ h : n - 1 < vs.length, 2147483648 ≤ vs[n - 1] := fun hlt => by
  have e := take_val vs (n - 1) hlt
  rw [show n - 1 + 1 = n by omega, List.take_of_length_le (Nat.le_of_eq hl), hv] at e
  have h3 := nval_lt (vs.take (n - 1)) (hd.take _)
  rw [List.length_take, hl, Nat.min_eq_left (by omega)] at h3
  generalize 4294967296 ^ (n - 1) = P at *
  generalize nval (vs.take (n - 1)) = t at *
  generalize vs[n - 1] = x at *
  rcases Nat.lt_or_ge x 2147483648 with hc | hc
  · exfalso
    have : P * (x + 1) ≤ P * 2147483648 := Nat.mul_le_mul_left _ hc
    rw [Nat.mul_add] at this
    omega
  · exact hc
theorem window {U vs : List Nat} {j n V la : Nat} (hU : U.length = la + 1) (hd : Digs U) (hvl : vs.length = n) (hvd : Digs vs) (hv : nval vs = V) (hj : j + n ≤ la) (hlt : nval U < V * 4294967296 ^ (j + 1)) :
    nval U = nval (U.take j) + 4294967296 ^ j * nval ((U.drop j).take (n + 1)) ∧ nval (U.drop (j + (n + 1))) = 0 ∧ nval ((U.drop j).take (n + 1)) < 4294967296 * V := by
  have h1 := nval_cut U j (by omega)
  have h2 := nval_cut (U.drop j) (n + 1) (by rw [List.length_drop]; omega)
  rw [List.drop_drop] at h2
  have hVn := nval_lt vs hvd
  rw [hvl, hv] at hVn
  rw [Nat.pow_succ] at hlt
  have hp : 0 < 4294967296 ^ j := Nat.pow_pos (by decide)
  have e2 : (4294967296 : Nat) ^ (n + 1) = 4294967296 ^ n * 4294967296 := Nat.pow_succ ..
  generalize hP : (4294967296 : Nat) ^ j = P at *
  generalize (4294967296 : Nat) ^ n = R at *
  rw [e2] at h2
  generalize nval (U.take j) = t at *
  generalize nval ((U.drop j).take (n + 1)) = x at *
  generalize nval (U.drop (j + (n + 1))) = y at *
  generalize nval (U.drop j) = z at *
  have h3 : z < 4294967296 * V := by
    rcases Nat.lt_or_ge z (4294967296 * V) with hc | hc
    · exact hc
    · exfalso
      have h4 : P * (4294967296 * V) ≤ P * z := Nat.mul_le_mul_left _ hc
      have e : V * (P * 4294967296) = P * (4294967296 * V) := by rw [Nat.mul_left_comm, Nat.mul_comm V]
      omega
  have hy : y = 0 := by
    refine Nat.eq_zero_of_not_pos fun hy => ?_
    have : R * 4294967296 * 1 ≤ R * 4294967296 * y := Nat.mul_le_mul_left _ hy
    omega
  subst hy
  rw [Nat.mul_zero, Nat.add_zero] at h2
  exact ⟨by rw [h1, h2], rfl, by omega⟩
def LdInv (w : World) (gv gu gq n la V Z : Nat) (vs : List Nat) (i : Value) (wr : World) : Prop :=
  ∃ (k : Nat) (U qs : List Nat), k ≤ la + 1 - n ∧ i = .int .i64 ((k : Int) - 1) ∧ U.length = la + 1 ∧ Digs U ∧ OwnN wr w.heap.size (.slice (some ⟨gu, 0, none⟩) (la + 1) (la + 1)) U ∧ qs.length = la + 1 - n - k ∧ Digs qs ∧ OwnN wr w.heap.size (.slice (some ⟨gq, 0, none⟩) (la + 1 - n) (la + 1 - n)) (List.replicate k 0 ++ qs) ∧ OwnN wr w.heap.size (.slice (some ⟨gv, 0, none⟩) n n) vs ∧ Z = nval qs * 4294967296 ^ k * V + nval U ∧ nval U < V * 4294967296 ^ k ∧ Below w.heap.size w wr
theorem ld_step {U out qs : List Nat} {j n V la Z g : Nat} (hU : U.length = la + 1) (hj : j + n ≤ la) (ho : out.length = n + 1) (hd : Digs U) (h1 : nval U = nval (U.take j) + 4294967296 ^ j * nval ((U.drop j).take (n + 1))) (h2 : nval (U.drop (j + (n + 1))) = 0) (hg : g = nval ((U.drop j).take (n + 1)) / V) (hs : nval out = nval ((U.drop j).take (n + 1)) % V) (hV : 0 < V) (hZ : Z = nval qs * 4294967296 ^ (j + 1) * V + nval U) :
    Z = nval (g :: qs) * 4294967296 ^ j * V + nval (U.take j ++ (out ++ U.drop (j + (n + 1)))) ∧ nval (U.take j ++ (out ++ U.drop (j + (n + 1)))) < V * 4294967296 ^ j := by
  have e1 : nval (U.take j ++ (out ++ U.drop (j + (n + 1)))) = nval (U.take j) + 4294967296 ^ j * nval out := by
    rw [nval_append, nval_append, h2, Nat.mul_zero, Nat.add_zero, List.length_take, Nat.min_eq_left (by omega)]
  have h3 := nval_lt (U.take j) (hd.take _)
  rw [List.length_take, Nat.min_eq_left (by omega)] at h3
  have h4 := Nat.div_add_mod (nval ((U.drop j).take (n + 1))) V
  have h5 := Nat.mod_lt (nval ((U.drop j).take (n + 1))) hV
  rw [← hg, ← hs] at h4
  rw [← hs] at h5
  rw [e1, nval]
  rw [Nat.pow_succ] at hZ
  generalize (4294967296 : Nat) ^ j = P at *
  generalize nval (U.take j) = t at *
  generalize nval ((U.drop j).take (n + 1)) = x at *
  generalize nval out = o at *
  generalize nval qs = q at *
  constructor
  · rw [hZ, h1, ← h4, Nat.mul_add P, Nat.add_mul, Nat.add_mul]
    have a1 : q * (P * 4294967296) * V = 4294967296 * q * P * V := by
      congr 1
      rw [Nat.mul_comm P, ← Nat.mul_assoc, Nat.mul_comm q]
    have a2 : P * (V * g) = g * P * V := by rw [Nat.mul_comm V, ← Nat.mul_assoc, Nat.mul_comm P]
    rw [a1, a2]
    omega
  · have : P * (o + 1) ≤ P * V := Nat.mul_le_mul_left _ h5
    rw [Nat.mul_add] at this
    rw [Nat.mul_comm V]
    omega
theorem LdInv.next {w wr wq : World} {gv gu gq n la V Z j g : Nat} {vs U out qs : List Nat} {z i : Int} (hq : gq ≠ gu ∧ gq ≠ gv ∧ gv ≠ gu ∧ w.heap.size ≤ gu ∧ w.heap.size ≤ gq) (hjk : j + 1 ≤ la + 1 - n) (hU : U.length = la + 1) (hUd : Digs U) (hvl : vs.length = n) (hvd : Digs vs) (hv : nval vs = V) (hV : 0 < V) (hlt : nval U < V * 4294967296 ^ (j + 1)) (hql : qs.length = la + 1 - n - (j + 1)) (hqd : Digs qs)
    (hoq : OwnN wr w.heap.size (.slice (some ⟨gq, 0, none⟩) (la + 1 - n) (la + 1 - n)) (List.replicate (j + 1) 0 ++ qs)) (hov : OwnN wr w.heap.size (.slice (some ⟨gv, 0, none⟩) n n) vs) (hZ : Z = nval qs * 4294967296 ^ (j + 1) * V + nval U) (hb : Below w.heap.size w wr) (hgr : wr.grownBy wq (some gu)) (hou : OwnN wq w.heap.size (.slice (some ⟨gu, 0, none⟩) (la + 1) (la + 1)) (U.take j ++ (out ++ U.drop (j + (n + 1))))) (hol : out.length = n + 1) (hod : Digs out) (hg : g = nval ((U.drop j).take (n + 1)) / V) (hs : nval out = nval ((U.drop j).take (n + 1)) % V) (hz : z = (g : Int)) (hi : i = (j : Int) - 1) :
    LdInv w gv gu gq n la V Z vs (.int .i64 i) (wq.setCell ⟨gq, j, none⟩ (.int .u32 z)) := by
  subst hi
  obtain ⟨q1, q2, q3, q4, q5⟩ := hq
  obtain ⟨h1, h2, h3⟩ := window hU hUd hvl hvd hv (j := j) (by omega) hlt
  have hg32 : g < 4294967296 := by rw [hg, Nat.div_lt_iff_lt_mul hV]; exact h3
  have hgq := grown_cell wq gq j (.int .u32 z)
  have hbq : Below w.heap.size w wq := hb.grown hgr hb.size fun k e => by injection e with e; omega
  obtain ⟨s1, s2⟩ := ld_step hU (by omega) hol hUd h1 h2 hg hs hV hZ
  refine ⟨j, U.take j ++ (out ++ U.drop (j + (n + 1))), g :: qs, by omega, rfl, by rw [win_len (k := n + 1) (by omega) hol, hU], digs_app (hUd.take _) (digs_app hod (hUd.drop _)), hou.keep hgq (fun e => q1 e.symm), by rw [List.length_cons, hql]; omega, fun d hd => ?_, ?_, (hov.keep hgr q3).keep hgq (fun e => q2 e.symm), s1, s2, hbq.setCell (p := ⟨gq, j, none⟩) q5 _⟩
  · rcases List.mem_cons.1 hd with rfl | hd
    · exact hg32
    · exact hqd d hd
  · have := (hoq.keep hgr q1).put (i := j) (by simp [hql]; omega) z g hz
    rw [small_row] at this
    exact this
theorem long_end {X Y s V R Q : Nat} (hV : V = 2 ^ s * Y) (hZ : 2 ^ s * X = Q * V + R) (hR : R < V) : X / Y = Q ∧ X % Y = R / 2 ^ s := by
  have hs : 0 < 2 ^ s := Nat.pow_pos (by decide)
  generalize 2 ^ s = S at *
  subst hV
  have hY : 0 < Y := Nat.pos_of_ne_zero fun e => by subst e; omega
  obtain ⟨r, rfl⟩ : ∃ r, R = S * r := by
    have h1 : S ∣ Q * (S * Y) + R := ⟨X, hZ.symm⟩
    have h2 : S ∣ Q * (S * Y) := ⟨Q * Y, Nat.mul_left_comm ..⟩
    exact (Nat.dvd_add_right h2).1 h1
  have hr : r < Y := Nat.lt_of_mul_lt_mul_left hR
  have hX : X = Q * Y + r := by
    refine Nat.eq_of_mul_eq_mul_left hs ?_
    rw [hZ, Nat.mul_add, Nat.mul_left_comm]
  rw [Nat.mul_div_cancel_left _ hs, hX]
  refine ⟨?_, ?_⟩
  · rw [Nat.mul_comm, Nat.mul_add_div hY, Nat.div_eq_of_lt hr]; omega
  · rw [Nat.mul_comm, Nat.mul_add_mod, Nat.mod_eq_of_lt hr]
theorem digs_top {n : Nat} (h : (digs n).length - 1 < (digs n).length) : (digs n)[(digs n).length - 1] ≠ 0 := fun e => by
  have e1 := take_val (digs n) _ h
  rw [show (digs n).length - 1 + 1 = (digs n).length by omega, List.take_length, nval_digs, e, Nat.mul_zero, Nat.add_zero] at e1
  have h3 := nval_lt ((digs n).take ((digs n).length - 1)) fun x hx => digs_lt n x (List.mem_of_mem_take hx)
  rw [List.length_take, Nat.min_eq_left (by omega), ← e1] at h3
  have := digs_length_le h3
  omega
theorem lead_shift {d : Nat} (h0 : 0 < d) (h : d < 4294967296) : ∃ s : Nat, s < 32 ∧ (32 - (Lib.bitLen d : Int)) = (s : Int) ∧ 2147483648 ≤ 2 ^ s * d ∧ 2 ^ s * (d + 1) ≤ 4294967296 := by
  obtain ⟨h1, h2, h3⟩ := Lib.bitLenAux_bounds 64 d (by omega) (by omega)
  have hb : Lib.bitLen d ≤ 32 := Lib.bitLen_le d 32 (by decide) (by rw [show (2 : Nat) ^ 32 = 4294967296 by decide]; exact h)
  change 1 ≤ Lib.bitLen d at h1
  change 2 ^ (Lib.bitLen d - 1) ≤ d at h2
  change d < 2 ^ Lib.bitLen d at h3
  generalize Lib.bitLen d = b at *
  refine ⟨32 - b, by omega, by omega, ?_, ?_⟩
  · have e : 2 ^ (32 - b) * 2 ^ (b - 1) = 2147483648 := by rw [← Nat.pow_add, show 32 - b + (b - 1) = 31 by omega]
    rw [← e]; exact Nat.mul_le_mul_left _ h2
  · have e : 2 ^ (32 - b) * 2 ^ b = 4294967296 := by rw [← Nat.pow_add, show 32 - b + b = 32 by omega]
    rw [← e]; exact Nat.mul_le_mul_left _ h3
theorem ld_start {X V s n la : Nat} (hs : s < 32) (hX : X < 4294967296 ^ la) (hn : 1 ≤ n) (hnl : n ≤ la) (hV : 2147483648 * 4294967296 ^ (n - 1) ≤ V) : 2 ^ s * X < V * 4294967296 ^ (la + 1 - n) := by
  have h1 : 2 ^ s ≤ 2147483648 := by
    have h2 : (2 : Nat) ^ s ≤ 2 ^ 31 := Nat.pow_le_pow_right (by decide) (by omega)
    have h3 : (2 : Nat) ^ 31 = 2147483648 := by decide
    omega
  have e : 2147483648 * 4294967296 ^ la = 2147483648 * 4294967296 ^ (n - 1) * 4294967296 ^ (la + 1 - n) := by rw [Nat.mul_assoc, ← Nat.pow_add]; congr 2; omega
  have h2 : 2 ^ s * X ≤ 2147483648 * X := Nat.mul_le_mul_right _ h1
  have h3 : 2147483648 * 4294967296 ^ (n - 1) * 4294967296 ^ (la + 1 - n) ≤ V * 4294967296 ^ (la + 1 - n) := Nat.mul_le_mul_right _ hV
  have h4 : 2147483648 * X < 2147483648 * 4294967296 ^ la := Nat.mul_lt_mul_of_pos_left hX (by decide)
  omega
def QR (q r : Nat) (W : World) (v : Value) : Prop := ∃ a b, v = .tuple #[a, b] ∧ IsD W a q ∧ IsD W b r
def LD14 (gq : Nat) (gu : Nat) (la : Nat) (n : Nat) (m : Nat) (s : Nat) (a : Nat) (b : Nat) : List (Value → World → Prop) := [
  fun r _ => r = .slice (some ⟨gq, 0, none⟩) m m,
  fun r W => IsD W r a,
  fun r _ => r = .slice (some ⟨gu, 0, none⟩) (la + 1) (la + 1),
  fun r _ => r = .int .i64 (n : Int),
  fun r _ => r = .slice (some ⟨gu, 0, none⟩) n (la + 1),
  fun r _ => r = .int .u64 (s : Int),
  fun r W => IsD W r b,
  fun r W => IsD W r a,
  fun r W => IsD W r b]
theorem LD14_stab (gq : Nat) (gu : Nat) (la : Nat) (n : Nat) (m : Nat) (s : Nat) (a : Nat) (b : Nat) (W0 : World) : Stab W0 (LD14 gq gu la n m s a b) :=
  .eq <| .cons (fun _ _ _ _ h hb => IsD.below h hb) <| .eq <| .eq <| .eq <| .eq <| .cons (fun _ _ _ _ h hb => IsD.below h hb) <| .cons (fun _ _ _ _ h hb => IsD.below h hb) <| .cons (fun _ _ _ _ h hb => IsD.below h hb) <| .nil
set_option maxRecDepth 100000 in
set_option maxHeartbeats 8000000 in
theorem longD {u v : Value} {X Y : Nat} {w : World} (hu : IsD w u X) (hv : IsD w v Y) (hlx : (digs X).length ≤ 1048576) (h2 : 2 ≤ (digs Y).length) (hle : Y ≤ X) : Calls Tryz.prog 207 #[u, v] w (Gives (QR (X / Y) (X % Y)) w) := by
  obtain ⟨A, ca, da, rfl, hi1, hda⟩ := hu.open_
  obtain ⟨B, cb, db, rfl, hi2, hdb⟩ := hv.open_
  have hll : db.length ≤ da.length := by rw [hda.out, hdb.out]; exact digs_length_mono hle
  have hla : da.length ≤ 1048576 := by rw [hda.out]; exact hlx
  have hn2 : 2 ≤ db.length := by rw [hdb.out]; exact h2
  have HI1 := Lib.hid hi1
  have HI2 := Lib.hid hi2
  have HX : Hid (nval da = X) := by rw [hda.out]; exact nval_digs X
  have HY : Hid (nval db = Y) := by rw [hdb.out]; exact nval_digs Y
  clear hu hv hi1 hi2
  obtain ⟨b2, o2, rfl, hb2, hc2⟩ := HI2.out.digit (i := db.length - 1) (by omega)
  have cd := hc2 (db.length - 1) (by omega)
  have hd32 := HI2.out.lt (i := db.length - 1) (by omega)
  have hd0 : 0 < db[db.length - 1]'(by omega) := by
    refine Nat.pos_of_ne_zero fun e => ?_
    have hdd := hdb.out
    subst hdd
    exact digs_top (by omega) e
  obtain ⟨d, hd⟩ : ∃ d, db[db.length - 1]'(by omega) = d := ⟨_, rfl⟩
  rw [hd] at cd hd32 hd0
  obtain ⟨s, hs32, hsb, hs1, hs2⟩ := lead_shift hd0 hd32
  obtain ⟨n1, n2⟩ := norm_top (Y := Y) (n := db.length) (d := d) (s := s) (by omega) (by rw [← hdb.out]) (by
    have hdd := hdb.out
    subst hdd
    exact ⟨by omega, hd⟩) hs1 hs2
  have HL := Lib.hid (fun w => Tryz.bits_LeadingZeros32 (d : Int) w (by omega) (by omega))
  simp only [Int.toNat_natCast, hsb] at HL
  have HN1 := Lib.hid n1
  have HN2 := Lib.hid n2
  have g1 : (0 : Int) ≤ (db.length : Int) - 1 := by omega
  have g2 : ((db.length : Int) - 1).toNat = db.length - 1 := by omega
  clear hc2 hd hs1 hs2 n1 n2 hsb
  go_enter Tryz.func207, Tryz.ntmps207
  go_wp2_with fail
  refine (HL.out _).mono ?_
  rintro e w0 ⟨rfl, rfl⟩
  have HS1 := Lib.hid (shl_any _ cb db s db.length w0 HI2.out (by omega) hs32 (.inl rfl))
  go_wp2_with fail
  refine HS1.out.mono ?_
  rintro e w1 ⟨vs, c1, rfl, hov, hvd, hvl, _, hvv, hb1⟩
  obtain rfl : c1 = 0 := by
    rcases Nat.eq_zero_or_pos c1 with h | h
    · exact h
    · exfalso
      have h8 := HN1.out
      rw [← HY.out, ← hvv] at h8
      have : 1 * 4294967296 ^ db.length ≤ c1 * 4294967296 ^ db.length := Nat.mul_le_mul_right _ h
      omega
  rw [Nat.zero_mul, Nat.add_zero, HY.out] at hvv
  have hg0 : w0.heap.size < w1.heap.size := by
    obtain ⟨g', cap', e, _, hlt, _⟩ := hov.lies (by omega)
    injection e with e1
    injection e1 with e1
    injection e1 with e1
    omega
  have HOV := Lib.hid hov
  have HVD := Lib.hid hvd
  have HVL := Lib.hid hvl
  have HVV := Lib.hid hvv
  have HB1 := Lib.hid hb1
  have HS2 := Lib.hid (shl_any A ca da s (da.length + 1) w1 (HI1.out.below hb1) (by omega) hs32 (.inr rfl))
  rw [show ((da.length + 1 : Nat) : Int) = (da.length : Int) + 1 by omega] at HS2
  clear hov hvd hvl hvv hb1 HS1
  go_wp2_with fail
  refine HS2.out.mono ?_
  rintro e w2 ⟨us, c2, rfl, hou, hud, hul, hc0, huv, hb2'⟩
  obtain rfl : c2 = 0 := hc0 rfl
  rw [Nat.zero_mul, Nat.add_zero, HX.out] at huv
  have hg1 : w1.heap.size < w2.heap.size := by
    obtain ⟨g', cap', e, _, hlt, _⟩ := hou.lies (by omega)
    injection e with e1
    injection e1 with e1
    injection e1 with e1
    omega
  have HOV2 := Lib.hid (HOV.out.below hb2')
  have HOU := Lib.hid (hou.base_le (b := w0.heap.size) (by omega))
  have HUD := Lib.hid hud
  have HUL := Lib.hid hul
  have HUV := Lib.hid huv
  have HB2 := Lib.hid (below_then HB1.out hb2' (by omega))
  clear hou hud hul huv hb2' hc0 HS2
  obtain ⟨W, hmk, hoW, hbW, hzW⟩ := make_nats w2 (da.length + 1 - db.length) (by omega)
  have hmk := hmk .i64 .i64
  have HOQ := Lib.hid (hoW.base_le (b := w0.heap.size) (by omega))
  have HOVW := Lib.hid (HOV2.out.below hbW)
  have HOUW := Lib.hid (HOU.out.below hbW)
  have HBW := Lib.hid (below_then HB2.out hbW (by omega))
  have hzW' : w2.heap.size < W.heap.size := by omega
  clear hoW hbW hzW
  rw [show ((da.length + 1 - db.length : Nat) : Int) = (da.length : Int) - (db.length : Int) + 1 by omega] at hmk
  have HST := Lib.hid (ld_start (X := X) (V := 2 ^ s * Y) (n := db.length) (la := da.length) hs32 (by have := nval_lt da HI1.out.ok; rwa [HX.out] at this) (by omega) hll HN2.out)
  go_wp2
  clear hmk
  go_loopw [10] (fun i wr => LdInv w0 w0.heap.size w1.heap.size w2.heap.size db.length da.length (2 ^ s * Y) (2 ^ s * X) vs i wr) (fun i _ => (intOf i + 1).toNat)
  case atStart => exact ⟨da.length + 1 - db.length, us, [], Nat.le_refl _, i64_eq (by omega), HUL.out, HUD.out, HOUW.out, by simp, fun d hd => (by cases hd), by rw [List.append_nil]; exact HOQ.out, HOVW.out, by rw [HUV.out]; simp [nval], by rw [HUV.out]; exact HST.out, HBW.out⟩
  case round =>
    obtain ⟨k, U, qs, hk, rfl, hUl, hUd, hoU, hql, hqd, hoq, hov, hZ, hlt, hbr⟩ := hrel
    have HUL3 := Lib.hid hUl
    have HUD3 := Lib.hid hUd
    have HOU3 := Lib.hid hoU
    have HQL3 := Lib.hid hql
    have HQD3 := Lib.hid hqd
    have HOQ3 := Lib.hid hoq
    have HOV3 := Lib.hid hov
    have HZ3 := Lib.hid hZ
    have HLT3 := Lib.hid hlt
    have HB3 := Lib.hid hbr
    clear hUl hUd hoU hql hqd hoq hov hZ hlt hbr
    cases k with
    | zero =>
      have hZ := HZ3.out
      rw [Nat.pow_zero, Nat.mul_one] at hZ
      have hR := HLT3.out
      rw [Nat.pow_zero, Nat.mul_one] at hR
      obtain ⟨q1, q2⟩ := long_end (X := X) (Y := Y) (s := s) rfl hZ hR
      have hoq := HOQ3.out
      rw [List.replicate_zero, List.nil_append] at hoq
      obtain ⟨i1, i2⟩ := hoq.isN HQD3.out
      have HTR := Lib.hid (fun (W' : World) (hw : Below wr.heap.size wr W') => trimL (N := X / Y) (i1.below hw) i2 (by rw [HQL3.out]; omega) q1.symm)
      have hul : (U.take db.length).length = db.length := by rw [List.length_take, HUL3.out]; omega
      have huv : nval (U.take db.length) = nval U := by
        have h1 := nval_cut U db.length (by rw [HUL3.out]; omega)
        have h2 : nval (U.drop db.length) = 0 := by
          have h3 := HN1.out
          have h4 : nval U < 4294967296 ^ db.length := by omega
          refine Nat.eq_zero_of_not_pos fun hp => ?_
          have : 4294967296 ^ db.length * 1 ≤ 4294967296 ^ db.length * nval (U.drop db.length) := Nat.mul_le_mul_left _ hp
          omega
        rw [h2, Nat.mul_zero, Nat.add_zero] at h1
        exact h1.symm
      have hwin := HOU3.out.win HUD3.out 0 db.length (da.length + 1) (by rw [HUL3.out]; omega) (by omega) (by omega)
      rw [List.drop_zero] at hwin
      have HSH := Lib.hid (fun (W' : World) (hw : Below wr.heap.size wr W') => by
        have h1 := shr_any (some ⟨w1.heap.size, 0, none⟩) (da.length + 1) (U.take db.length) s W' (hwin.below hw) (by omega) hs32
        rw [hul, huv, ← q2] at h1
        exact h1)
      have hmi : (0 : Int) ≤ (db.length : Int) := by omega
      have hmj : (db.length : Int) ≤ (da.length : Int) + 1 := by omega
      clear hZ hR q1 q2 hoq i1 i2 hul huv hwin
      go_wp2
      refine wp_region_below [some 80, some 81, some 82, some 83, some 84, some 85, some 86, some 4, some 5] (LD14 w2.heap.size w1.heap.size da.length db.length ((da.length + 1 - db.length)) s ((X / Y)) ((X % Y))) (by kernel_rfl) (by kernel_rfl) (by rfl) (by rfl) (LD14_stab w2.heap.size w1.heap.size da.length db.length ((da.length + 1 - db.length)) s ((X / Y)) ((X % Y)) _) ?_ ?_
      ·
        refine Steps.cons trivial (fun T W hg => ?_) ?_
        · have e4 : T 4 = .slice (some ⟨w2.heap.size, 0, none⟩) ((da.length + 1 - db.length)) ((da.length + 1 - db.length)) := hg.old 1 7 4 (by kernel_rfl)
          have hwi := hg.wi
          clear hg
          refine OpRuns.of_ok (v := .slice (some ⟨w2.heap.size, 0, none⟩) ((da.length + 1 - db.length)) ((da.length + 1 - db.length))) (W' := W) ?_ ⟨rfl, Below.refl _ _⟩
          simp only [execOp, evT, e4]
          go_simp
        refine Steps.cons trivial (fun T W hg => ?_) ?_
        · have e80 : T 80 = .slice (some ⟨w2.heap.size, 0, none⟩) ((da.length + 1 - db.length)) ((da.length + 1 - db.length)) := hg.fact 1 0 80 (by kernel_rfl)
          have hwi := hg.wi
          clear hg
          refine OpRuns.of_call ?_ (((HTR.out W hwi)).mono fun e W' h => h)
          simp only [execOp, resolve, invoke, List.map_toArray, List.map_cons, List.map_nil, evT, e80]
          go_simp
        refine Steps.cons trivial (fun T W hg => ?_) ?_
        · have e9 : T 9 = .slice (some ⟨w1.heap.size, 0, none⟩) (da.length + 1) (da.length + 1) := hg.keep 9 (by rfl)
          have hwi := hg.wi
          clear hg
          refine OpRuns.of_ok (v := .slice (some ⟨w1.heap.size, 0, none⟩) (da.length + 1) (da.length + 1)) (W' := W) ?_ ⟨rfl, Below.refl _ _⟩
          simp only [execOp, evT, e9]
          go_simp
        refine Steps.cons trivial (fun T W hg => ?_) ?_
        · have e6 : T 6 = .int .i64 (db.length : Int) := hg.keep 6 (by rfl)
          have hwi := hg.wi
          clear hg
          refine OpRuns.of_ok (v := .int .i64 (db.length : Int)) (W' := W) ?_ ⟨rfl, Below.refl _ _⟩
          simp only [execOp, evT, e6]
          go_simp
        refine Steps.cons trivial (fun T W hg => ?_) ?_
        · have e82 : T 82 = .slice (some ⟨w1.heap.size, 0, none⟩) (da.length + 1) (da.length + 1) := hg.fact 1 2 82 (by kernel_rfl)
          have e83 : T 83 = .int .i64 (db.length : Int) := hg.fact 1 3 83 (by kernel_rfl)
          have hwi := hg.wi
          clear hg
          refine OpRuns.of_ok (v := .slice (some ⟨w1.heap.size, 0, none⟩) db.length (da.length + 1)) (W' := W) ?_ ⟨rfl, Below.refl _ _⟩
          simp only [execOp, evT, e82]
          go_simp
          simp only [evT, e83]
          go_simp
        refine Steps.cons trivial (fun T W hg => ?_) ?_
        · have e7 : T 7 = .int .u64 (s : Int) := hg.keep 7 (by rfl)
          have hwi := hg.wi
          clear hg
          refine OpRuns.of_ok (v := .int .u64 (s : Int)) (W' := W) ?_ ⟨rfl, Below.refl _ _⟩
          simp only [execOp, evT, e7]
          go_simp
        refine Steps.cons trivial (fun T W hg => ?_) ?_
        · have e84 : T 84 = .slice (some ⟨w1.heap.size, 0, none⟩) db.length (da.length + 1) := hg.fact 1 4 84 (by kernel_rfl)
          have e85 : T 85 = .int .u64 (s : Int) := hg.fact 1 5 85 (by kernel_rfl)
          have hwi := hg.wi
          clear hg
          refine OpRuns.of_call ?_ (((HSH.out W hwi)).mono fun e W' h => h)
          simp only [execOp, resolve, invoke, List.map_toArray, List.map_cons, List.map_nil, evT, e84, e85]
          go_simp
        refine Steps.cons trivial (fun T W hg => ?_) ?_
        · have p81 : (fun r W => IsD W r ((X / Y))) (T 81) W := hg.fact 1 1 81 (by kernel_rfl)
          simp only at p81
          have hwi := hg.wi
          clear hg
          exact OpRuns.of_ok (v := T 81) (W' := W) (by simp only [execOp, evT]; go_simp) ⟨p81, Below.refl _ _⟩
        refine Steps.cons trivial (fun T W hg => ?_) ?_
        · have p86 : (fun r W => IsD W r ((X % Y))) (T 86) W := hg.fact 1 6 86 (by kernel_rfl)
          simp only at p86
          have hwi := hg.wi
          clear hg
          exact OpRuns.of_ok (v := T 86) (W' := W) (by simp only [execOp, evT]; go_simp) ⟨p86, Below.refl _ _⟩
        exact Steps.nil
      · intro us W1 hlen hF hb
        obtain ⟨y0, us0, rfl, hl0⟩ := len_cons hlen
        clear hlen
        obtain ⟨y1, us1, rfl, hl1⟩ := len_cons hl0
        clear hl0
        obtain ⟨y2, us2, rfl, hl2⟩ := len_cons hl1
        clear hl1
        obtain ⟨y3, us3, rfl, hl3⟩ := len_cons hl2
        clear hl2
        obtain ⟨y4, us4, rfl, hl4⟩ := len_cons hl3
        clear hl3
        obtain ⟨y5, us5, rfl, hl5⟩ := len_cons hl4
        clear hl4
        obtain ⟨y6, us6, rfl, hl6⟩ := len_cons hl5
        clear hl5
        obtain ⟨y7, us7, rfl, hl7⟩ := len_cons hl6
        clear hl6
        obtain ⟨y8, us8, rfl, hl8⟩ := len_cons hl7
        clear hl7
        obtain rfl := len_nil hl8
        clear hl8
        have f7 : (fun r W => IsD W r ((X / Y))) y7 W1 := hF 7 (by decide)
        have f8 : (fun r W => IsD W r ((X % Y))) y8 W1 := hF 8 (by decide)
        clear hF
        simp only [updO, List.zip_cons_cons, List.zip_nil_right, List.setIfInBounds_toArray, List.set_cons_succ, List.set_cons_zero]
        have F7 : IsD W1 y7 (X / Y) := f7
        have F8 : IsD W1 y8 (X % Y) := f8
        have HF7 := Lib.hid F7
        have HF8 := Lib.hid F8
        have HBB := Lib.hid (below_then HB3.out hb HB3.out.size)
        clear f7 f8 F7 F8 hb
        go_wp2
        go_ret2
        exact ⟨_, rfl, ⟨_, _, rfl, HF7.out, HF8.out⟩, HBB.out⟩
    | succ j =>
      rw [show ((j + 1 : Nat) : Int) - 1 = (j : Int) by omega]
      obtain ⟨wn1, wn2, wn3⟩ := window HUL3.out HUD3.out HVL.out HVD.out HVV.out (j := j) (by omega) HLT3.out
      have hwl : ((U.drop j).take (db.length + 1)).length = db.length + 1 := by rw [List.length_take, List.length_drop, HUL3.out]; omega
      have hG : Guess ((U.drop j).take (db.length + 1)) vs db.length := ⟨hn2, hwl, HVL.out, (HUD3.out.drop j).take _, HVD.out, top_of (by omega) HVL.out HVD.out HVV.out HN2.out, by rw [HVV.out]; exact wn3⟩
      have hGU := guess_any (some ⟨w1.heap.size, j, none⟩) (some ⟨w0.heap.size, 0, none⟩) (da.length + 1 - j) db.length ((U.drop j).take (db.length + 1)) vs db.length wr (HOU3.out.win HUD3.out j (db.length + 1) _ (by rw [HUL3.out]; omega) (by omega) (by omega)) (by have := HOV3.out.win HVD.out 0 db.length db.length (by rw [HVL.out]; omega) (by omega) (by omega); rw [List.drop_zero, List.take_of_length_le (Nat.le_of_eq HVL.out)] at this; exact this) hG (by omega)
      rw [hwl, HVL.out, HVV.out] at hGU
      have HGU := Lib.hid hGU
      clear hGU hG hwl wn1 wn2 wn3
      have p1 : (0 : Int) ≤ (j : Int) := by omega
      have p2 : (j : Int) ≤ (j : Int) + (db.length : Int) + 1 := by omega
      have p3 : (j : Int) + (db.length : Int) + 1 ≤ (da.length : Int) + 1 := by omega
      go_wp2_with fail
      rw [show j + db.length + 1 - j = db.length + 1 by omega]
      refine HGU.out.mono ?_
      rintro e w3 ⟨g, rfl, gl1, gl2, gl3, gb⟩
      have HGL := Lib.hid (And.intro gl1 gl2)
      have HOU4 := Lib.hid (show OwnN w3 w0.heap.size (.slice (some ⟨w1.heap.size, 0, none⟩) U.length (da.length + 1)) U by rw [HUL3.out]; exact HOU3.out.below gb)
      have HOQ4 := Lib.hid (HOQ3.out.below gb)
      have HOV4 := Lib.hid (HOV3.out.below gb)
      have HB4 := Lib.hid (below_then HB3.out gb HB3.out.size)
      have hV0 : 0 < 2 ^ s * Y := Nat.lt_of_lt_of_le (Nat.mul_pos (by decide) (Nat.pow_pos (by decide))) HN2.out
      have HIV := Lib.hid (show IsN w3 (some ⟨w0.heap.size, 0, none⟩) db.length vs by have := HOV4.out.win HVD.out 0 db.length db.length (by rw [HVL.out]; omega) (by omega) (by omega); rw [List.drop_zero, List.take_of_length_le (Nat.le_of_eq HVL.out)] at this; exact this)
      have hSU := subm_any w1.heap.size (da.length + 1) w0.heap.size j db.length g (da.length + 1 - j) db.length (some ⟨w0.heap.size, 0, none⟩) U vs w3 HOU4.out HUD3.out HIV.out (fun b off e => by injection e with e; injection e with e; omega) HVL.out (by rw [HUL3.out]; omega) (by omega) gl3 (by omega) (by rw [HUL3.out]; omega)
      rw [HVL.out] at hSU
      have HSU := Lib.hid hSU
      have hqs : w2.heap.size ≠ w1.heap.size ∧ w2.heap.size ≠ w0.heap.size ∧ w0.heap.size ≠ w1.heap.size ∧ w0.heap.size ≤ w1.heap.size ∧ w0.heap.size ≤ w2.heap.size := ⟨by omega, by omega, by omega, by omega, by omega⟩
      have hqu : w2.heap.size ≠ w1.heap.size := by omega
      clear gl1 gl2 gb HGU hSU
      go_wp2_with fail
      rw [show j + db.length + 1 - j = db.length + 1 by omega]
      refine HSU.out.mono ?_
      rintro e w4 ⟨bb, out, rfl, hol, hod, hou, heq, hgr⟩
      rw [HVV.out] at heq
      have HOL := Lib.hid hol
      have HOD := Lib.hid hod
      have HGR := Lib.hid hgr
      have HOUT := Lib.hid hou
      rw [HUL3.out] at HOUT
      clear hol hod hou hgr HSU
      cases bb with
      | false =>
        rw [if_neg Bool.false_ne_true, Nat.add_zero] at heq
        obtain ⟨k1, k2⟩ := knuth_sub hV0 HGL.out.1 HGL.out.2 heq
        have K1 := Lib.hid k1
        have K2 := Lib.hid k2
        clear heq k1 k2
        have OQ4 := HOQ4.out.keep HGR.out hqu
        have hfr := OQ4.free j
        have hce := OQ4.cell (i := j) (by have := HQL3.out; simp; omega)
        obtain ⟨old, hold⟩ : ∃ old, (List.replicate (j + 1) 0 ++ qs)[j]'(by have := HQL3.out; simp; omega) = old := ⟨_, rfl⟩
        rw [hold] at hce
        have HNX := Lib.hid (fun z i hz hi => LdInv.next (z := z) (i := i) (g := g) hqs hk HUL3.out HUD3.out HVL.out HVD.out HVV.out hV0 HLT3.out HQL3.out HQD3.out HOQ4.out HOV4.out HZ3.out HB4.out HGR.out HOUT.out HOL.out HOD.out K1.out K2.out hz hi)
        clear OQ4 hold
        go_wp2
        go_roundw
        case rel => exact HNX.out _ _ (by first | rfl | omega) (by omega)
        case measure => simp [intOf]
      | true =>
        rw [if_pos rfl] at heq
        have hL1 : (U.take j ++ (out ++ U.drop (j + (db.length + 1)))).length = da.length + 1 := by rw [win_len (k := db.length + 1) (by rw [HUL3.out]; omega) HOL.out, HUL3.out]
        have hjl : (U.take j).length = j := by rw [List.length_take, HUL3.out]; omega
        have hdL : Digs (U.take j ++ (out ++ U.drop (j + (db.length + 1)))) := digs_app (HUD3.out.take _) (digs_app HOD.out (HUD3.out.drop _))
        have hAB := addb_any w1.heap.size (da.length + 1) w0.heap.size j db.length (da.length + 1 - j) db.length (some ⟨w0.heap.size, 0, none⟩) (U.take j ++ (out ++ U.drop (j + (db.length + 1)))) vs w4 (by rw [hL1]; exact HOUT.out) hdL (HIV.out.grown HGR.out fun b off e => by injection e with e; injection e with e; omega) (fun b off e => by injection e with e; injection e with e; omega) HVL.out (by rw [hL1]; omega) (by omega) (by omega) (by rw [hL1]; omega)
        rw [HVL.out] at hAB
        have HAB := Lib.hid hAB
        have HEQ := Lib.hid heq
        have HL1 := Lib.hid hL1
        have hg0 : 1 ≤ g := by
          refine Nat.pos_of_ne_zero fun e => ?_
          have h8 := HEQ.out
          rw [e, Nat.zero_mul, Nat.add_zero] at h8
          have h9 := nval_lt out HOD.out
          rw [HOL.out] at h9
          omega
        have hwg : IntKind.u64.wrap ((g : Int) - 1) = ((g - 1 : Nat) : Int) := by rw [IntKind.wrap_u64]; omega
        have hg32 : g - 1 < 4294967296 := by omega
        clear heq hL1 hdL hAB hjl
        go_wp2_with fail
        rw [show j + db.length + 1 - j = db.length + 1 by omega]
        refine HAB.out.mono ?_
        rintro e w5 ⟨out2, q, rfl, hol2, hod2, hou2, heq2, hgr2⟩
        have hjl : (U.take j).length = j := by rw [List.length_take, HUL3.out]; omega
        have e1 : ((U.take j ++ (out ++ U.drop (j + (db.length + 1)))).drop j).take (db.length + 1) = out := by
          rw [List.drop_append, List.drop_of_length_le (by omega), hjl, Nat.sub_self, List.drop_zero, List.nil_append, List.take_append, HOL.out, Nat.sub_self, List.take_zero, List.append_nil, List.take_of_length_le (by rw [HOL.out]; omega)]
        have e2 : (U.take j ++ (out ++ U.drop (j + (db.length + 1)))).take j = U.take j := by
          rw [List.take_append, hjl, Nat.sub_self, List.take_zero, List.append_nil, List.take_of_length_le (by omega)]
        have e3 : (U.take j ++ (out ++ U.drop (j + (db.length + 1)))).drop (j + (db.length + 1)) = U.drop (j + (db.length + 1)) := by
          rw [← List.append_assoc, List.drop_append, List.drop_of_length_le (by rw [List.length_append, hjl, HOL.out]; omega), List.length_append, hjl, HOL.out, Nat.sub_self, List.drop_zero, List.nil_append]
        rw [e1, HVV.out] at heq2
        rw [e2, e3, HL1.out] at hou2
        have hVM : 2 ^ s * Y ≤ 4294967296 ^ (db.length + 1) := by
          have := HN1.out
          rw [Nat.pow_succ]
          omega
        have l1 := nval_lt out HOD.out
        rw [HOL.out] at l1
        have l2 := nval_lt out2 hod2
        rw [hol2] at l2
        obtain ⟨k1, k2⟩ := knuth_add hV0 hVM HGL.out.1 HGL.out.2 l1 HEQ.out l2 heq2
        have K1 := Lib.hid (show g - 1 = nval ((U.drop j).take (db.length + 1)) / (2 ^ s * Y) by omega)
        have K2 := Lib.hid k2
        have HOL5 := Lib.hid hol2
        have HOD5 := Lib.hid hod2
        have HGR5 := Lib.hid (HGR.out.trans hgr2)
        have HOUT5 := Lib.hid hou2
        clear hjl e1 e2 e3 heq2 hou2 hVM l1 l2 k1 k2 hol2 hod2 hgr2 HAB
        have OQ4 := HOQ4.out.keep HGR5.out hqu
        have hfr := OQ4.free j
        have hce := OQ4.cell (i := j) (by have := HQL3.out; simp; omega)
        obtain ⟨old, hold⟩ : ∃ old, (List.replicate (j + 1) 0 ++ qs)[j]'(by have := HQL3.out; simp; omega) = old := ⟨_, rfl⟩
        rw [hold] at hce
        have HNX := Lib.hid (fun z i hz hi => LdInv.next (z := z) (i := i) (g := g - 1) hqs hk HUL3.out HUD3.out HVL.out HVD.out HVV.out hV0 HLT3.out HQL3.out HQD3.out HOQ4.out HOV4.out HZ3.out HB4.out HGR5.out HOUT5.out HOL5.out HOD5.out K1.out K2.out hz hi)
        clear OQ4 hold
        go_wp2
        go_roundw
        case rel => exact HNX.out _ _ (by first | rfl | omega) (by omega)
        case measure => simp [intOf]
end Go.Proofs.YtpinhcdcnaaihaaGreatDoor
