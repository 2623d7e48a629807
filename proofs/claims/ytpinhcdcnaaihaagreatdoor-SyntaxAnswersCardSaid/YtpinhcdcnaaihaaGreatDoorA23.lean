import Derived.Test.YtpinhcdcnaaihaaGreatDoorA22
namespace Go.Proofs.YtpinhcdcnaaihaaGreatDoor
open Go.RowKit
theorem digs_small {n : Nat} (h : n < 18446744073709551616) : (digs n).length ≤ 262144 := Nat.le_trans (digs_length_le (k := 2) (Nat.lt_of_lt_of_le h (by decide))) (by decide)
theorem mkq_le (ng : Bool) (N : Nat) {D : Nat} (hD : 0 < D) : (mkq ng N D).num.natAbs ≤ N ∧ (mkq ng N D).den ≤ D := by
  rcases Nat.eq_zero_or_pos N with h | h
  · subst h; rw [mkq_zero]; exact ⟨Nat.le_refl _, hD⟩
  · obtain ⟨_, h2, h3⟩ := mkq_parts ng h hD
    rw [h2, h3]
    exact ⟨Nat.div_le_self _ _, Nat.div_le_self _ _⟩
theorem Fit.mono {a b : Nat} {p : Rat} (h : Fit a p) (hab : a ≤ b) : Fit b p := ⟨Nat.le_trans h.num hab, Nat.le_trans h.den hab⟩
theorem lay_und_3 : Tryz.prog.underlying 3 = some (.int .i64) := by kernel_rfl
def decLE (n : Nat) : List UInt8 := if h : n = 0 then [] else UInt8.ofNat (48 + n % 10) :: decLE (n / 10)
termination_by n
decreasing_by omega
theorem decLE_zero : decLE 0 = [] := by rw [decLE]; simp
theorem decLE_pos {n : Nat} (h : 0 < n) : decLE n = UInt8.ofNat (48 + n % 10) :: decLE (n / 10) := by rw [decLE, dif_neg (by omega)]
theorem decLE_rev : ∀ n : Nat, 0 < n → (decLE n).reverse = Lib.decDigits n := by
  intro n
  induction n using Nat.strongRecOn with
  | ind n ih =>
    intro h
    rw [decLE_pos h, Lib.decDigits, List.reverse_cons]
    split
    · next h9 =>
      rw [show n / 10 = 0 by omega, decLE_zero, show n % 10 = n by omega]; rfl
    · next h9 => rw [ih (n / 10) (by omega) (by omega)]
theorem decLE_len : ∀ (k n : Nat), n < 10 ^ k → (decLE n).length ≤ k
  | 0, n, h => by
    have : n = 0 := by simpa using h
    subst this; rw [decLE_zero]; exact Nat.le_refl _
  | k + 1, n, h => by
    rcases Nat.eq_zero_or_pos n with rfl | h0
    · rw [decLE_zero]; simp
    · rw [decLE_pos h0, List.length_cons]
      have := decLE_len k (n / 10) (by rw [Nat.pow_succ] at h; omega)
      omega
theorem decLE_digs {n L : Nat} (h : (digs n).length ≤ L) : (decLE n).length ≤ 10 * L := by
  refine decLE_len _ _ ?_
  have h1 := nval_lt (digs n) (digs_lt n)
  rw [nval_digs] at h1
  have h2 : (4294967296 : Nat) ^ (digs n).length ≤ (10 ^ 10) ^ (digs n).length := Nat.pow_le_pow_left (by decide) _
  have h3 : (10 ^ 10 : Nat) ^ (digs n).length ≤ (10 ^ 10) ^ L := Nat.pow_le_pow_right (by decide) h
  rw [Nat.pow_mul]
  omega
theorem decLE_ne {n : Nat} (h : 0 < n) : 1 ≤ (decLE n).length := by rw [decLE_pos h]; simp
theorem group_step {acc : List UInt8} {q i g n : Nat} (hi : i < 9) (hg : g < 10 ^ (9 - i)) (hv : 0 < g ∨ 0 < q) (h : acc ++ decLE (q * 10 ^ (9 - i) + g) = decLE n) : g / 10 < 10 ^ (9 - (i + 1)) ∧ (acc ++ [UInt8.ofNat (48 + g % 10)]) ++ decLE (q * 10 ^ (9 - (i + 1)) + g / 10) = decLE n := by
  have e : 10 ^ (9 - i) = 10 ^ (9 - (i + 1)) * 10 := by rw [← Nat.pow_succ]; congr 1; omega
  rw [e] at hg h
  have h0 : 0 < 10 ^ (9 - (i + 1)) := Nat.pow_pos (by decide)
  obtain ⟨P, hP⟩ : ∃ P, 10 ^ (9 - (i + 1)) = P := ⟨_, rfl⟩
  rw [hP] at hg h h0 ⊢
  have hpos : 0 < q * (P * 10) + g := by
    rcases hv with h | h
    · omega
    · have : 0 < q * (P * 10) := Nat.mul_pos h (by omega)
      omega
  rw [← Nat.mul_assoc] at h hpos
  rw [decLE_pos hpos, show (q * P * 10 + g) % 10 = g % 10 by omega, show (q * P * 10 + g) / 10 = q * P + g / 10 by omega] at h
  exact ⟨by omega, by rw [← h]; simp⟩
theorem group_end {acc : List UInt8} {q i g n : Nat} (hi : i ≤ 9) (hg : g < 10 ^ (9 - i)) (hv : ¬ (i < 9 ∧ (0 < g ∨ 0 < q))) (h : acc ++ decLE (q * 10 ^ (9 - i) + g) = decLE n) : acc ++ decLE q = decLE n := by
  by_cases h9 : i = 9
  · subst h9
    have : g = 0 := by simpa using hg
    subst this
    simpa using h
  · have : g = 0 ∧ q = 0 := by omega
    obtain ⟨rfl, rfl⟩ := this
    simpa using h
theorem digs_ne {q : Nat} : 0 < (digs q).length ↔ 0 < q := by
  have := digs_len0 (n := q)
  omega
def RevI (l L : List UInt8) (k : Nat) : Prop := L.length = l.length ∧ ∀ t : Nat, L[t]? = if t < k ∨ l.length - k ≤ t then l.reverse[t]? else l[t]?
theorem rev_step {l L : List UInt8} {k : Nat} {a b : UInt8} (h : RevI l L k) (hk : k < l.length - 1 - k) (ha : L[k]? = some a) (hb : L[l.length - 1 - k]? = some b) : RevI l ((L.set k b).set (l.length - 1 - k) a) (k + 1) := by
  obtain ⟨h1, h2⟩ := h
  refine ⟨by simp [h1], fun t => ?_⟩
  have ha' := (h2 k).symm.trans ha
  have hb' := (h2 (l.length - 1 - k)).symm.trans hb
  rw [if_neg (by omega)] at ha' hb'
  rw [List.getElem?_set, List.getElem?_set, List.length_set]
  by_cases e1 : l.length - 1 - k = t
  · subst e1
    rw [if_pos rfl, if_pos (by omega), if_pos (by omega), List.getElem?_reverse (by omega), show l.length - 1 - (l.length - 1 - k) = k by omega, ha']
  · rw [if_neg e1]
    by_cases e2 : k = t
    · subst e2
      rw [if_pos rfl, if_pos (by omega), if_pos (by omega), List.getElem?_reverse (by omega), hb']
    · rw [if_neg e2, h2 t]
      by_cases h3 : t < k ∨ l.length - k ≤ t
      · rw [if_pos h3, if_pos (by omega)]
      · rw [if_neg h3, if_neg (by omega)]
theorem rev_end {l L : List UInt8} {k : Nat} (h : RevI l L k) (hk : ¬ k < l.length - 1 - k) : L = l.reverse := by
  apply List.ext_getElem?
  intro t
  rw [h.2 t]
  split
  · rfl
  · next h3 =>
    have : t = l.length - 1 - t := by omega
    rw [List.getElem?_reverse (by omega), ← this]
theorem rev_start (l : List UInt8) : RevI l l 0 := ⟨rfl, fun t => by
  split
  · next h =>
    rw [List.getElem?_eq_none (by omega), List.getElem?_eq_none (by simp; omega)]
  · rfl⟩
theorem rev_get {l L : List UInt8} {k t : Nat} (h : RevI l L k) (ht : t < l.length) : ∃ c, L[t]? = some c := ⟨_, List.getElem?_eq_getElem (by rw [h.1]; exact ht)⟩
theorem bget {L : List UInt8} {t : Nat} {c : UInt8} (h : L[t]? = some c) : (bytesT L)[t]? = some (.sc (.int .u8 c.toNat)) := by
  unfold bytesT; rw [List.getElem?_map, h]; rfl
theorem bset (L : List UInt8) (t : Nat) (c : UInt8) : (bytesT L).set t (.sc (.int .u8 c.toNat)) = bytesT (L.set t c) := by unfold bytesT; rw [List.map_set]
theorem rowE {e sz : Nat} {tt : Bool} {es es' : List Tree} (h : es = es') : [some (⟨e, sz, es, tt⟩ : Row)] = [some ⟨e, sz, es', tt⟩] := by rw [h]
theorem rem32_run {x y : Operand} (a : Nat) (w : World) : (do eqGuard .rem 114 x y (.int .u32 (a : Nat)) (.int .u32 10); binOp .rem 114 (.int .u32 (a : Nat)) (.int .u32 10) : Sem Value).run Tryz.prog w = .ok (.int .u32 ((a % 10 : Nat) : Int)) w := by
  go_simp
  rw [Int.tmod_eq_emod_of_nonneg (by omega)]
theorem quo32_run {x y : Operand} (a : Nat) (h : a < 4294967296) (w : World) : (do eqGuard .quo 114 x y (.int .u32 (a : Nat)) (.int .u32 10); binOp .quo 114 (.int .u32 (a : Nat)) (.int .u32 10) : Sem Value).run Tryz.prog w = .ok (.int .u32 ((a / 10 : Nat) : Int)) w := by
  go_simp
  rw [IntKind.wrap_u32]; omega
theorem wrapU32 {a : Int} {m : Nat} (h : a = m) (hm : m < 4294967296) : (Tree.sc (.int .u32 (IntKind.u32.wrap a))) = .sc (.int .u32 ((m : Nat) : Int)) := by
  subst h; rw [IntKind.wrap_u32]; congr 2; omega
theorem wrapU8 {m : Nat} (hm : m < 256) : (Tree.sc (.int .u8 (IntKind.u8.wrap ((m : Nat) : Int)))) = .sc (.int .u8 ((UInt8.ofNat m).toNat : Nat)) := by
  rw [IntKind.wrap_u8]; congr 2
theorem bdivD_ct (n d : Nat) (h : (digs n).length ≤ 1048576) (hd : 0 < d) (hd32 : d < 4294967296) : Ct 103 [natT n, .sc (.int .u32 (d : Nat))] (.tup [natT (n / d), .sc (.int .u32 ((n % d : Nat) : Int))]) := Ct.gives (K := QD n d) ⟨_, Tryz.func103, rfl, rfl⟩ (fun G W v hG h => by
    obtain ⟨a, rfl, h1⟩ := h
    exact .tup [a, .int .u32 _] _ ((isD_pt hG h1).cons (.sc _ .nil)) .nil) fun G w vs _ _ hp => by
  obtain ⟨u, v, rfl, h1, h2⟩ := pt_args2 hp
  cases h2
  exact divDigitD (pt_isD h1) h hd hd32
theorem bytesT_snoc (a : List UInt8) (c : UInt8) : bytesT (a ++ [c]) = bytesT a ++ [.sc (.int .u8 c.toNat)] := by simp [bytesT]
theorem digs_div {m n L : Nat} (h : (digs n).length ≤ L) (hm : m ≤ n) : (digs m).length ≤ L := Nat.le_trans (digs_length_mono hm) h
theorem lay_app_49 : appT Tryz.prog 49 = some (5, 1, 1) := by kernel_rfl
theorem lay_elm_49 : elmT Tryz.prog 49 = some (5, 1) := by kernel_rfl
theorem lay_one_5 : oneT Tryz.prog 5 = true := by kernel_rfl
theorem lay_siz_5 : (Tryz.prog.info? 5).map (·.size) = some 1 := by kernel_rfl
theorem lay_und_5 : Tryz.prog.underlying 5 = some (.int .u8) := by kernel_rfl
theorem lay_und_114 : Tryz.prog.underlying 114 = some (.int .u32) := by kernel_rfl
theorem lay_zer_5 : zerT Tryz.prog 5 = some [.int .u8 0] := by kernel_rfl
set_option maxRecDepth 100000 in
set_option maxHeartbeats 4000000 in
theorem bformat_ct (n : Nat) (hn : (digs n).length ≤ 262144) : Ct 63 [natT n] (.sc (.string ⟨(Lib.decDigits n).toArray⟩)) := by
  refine Ct.of (n := 72) Tryz.func63 rfl rfl rfl rfl rfl fun w0 G0 => ?_
  refine AWP.seq ?_
  refine AWP.region ?_
  refine AOps.e (t := .sc (.string (⟨#[]⟩))) rfl rfl rfl (ok_assign rfl rfl) ?_
  refine AOps.nil ?_
  refine AWP.seq ?_
  refine AWP.region ?_
  refine AOps.e (t := .sl ((digs n).map digT)) rfl rfl rfl (ok_move rfl rfl) ?_
  refine AOps.e (t := .sl ((digs n).map digT)) rfl rfl rfl (ok_call rfl (bnorm_ct n (Nat.le_trans hn (by decide))) rfl rfl) ?_
  refine AOps.e (t := .sl ((digs n).map digT)) rfl rfl rfl (ok_assign rfl rfl) ?_
  refine AOps.nil ?_
  refine AWP.seq ?_
  refine AWP.seq ?_
  refine AWP.region ?_
  refine AOps.e (t := .sl ((digs n).map digT)) rfl rfl rfl (ok_move rfl rfl) ?_
  refine AOps.e (t := .sc (.int .i64 (((digs n).length : Nat) : Int))) rfl rfl rfl (OpOK.cast (ok_len rfl lay_elm_25 rfl) (by simp only [List.length_map])) ?_
  refine AOps.e (t := .sc (.bool (decide ((digs n).length = 0)))) rfl rfl rfl (OpOK.cast (ok_bin rfl rfl rfl (fun _ => rfl)) (boolT (eqN ((digs n).length) (0)))) ?_
  refine AOps.nil ?_
  refine AWP.cond (b := decide ((digs n).length = 0)) rfl (fun hc1 => ?_) (fun hc1 => ?_)
  ·
    replace hc1 := of_decide_eq_true hc1
    refine AWP.seq ?_
    refine AWP.region ?_
    refine AOps.e (t := .sc (.string (⟨#[48]⟩))) rfl rfl rfl (ok_assign rfl rfl) ?_
    refine AOps.nil ?_
    refine AWP.ret ?_
    exact ⟨.inr rfl, _, .cons rfl .nil, (congrArg (fun l_ : List UInt8 => Tree.sc (.string ⟨l_.toArray⟩)) (by rw [digs_len0.1 hc1, Lib.decDigits]; rfl)), rfl⟩
  ·
    replace hc1 := of_decide_eq_false hc1
    refine AWP.skip ?_
    refine AWP.seq ?_
    refine AWP.region ?_
    refine AOps.nilE (k := 0) (e := 5) (sz := 1) (rs' := [some ⟨5, 1, bytesT [], false⟩]) (.inr rfl) rfl rfl rfl rfl rfl ?_
    refine AOps.nil ?_
    refine AWP.seq ?_
    refine AWP.block ?_
    refine AWP.loopL (fun n_ S_ => ∃ (m : Nat) (acc : List UInt8), (m ≤ n ∧ acc ++ decLE m = decLE n) ∧ n_ = m + 1 ∧ S_ = ⟨72, [(3, .sl ((digs m).map digT)), (4, .own 0)], [], [some ⟨5, 1, bytesT acc, false⟩]⟩) 0 1 ⟨n, [], ⟨Nat.le_refl _, rfl⟩, rfl, rfl⟩ ⟨rfl, rfl, rfl, .cons rfl rfl (.cons rfl rfl .nil), rfl⟩ ?_
    rintro n_ S_ ⟨m, acc, ⟨hmn, hacc⟩, rfl, rfl⟩
    refine AWP.seq ?_
    refine AWP.seq ?_
    refine AWP.region ?_
    refine AOps.e (t := .sl ((digs m).map digT)) rfl rfl rfl (ok_move rfl rfl) ?_
    refine AOps.e (t := .sc (.int .i64 (((digs m).length : Nat) : Int))) rfl rfl rfl (OpOK.cast (ok_len rfl lay_elm_25 rfl) (by simp only [List.length_map])) ?_
    refine AOps.e (t := .sc (.bool (decide (0 < (digs m).length)))) rfl rfl rfl (OpOK.cast (ok_bin rfl rfl rfl (fun _ => rfl)) (boolT (gtN ((digs m).length) (0)))) ?_
    refine AOps.nil ?_
    refine AWP.cond (b := decide (0 < (digs m).length)) rfl (fun hc2 => ?_) (fun hc2 => ?_)
    ·
      replace hc2 := of_decide_eq_true hc2
      have hm0 : 0 < m := digs_ne.1 hc2
      have hdm : (digs m).length ≤ 1048576 := Nat.le_trans (digs_div hn hmn) (by decide)
      refine AWP.skip ?_
      refine AWP.block ?_
      refine AWP.seq ?_
      refine AWP.region ?_
      refine AOps.e (t := .sl ((digs m).map digT)) rfl rfl rfl (ok_move rfl rfl) ?_
      refine AOps.e (t := .tup [.sl ((digs (m / 1000000000)).map digT), .sc (.int .u32 ((m % 1000000000 : Nat) : Int))]) rfl rfl rfl (ok_call rfl (bdivD_ct m 1000000000 hdm (by decide) (by decide)) rfl rfl) ?_
      refine AOps.e (t := .tup [.sl ((digs (m / 1000000000)).map digT), .sc (.int .u32 ((m % 1000000000 : Nat) : Int))]) rfl rfl rfl (ok_move rfl rfl) ?_
      refine AOps.e (t := .sl ((digs (m / 1000000000)).map digT)) rfl rfl rfl (ok_extract rfl rfl rfl) ?_
      refine AOps.e (t := .sc (.int .u32 ((m % 1000000000 : Nat) : Int))) rfl rfl rfl (ok_extract rfl rfl rfl) ?_
      refine AOps.e (t := .sl ((digs (m / 1000000000)).map digT)) rfl rfl rfl (ok_assign rfl rfl) ?_
      refine AOps.e (t := .sc (.int .u32 ((m % 1000000000 : Nat) : Int))) rfl rfl rfl (ok_assign rfl rfl) ?_
      refine AOps.nil ?_
      refine AWP.seq ?_
      refine AWP.region ?_
      refine AOps.e (t := .sl ((digs (m / 1000000000)).map digT)) rfl rfl rfl (ok_move rfl rfl) ?_
      refine AOps.e (t := .sl ((digs (m / 1000000000)).map digT)) rfl rfl rfl (ok_assign rfl rfl) ?_
      refine AOps.nil ?_
      refine AWP.seq ?_
      refine AWP.region ?_
      refine AOps.e (t := .sc (.int .i64 0)) rfl rfl rfl (ok_assign rfl rfl) ?_
      refine AOps.nil ?_
      refine AWP.block ?_
      refine AWP.loopL (fun n_ S_ => ∃ (i : Nat) (g : Nat) (ac2 : List UInt8), (i ≤ 9 ∧ g < 10 ^ (9 - i) ∧ ac2 ++ decLE (m / 1000000000 * 10 ^ (9 - i) + g) = decLE n) ∧ n_ = 9 - i ∧ S_ = ⟨72, [(3, .sl ((digs (m / 1000000000)).map digT)), (4, .own 0), (6, .sc (.int .u32 ((g : Nat) : Int))), (7, .sc (.int .i64 ((i : Nat) : Int)))], [], [some ⟨5, 1, bytesT ac2, false⟩]⟩) 0 1 ⟨0, (m % 1000000000), acc, ⟨by omega, Nat.mod_lt _ (by decide), by show acc ++ decLE (m / 1000000000 * 1000000000 + m % 1000000000) = decLE n; rw [Nat.div_add_mod']; exact hacc⟩, rfl, rfl⟩ ⟨rfl, rfl, rfl, .cons rfl rfl (.cons rfl rfl (.cons rfl rfl (.cons rfl rfl .nil))), rfl⟩ ?_
      rintro n_ S_ ⟨i, g, ac2, ⟨hi, hg, hq⟩, rfl, rfl⟩
      refine AWP.seq ?_
      refine AWP.seq ?_
      refine AWP.region ?_
      refine AOps.e (t := .sc (.int .i64 ((i : Nat) : Int))) rfl rfl rfl (ok_move rfl rfl) ?_
      refine AOps.e (t := .sc (.bool (decide (i < 9)))) rfl rfl rfl (OpOK.cast (ok_bin rfl rfl rfl (fun _ => rfl)) (boolT (ltN (i) (9)))) ?_
      refine AOps.e (t := .sc (.bool (decide (i < 9)))) rfl rfl rfl (ok_move rfl rfl) ?_
      refine AOps.c (t := .sc (.int .u32 ((g : Nat) : Int))) ((decide (i < 9)) = true) rfl rfl rfl plainG rfl rfl (fun hC => ok_move rfl rfl) ?_
      refine AOps.c (t := .sc (.bool (decide (0 < g)))) ((decide (i < 9)) = true) rfl rfl rfl plainG rfl rfl (fun hC => OpOK.cast (ok_bin rfl (if_pos hC) rfl (fun _ => rfl)) (boolT (gtN (g) (0)))) ?_
      refine AOps.c (t := .sc (.bool (decide (0 < g)))) ((decide (i < 9)) = true) rfl rfl rfl plainG rfl rfl (fun hC => ok_move rfl (if_pos hC)) ?_
      refine AOps.c (t := .sl ((digs (m / 1000000000)).map digT)) (((decide (i < 9)) = true) ∧ ((decide (0 < g)) = false)) rfl rfl rfl nestG rfl rfl (fun hC => ok_move rfl rfl) ?_
      refine AOps.c (t := .sc (.int .i64 (((digs (m / 1000000000)).length : Nat) : Int))) (((decide (i < 9)) = true) ∧ ((decide (0 < g)) = false)) rfl rfl rfl nestG rfl rfl (fun hC => OpOK.cast (ok_len rfl lay_elm_25 (if_pos hC)) (by simp only [List.length_map])) ?_
      refine AOps.c (t := .sc (.bool (decide (0 < (digs (m / 1000000000)).length)))) (((decide (i < 9)) = true) ∧ ((decide (0 < g)) = false)) rfl rfl rfl nestG rfl rfl (fun hC => OpOK.cast (ok_bin rfl (if_pos hC) rfl (fun _ => rfl)) (boolT (gtN ((digs (m / 1000000000)).length) (0)))) ?_
      refine AOps.c (t := .sc (.bool ((decide (0 < g)) || (decide (0 < (digs (m / 1000000000)).length))))) ((decide (i < 9)) = true) rfl rfl rfl plainG rfl rfl (fun hC => ok_pickS rfl (if_pos hC) (fun h_ => (boolT (by rw [h_]; rfl))) (fun h_ => (if_pos ⟨hC, h_⟩).trans (boolT (by rw [h_]; rfl)))) ?_
      refine AOps.e (t := .sc (.bool ((decide (i < 9)) && ((decide (0 < g)) || (decide (0 < (digs (m / 1000000000)).length)))))) rfl rfl rfl (ok_pickS rfl rfl (fun h_ => (if_pos h_).trans (boolT (by rw [h_]; rfl))) (fun h_ => (boolT (by rw [h_]; rfl)))) ?_
      refine AOps.nil ?_
      refine AWP.cond (b := (decide (i < 9)) && ((decide (0 < g)) || (decide (0 < (digs (m / 1000000000)).length)))) rfl (fun hc3 => ?_) (fun hc3 => ?_)
      ·
        have hv : i < 9 ∧ (0 < g ∨ 0 < m / 1000000000) := by
          rw [Bool.and_eq_true, Bool.or_eq_true, decide_eq_true_eq, decide_eq_true_eq, decide_eq_true_eq, digs_ne] at hc3
          exact hc3
        have hg32 : g < 4294967296 := Nat.lt_of_lt_of_le hg (Nat.le_trans (Nat.pow_le_pow_right (by decide) (show 9 - i ≤ 9 by omega)) (by decide))
        have hst := group_step hv.1 hg hv.2 hq
        have hlen : ac2.length + 1 ≤ 2621440 := by
          have h1 := decLE_digs hn
          rw [← hst.2] at h1
          simp only [List.length_append, List.length_singleton] at h1
          omega
        refine AWP.skip ?_
        refine AWP.seq ?_
        refine AWP.block ?_
        refine AWP.seq ?_
        refine AWP.region ?_
        refine AOps.e (t := .own 0) rfl rfl rfl (ok_move rfl rfl) ?_
        refine AOps.e (t := .sc (.int .u32 ((g : Nat) : Int))) rfl rfl rfl (ok_move rfl rfl) ?_
        refine AOps.e (t := .sc (.int .u32 ((g % 10 : Nat) : Int))) rfl rfl rfl (ok_bin rfl rfl rfl (fun w => rem32_run g w)) ?_
        refine AOps.e (t := .sc (.int .u32 ((48 + g % 10 : Nat) : Int))) rfl rfl rfl (OpOK.cast (ok_bin rfl rfl rfl (fun _ => rfl)) (wrapU32 (by omega) (by omega))) ?_
        refine AOps.e (t := .sc (.int .u8 ((UInt8.ofNat (48 + g % 10)).toNat : Int))) rfl rfl rfl (OpOK.cast (ok_conv rfl lay_und_114 lay_und_5 rfl) ((wrapU8 (by omega)))) ?_
        refine AOps.e (t := .sl [.sc (.int .u8 ((UInt8.ofNat (48 + g % 10)).toNat : Int))]) rfl rfl rfl (ok_buildSlice rfl lay_elm_49 lay_zer_5 rfl (by decide) (by decide) rfl rfl rfl rfl rfl) ?_
        refine AOps.appendE (bs' := []) (rs' := [some ⟨5, 1, bytesT (ac2 ++ [UInt8.ofNat (48 + g % 10)]), false⟩]) rfl rfl rfl rfl lay_app_49 rfl rfl rfl rfl (by intro e he; simp only [List.mem_cons, List.mem_nil_iff, or_false] at he; subst he; rfl) (AllC.lit rfl) (AllC.lit rfl) (by simp only [bytes_length, List.length_cons, List.length_nil]; omega) rfl rfl rfl (by rw [bytesT_snoc]; rfl) ?_
        refine AOps.e (t := .own 0) rfl rfl rfl (ok_assign rfl rfl) ?_
        refine AOps.nil ?_
        refine AWP.region ?_
        refine AOps.e (t := .sc (.int .u32 ((g : Nat) : Int))) rfl rfl rfl (ok_move rfl rfl) ?_
        refine AOps.e (t := .sc (.int .u32 ((g / 10 : Nat) : Int))) rfl rfl rfl (ok_bin rfl rfl rfl (fun w => quo32_run g hg32 w)) ?_
        refine AOps.e (t := .sc (.int .u32 ((g / 10 : Nat) : Int))) rfl rfl rfl (ok_assign rfl rfl) ?_
        refine AOps.nil ?_
        refine AWP.region ?_
        refine AOps.e (t := .sc (.int .i64 ((i : Nat) : Int))) rfl rfl rfl (ok_move rfl rfl) ?_
        refine AOps.e (t := .sc (.int .i64 ((i + 1 : Nat) : Int))) rfl rfl rfl (OpOK.cast (ok_bin rfl rfl rfl (fun _ => rfl)) (wrapN (by omega) (by omega))) ?_
        refine AOps.e (t := .sc (.int .i64 ((i + 1 : Nat) : Int))) rfl rfl rfl (ok_assign rfl rfl) ?_
        refine AOps.nil ?_
        refine ⟨_, _, ?_, ⟨i + 1, g / 10, (ac2 ++ [UInt8.ofNat (48 + g % 10)]), ?_, rfl, rfl⟩, ⟨rfl, rfl, rfl, .cons rfl rfl (.cons rfl rfl (.cons rfl rfl (.cons rfl rfl .nil))), rfl⟩⟩
        · omega
        · exact ⟨by omega, hst.1, hst.2⟩
      ·
        have hv : ¬ (i < 9 ∧ (0 < g ∨ 0 < m / 1000000000)) := by
          rw [Bool.and_eq_false_iff, Bool.or_eq_false_iff, decide_eq_false_iff_not, decide_eq_false_iff_not, decide_eq_false_iff_not, digs_ne] at hc3
          omega
        refine AWP.exit ?_
        refine ⟨_, _, ?_, ⟨(m / 1000000000), ac2, ?_, rfl, rfl⟩, ⟨rfl, rfl, rfl, .cons rfl rfl (.cons rfl rfl .nil), rfl⟩⟩
        · omega
        · exact ⟨by omega, group_end hi hg hv hq⟩
    ·
      replace hc2 := of_decide_eq_false hc2
      have hm0 : m = 0 := by have := mt digs_ne.2 hc2; omega
      subst hm0
      have hac : acc = decLE n := by rw [decLE_zero, List.append_nil] at hacc; exact hacc
      have hn0 : 0 < n := Nat.pos_of_ne_zero fun e => hc1 (digs_len0.2 e)
      have hal : 1 ≤ acc.length := by rw [hac]; exact decLE_ne hn0
      have hal2 : acc.length ≤ 2621440 := by rw [hac]; exact decLE_digs hn
      refine AWP.exit ?_
      refine AWP.seq ?_
      refine AWP.seq ?_
      refine AWP.region ?_
      refine AOps.e (t := .own 0) rfl rfl rfl (ok_move rfl rfl) ?_
      refine AOps.e (t := .sc (.int .i64 ((acc.length : Nat) : Int))) rfl rfl rfl (OpOK.cast (ok_len_own rfl lay_elm_49 rfl rfl) (by simp only [List.length_map, bytes_length])) ?_
      refine AOps.e (t := .sc (.int .i64 ((acc.length - 1 : Nat) : Int))) rfl rfl rfl (OpOK.cast (ok_bin rfl rfl rfl (fun _ => rfl)) (wrapN (by omega) (by omega))) ?_
      refine AOps.e (t := .sc (.int .i64 0)) rfl rfl rfl (ok_assign rfl rfl) ?_
      refine AOps.e (t := .sc (.int .i64 ((acc.length - 1 : Nat) : Int))) rfl rfl rfl (ok_assign rfl rfl) ?_
      refine AOps.nil ?_
      refine AWP.block ?_
      refine AWP.loopL (fun n_ S_ => ∃ (k : Nat) (L : List UInt8), (k ≤ acc.length - 1 - k + 1 ∧ RevI acc L k) ∧ n_ = acc.length - k ∧ S_ = ⟨72, [(4, .own 0), (8, .sc (.int .i64 ((k : Nat) : Int))), (9, .sc (.int .i64 (((acc.length - 1 - k) : Nat) : Int)))], [], [some ⟨5, 1, bytesT L, false⟩]⟩) 0 1 ⟨0, acc, ⟨by omega, rev_start _⟩, rfl, rfl⟩ ⟨rfl, rfl, rfl, .cons rfl rfl (.cons rfl rfl (.cons rfl rfl .nil)), rfl⟩ ?_
      rintro n_ S_ ⟨k, L, ⟨hk, hrv⟩, rfl, rfl⟩
      refine AWP.seq ?_
      refine AWP.seq ?_
      refine AWP.region ?_
      refine AOps.e (t := .sc (.int .i64 ((k : Nat) : Int))) rfl rfl rfl (ok_move rfl rfl) ?_
      refine AOps.e (t := .sc (.int .i64 (((acc.length - 1 - k) : Nat) : Int))) rfl rfl rfl (ok_move rfl rfl) ?_
      refine AOps.e (t := .sc (.bool (decide (k < (acc.length - 1 - k))))) rfl rfl rfl (OpOK.cast (ok_bin rfl rfl rfl (fun _ => rfl)) (boolT (ltN (k) ((acc.length - 1 - k))))) ?_
      refine AOps.nil ?_
      refine AWP.cond (b := decide (k < (acc.length - 1 - k))) rfl (fun hc4 => ?_) (fun hc4 => ?_)
      ·
        replace hc4 := of_decide_eq_true hc4
        obtain ⟨a, ha⟩ := rev_get (t := k) hrv (by omega)
        obtain ⟨b, hb⟩ := rev_get (t := acc.length - 1 - k) hrv (by omega)
        refine AWP.skip ?_
        refine AWP.seq ?_
        refine AWP.block ?_
        refine AWP.leG (sl' := [(4, .own 0), (8, .sc (.int .i64 ((k : Nat) : Int))), (9, .sc (.int .i64 (((acc.length - 1 - k) : Nat) : Int))), (51, .sc (.bool (decide (k < (acc.length - 1 - k)))))]) ⟨rfl, ⟨rfl, ⟨rfl, ⟨rfl, trivial⟩⟩⟩⟩ ?_
        refine AWP.drawW (fu := 3) [some 56, some 57, some 58, some 59, some 60, some 61, some 62, some 63, some 64, some 65, some 66, some 67, some 68, none, some 69, none] [13, 15] [.own 0, .sc (.int .i64 ((k : Nat) : Int)), .own 0, .sc (.int .i64 (((acc.length - 1 - k) : Nat) : Int)), .own 0, .sc (.int .i64 (((acc.length - 1 - k) : Nat) : Int)), .elp 0 (acc.length - 1 - k), .sc (.int .u8 (b.toNat : Int)), .own 0, .sc (.int .i64 ((k : Nat) : Int)), .elp 0 k, .sc (.int .u8 (a.toNat : Int)), .elp 0 k, .any, .elp 0 (acc.length - 1 - k), .any] [⟨[13], [(4, .own 0), (8, .sc (.int .i64 ((k : Nat) : Int))), (9, .sc (.int .i64 (((acc.length - 1 - k) : Nat) : Int))), (51, .sc (.bool (decide (k < (acc.length - 1 - k)))))], [], [some ⟨5, 1, bytesT (L.set k b), false⟩], [.own 0, .sc (.int .i64 ((k : Nat) : Int)), .own 0, .sc (.int .i64 (((acc.length - 1 - k) : Nat) : Int)), .own 0, .sc (.int .i64 (((acc.length - 1 - k) : Nat) : Int)), .elp 0 (acc.length - 1 - k), .sc (.int .u8 (b.toNat : Int)), .own 0, .sc (.int .i64 ((k : Nat) : Int)), .elp 0 k, .sc (.int .u8 (a.toNat : Int)), .elp 0 k, .any, .elp 0 (acc.length - 1 - k), .any]⟩] ⟨[15, 13], [(4, .own 0), (8, .sc (.int .i64 ((k : Nat) : Int))), (9, .sc (.int .i64 (((acc.length - 1 - k) : Nat) : Int))), (51, .sc (.bool (decide (k < (acc.length - 1 - k)))))], [], [some ⟨5, 1, bytesT ((L.set k b).set (acc.length - 1 - k) a), false⟩], [.own 0, .sc (.int .i64 ((k : Nat) : Int)), .own 0, .sc (.int .i64 (((acc.length - 1 - k) : Nat) : Int)), .own 0, .sc (.int .i64 (((acc.length - 1 - k) : Nat) : Int)), .elp 0 (acc.length - 1 - k), .sc (.int .u8 (b.toNat : Int)), .own 0, .sc (.int .i64 ((k : Nat) : Int)), .elp 0 k, .sc (.int .u8 (a.toNat : Int)), .elp 0 k, .any, .elp 0 (acc.length - 1 - k), .any]⟩ (by kernel_rfl) rfl (by kernel_rfl) (by kernel_rfl) (by kernel_rfl) rfl rfl ?_ ?_
        ·
          refine .op [] (by kernel_rfl) ?_ ?_
          · refine .ok (t := .own 0) (by kernel_rfl) rfl rfl (ok_move rfl rfl) ?_
            refine .no (by kernel_rfl) ?_
            refine .no (by kernel_rfl) ?_
            exact .nil
          refine .op [] (by kernel_rfl) ?_ ?_
          · refine .ok (t := .sc (.int .i64 ((k : Nat) : Int))) (by kernel_rfl) rfl rfl (ok_move rfl rfl) ?_
            refine .no (by kernel_rfl) ?_
            refine .no (by kernel_rfl) ?_
            exact .nil
          refine .op [] (by kernel_rfl) ?_ ?_
          · refine .ok (t := .own 0) (by kernel_rfl) rfl rfl (ok_move rfl rfl) ?_
            refine .ok (t := .own 0) (by kernel_rfl) rfl rfl (ok_move rfl rfl) ?_
            refine .no (by kernel_rfl) ?_
            exact .nil
          refine .op [] (by kernel_rfl) ?_ ?_
          · refine .ok (t := .sc (.int .i64 (((acc.length - 1 - k) : Nat) : Int))) (by kernel_rfl) rfl rfl (ok_move rfl rfl) ?_
            refine .ok (t := .sc (.int .i64 (((acc.length - 1 - k) : Nat) : Int))) (by kernel_rfl) rfl rfl (ok_move rfl rfl) ?_
            refine .no (by kernel_rfl) ?_
            exact .nil
          refine .op [] (by kernel_rfl) ?_ ?_
          · refine .ok (t := .own 0) (by kernel_rfl) rfl rfl (ok_move rfl rfl) ?_
            refine .no (by kernel_rfl) ?_
            refine .no (by kernel_rfl) ?_
            exact .nil
          refine .op [] (by kernel_rfl) ?_ ?_
          · refine .ok (t := .sc (.int .i64 (((acc.length - 1 - k) : Nat) : Int))) (by kernel_rfl) rfl rfl (ok_move rfl rfl) ?_
            refine .no (by kernel_rfl) ?_
            refine .no (by kernel_rfl) ?_
            exact .nil
          refine .op [4, 5] (by kernel_rfl) ?_ ?_
          · refine .ok (t := .elp 0 (acc.length - 1 - k)) (by kernel_rfl) rfl rfl (ok_index_own (j := (acc.length - 1 - k)) rfl lay_elm_49 rfl rfl rfl rfl rfl (by show _ < (bytesT _).length; first | (rw [bytes_length, hrv.1]; omega) | (rw [bytes_length, List.length_set, hrv.1]; omega) | (rw [bytes_length, List.length_set, List.length_set, hrv.1]; omega)) (Nat.mul_one _)) ?_
            refine .no (by kernel_rfl) ?_
            refine .no (by kernel_rfl) ?_
            exact .nil
          refine .op [6] (by kernel_rfl) ?_ ?_
          · refine .ok (t := .sc (.int .u8 (b.toNat : Int))) (by kernel_rfl) rfl rfl (ok_load_elp1 (c := .sc (.int .u8 (b.toNat : Int))) (j := (acc.length - 1 - k)) (fo := 0) rfl rfl rfl lay_one_5 (bget hb) (by simp) (by show 0 < 1; decide) rfl) ?_
            refine .no (by kernel_rfl) ?_
            refine .no (by kernel_rfl) ?_
            exact .nil
          refine .op [] (by kernel_rfl) ?_ ?_
          · refine .ok (t := .own 0) (by kernel_rfl) rfl rfl (ok_move rfl rfl) ?_
            refine .no (by kernel_rfl) ?_
            refine .no (by kernel_rfl) ?_
            exact .nil
          refine .op [] (by kernel_rfl) ?_ ?_
          · refine .ok (t := .sc (.int .i64 ((k : Nat) : Int))) (by kernel_rfl) rfl rfl (ok_move rfl rfl) ?_
            refine .no (by kernel_rfl) ?_
            refine .no (by kernel_rfl) ?_
            exact .nil
          refine .op [8, 9] (by kernel_rfl) ?_ ?_
          · refine .ok (t := .elp 0 k) (by kernel_rfl) rfl rfl (ok_index_own (j := k) rfl lay_elm_49 rfl rfl rfl rfl rfl (by show _ < (bytesT _).length; first | (rw [bytes_length, hrv.1]; omega) | (rw [bytes_length, List.length_set, hrv.1]; omega) | (rw [bytes_length, List.length_set, List.length_set, hrv.1]; omega)) (Nat.mul_one _)) ?_
            refine .no (by kernel_rfl) ?_
            refine .no (by kernel_rfl) ?_
            exact .nil
          refine .op [10] (by kernel_rfl) ?_ ?_
          · refine .ok (t := .sc (.int .u8 (a.toNat : Int))) (by kernel_rfl) rfl rfl (ok_load_elp1 (c := .sc (.int .u8 (a.toNat : Int))) (j := k) (fo := 0) rfl rfl rfl lay_one_5 (bget ha) (by simp) (by show 0 < 1; decide) rfl) ?_
            refine .no (by kernel_rfl) ?_
            refine .no (by kernel_rfl) ?_
            exact .nil
          refine .op [0, 1] (by kernel_rfl) ?_ ?_
          · refine .ok (t := .elp 0 k) (by kernel_rfl) rfl rfl (ok_index_own (j := k) rfl lay_elm_49 rfl rfl rfl rfl rfl (by show _ < (bytesT _).length; first | (rw [bytes_length, hrv.1]; omega) | (rw [bytes_length, List.length_set, hrv.1]; omega) | (rw [bytes_length, List.length_set, List.length_set, hrv.1]; omega)) (Nat.mul_one _)) ?_
            refine .no (by kernel_rfl) ?_
            refine .no (by kernel_rfl) ?_
            exact .nil
          refine .op [7, 12] (by kernel_rfl) ?_ ?_
          · refine .wr 1 id .any (by kernel_rfl) rfl rfl (wr_storeElp (j := k) rfl rfl rfl rfl (by simp) (by show _ < (bytesT L).length; rw [bytes_length, hrv.1]; omega) rfl rfl rfl rfl rfl lay_siz_5 rfl (rowE (bset _ _ _))) rfl rfl rfl rfl (.k rfl (.k rfl (.k rfl (.k rfl (.k rfl (.k rfl (.k rfl (.k rfl (.k rfl (.k rfl (.k rfl (.k rfl (.k rfl (.i rfl (.k rfl (.k rfl .nil)))))))))))))))) ?_
            refine .no (by kernel_rfl) ?_
            refine .no (by kernel_rfl) ?_
            exact .nil
          refine .op [2, 3] (by kernel_rfl) ?_ ?_
          · refine .no (by kernel_rfl) ?_
            refine .ok (t := .elp 0 (acc.length - 1 - k)) (by kernel_rfl) rfl rfl (ok_index_own (j := (acc.length - 1 - k)) rfl lay_elm_49 rfl rfl rfl rfl rfl (by show _ < (bytesT _).length; first | (rw [bytes_length, hrv.1]; omega) | (rw [bytes_length, List.length_set, hrv.1]; omega) | (rw [bytes_length, List.length_set, List.length_set, hrv.1]; omega)) (Nat.mul_one _)) ?_
            refine .no (by kernel_rfl) ?_
            exact .nil
          refine .op [11, 14] (by kernel_rfl) ?_ ?_
          · refine .no (by kernel_rfl) ?_
            refine .wr 2 id .any (by kernel_rfl) rfl rfl (wr_storeElp (j := (acc.length - 1 - k)) rfl rfl rfl rfl (by simp) (by show _ < (bytesT _).length; rw [bytes_length, List.length_set, hrv.1]; omega) rfl rfl rfl rfl rfl lay_siz_5 rfl (rowE (bset _ _ _))) rfl rfl rfl rfl (.k rfl (.k rfl (.k rfl (.k rfl (.k rfl (.k rfl (.k rfl (.k rfl (.k rfl (.k rfl (.k rfl (.k rfl (.k rfl (.k rfl (.k rfl (.i rfl .nil)))))))))))))))) ?_
            refine .no (by kernel_rfl) ?_
            exact .nil
          exact .nil
        refine AWP.region ?_
        refine AOps.e (t := .sc (.int .i64 ((k : Nat) : Int))) rfl rfl rfl (ok_move rfl rfl) ?_
        refine AOps.e (t := .sc (.int .i64 ((k + 1 : Nat) : Int))) rfl rfl rfl (OpOK.cast (ok_bin rfl rfl rfl (fun _ => rfl)) (wrapN (by omega) (by omega))) ?_
        refine AOps.e (t := .sc (.int .i64 (((acc.length - 1 - k) : Nat) : Int))) rfl rfl rfl (ok_move rfl rfl) ?_
        refine AOps.e (t := .sc (.int .i64 (((acc.length - 1 - k) - 1 : Nat) : Int))) rfl rfl rfl (OpOK.cast (ok_bin rfl rfl rfl (fun _ => rfl)) (wrapN (by omega) (by omega))) ?_
        refine AOps.e (t := .sc (.int .i64 ((k + 1 : Nat) : Int))) rfl rfl rfl (ok_assign rfl rfl) ?_
        refine AOps.e (t := .sc (.int .i64 (((acc.length - 1 - k) - 1 : Nat) : Int))) rfl rfl rfl (ok_assign rfl rfl) ?_
        refine AOps.nil ?_
        refine ⟨_, _, ?_, ⟨k + 1, ((L.set k b).set (acc.length - 1 - k) a), ?_, rfl, rfl⟩, ⟨rfl, rfl, rfl, .cons rfl rfl (.cons rfl rfl (.cons rfl rfl .nil)), rfl⟩⟩
        · omega
        · exact ⟨by omega, rev_step hrv (by omega) ha hb⟩
      ·
        replace hc4 := of_decide_eq_false hc4
        refine AWP.exit ?_
        refine AWP.seq ?_
        refine AWP.rel 0 (bs' := []) (rs' := [none]) rfl rfl rfl rfl ?_
        refine AWP.region ?_
        refine AOps.e (t := .sl (bytesT L)) rfl rfl rfl (ok_move rfl rfl) ?_
        refine AOps.e (t := .sc (.string (⟨L.toArray⟩))) rfl rfl rfl (ok_convBS rfl rfl) ?_
        refine AOps.e (t := .sc (.string (⟨L.toArray⟩))) rfl rfl rfl (ok_assign rfl rfl) ?_
        refine AOps.nil ?_
        refine AWP.ret ?_
        exact ⟨.inr rfl, _, .cons rfl .nil, (congrArg (fun l_ : List UInt8 => Tree.sc (.string ⟨l_.toArray⟩)) (by rw [rev_end hrv hc4, hac]; exact decLE_rev n hn0)), rfl⟩
theorem mkq_int (n : Nat) : mkq false n 1 = (n : Rat) := by
  unfold mkq
  rw [if_neg (by simp), Rat.mkRat_one]; rfl
set_option maxRecDepth 100000 in
set_option maxHeartbeats 4000000 in
theorem rint_ct (n : Nat) (hn : n < 4611686018427387904) : Ct 8 [.sc (.int .i64 ((n : Nat) : Int))] (ratT (n : Rat)) := by
  refine Ct.of (n := 18) Tryz.func8 rfl rfl rfl rfl rfl fun w0 G0 => ?_
  refine AWP.seq ?_
  refine AWP.region ?_
  refine AOps.allocE (b := 0) (bs' := [(27, [.sc (.bool false), .sl [], .sl []])]) rfl rfl rfl rfl lay_zer_27 rfl rfl rfl rfl ?_
  refine AOps.nil ?_
  refine AWP.seq ?_
  refine AWP.seq ?_
  refine AWP.region ?_
  refine AOps.e (t := .sc (.int .i64 ((n : Nat) : Int))) rfl rfl rfl (ok_move rfl rfl) ?_
  refine AOps.e (t := .sc (.bool (decide (n < 0)))) rfl rfl rfl (OpOK.cast (ok_bin rfl rfl rfl (fun _ => rfl)) (boolT (ltN (n) (0)))) ?_
  refine AOps.nil ?_
  refine AWP.cond (b := decide (n < 0)) rfl (fun hc1 => ?_) (fun hc1 => ?_)
  ·
    replace hc1 := of_decide_eq_true hc1
    exact absurd hc1 (by omega)
  ·
    replace hc1 := of_decide_eq_false hc1
    refine AWP.skip ?_
    refine AWP.seq ?_
    refine AWP.region ?_
    refine AOps.e (t := .sc (.int .i64 ((n : Nat) : Int))) rfl rfl rfl (ok_move rfl rfl) ?_
    refine AOps.e (t := .sc (.int .u64 ((n : Nat) : Int))) rfl rfl rfl (OpOK.cast (ok_conv rfl lay_und_3 lay_und_56 rfl) (intT (by rw [IntKind.wrap_u64]; omega))) ?_
    refine AOps.e (t := natT n) rfl rfl rfl (ok_call rfl (rof_ct n (by omega)) rfl rfl) ?_
    refine AOps.e (t := natT 1) rfl rfl rfl (ok_call rfl (rof_ct 1 (by decide)) rfl rfl) ?_
    refine AOps.e (t := .agg [.sc (.bool (decide ((mkq false n 1).num < 0))), natT ((mkq false n 1).num.natAbs), natT ((mkq false n 1).den)]) rfl rfl rfl (ok_call rfl (rfrac_ct _ _ _ (Nat.le_trans (digs_small (by omega)) (by decide)) (by decide) (by decide)) rfl rfl) ?_
    refine AOps.storeE (bs' := [(27, [.sc (.bool (decide ((mkq false n 1).num < 0))), natT ((mkq false n 1).num.natAbs), natT ((mkq false n 1).den)])]) rfl rfl rfl rfl rfl rfl rfl rfl rfl lay_siz_27 rfl rfl rfl ?_
    refine AOps.nil ?_
    refine AWP.ret ?_
    exact ⟨.inr rfl, _, .cons ⟨_, _, _, _, rfl, rfl, .inl ⟨_, lay_agg_27, rfl, rfl⟩⟩ .nil, ratE (mkq_int n), rfl⟩
set_option maxRecDepth 100000 in
set_option maxHeartbeats 4000000 in
theorem rnew_ct (a b : Int) (ha0 : -9223372036854775808 ≤ a) (ha1 : a ≤ 9223372036854775807) (hb0 : -9223372036854775808 ≤ b) (hb1 : b ≤ 9223372036854775807) (hb : b ≠ 0) : Ct 19 [.sc (.int .i64 a), .sc (.int .i64 b)] (.tup [ratT (mkq ((decide (a < 0)) != (decide (b < 0))) a.natAbs b.natAbs), .sc (.int .i64 0)]) := by
  refine Ct.of (n := 19) Tryz.func19 rfl rfl rfl rfl rfl fun w0 G0 => ?_
  refine AWP.seq ?_
  refine AWP.region ?_
  refine AOps.allocE (b := 0) (bs' := [(27, [.sc (.bool false), .sl [], .sl []])]) rfl rfl rfl rfl lay_zer_27 rfl rfl rfl rfl ?_
  refine AOps.e (t := .sc (.int .i64 0)) rfl rfl rfl (ok_assign rfl rfl) ?_
  refine AOps.nil ?_
  refine AWP.seq ?_
  refine AWP.seq ?_
  refine AWP.region ?_
  refine AOps.e (t := .sc (.int .i64 b)) rfl rfl rfl (ok_move rfl rfl) ?_
  refine AOps.e (t := .sc (.bool (b == 0))) rfl rfl rfl (ok_bin rfl rfl rfl (fun _ => rfl)) ?_
  refine AOps.nil ?_
  refine AWP.cond (b := b == 0) rfl (fun hc1 => ?_) (fun hc1 => ?_)
  ·
    exact absurd (by simpa using hc1) hb
  ·
    refine AWP.skip ?_
    refine AWP.seq ?_
    refine AWP.region ?_
    refine AOps.e (t := .sc (.int .i64 a)) rfl rfl rfl (ok_move rfl rfl) ?_
    refine AOps.e (t := .sc (.bool (decide (a < 0)))) rfl rfl rfl (ok_bin rfl rfl rfl (fun _ => rfl)) ?_
    refine AOps.e (t := .sc (.int .i64 b)) rfl rfl rfl (ok_move rfl rfl) ?_
    refine AOps.e (t := .sc (.bool (decide (b < 0)))) rfl rfl rfl (ok_bin rfl rfl rfl (fun _ => rfl)) ?_
    refine AOps.e (t := .sc (.bool ((decide (a < 0)) != (decide (b < 0))))) rfl rfl rfl (ok_bin rfl rfl rfl (fun _ => rfl)) ?_
    refine AOps.e (t := .sc (.int .i64 a)) rfl rfl rfl (ok_move rfl rfl) ?_
    refine AOps.e (t := natT a.natAbs) rfl rfl rfl (ok_call rfl (rsize_ct a ha0 ha1) rfl rfl) ?_
    refine AOps.e (t := .sc (.int .i64 b)) rfl rfl rfl (ok_move rfl rfl) ?_
    refine AOps.e (t := natT b.natAbs) rfl rfl rfl (ok_call rfl (rsize_ct b hb0 hb1) rfl rfl) ?_
    refine AOps.e (t := .agg [.sc (.bool (decide ((mkq ((decide (a < 0)) != (decide (b < 0))) a.natAbs b.natAbs).num < 0))), natT ((mkq ((decide (a < 0)) != (decide (b < 0))) a.natAbs b.natAbs).num.natAbs), natT ((mkq ((decide (a < 0)) != (decide (b < 0))) a.natAbs b.natAbs).den)]) rfl rfl rfl (ok_call rfl (rfrac_ct _ _ _ (Nat.le_trans (digs_small (by omega)) (by decide)) (Nat.le_trans (digs_small (by omega)) (by decide)) (by omega)) rfl rfl) ?_
    refine AOps.storeE (bs' := [(27, [.sc (.bool (decide ((mkq ((decide (a < 0)) != (decide (b < 0))) a.natAbs b.natAbs).num < 0))), natT ((mkq ((decide (a < 0)) != (decide (b < 0))) a.natAbs b.natAbs).num.natAbs), natT ((mkq ((decide (a < 0)) != (decide (b < 0))) a.natAbs b.natAbs).den)])]) rfl rfl rfl rfl rfl rfl rfl rfl rfl lay_siz_27 rfl rfl rfl ?_
    refine AOps.e (t := .sc (.int .i64 0)) rfl rfl rfl (ok_assign rfl rfl) ?_
    refine AOps.nil ?_
    refine AWP.ret ?_
    exact ⟨.inr rfl, _, .cons ⟨_, _, _, _, rfl, rfl, .inl ⟨_, lay_agg_27, rfl, rfl⟩⟩ (.cons rfl .nil), rfl, rfl⟩
theorem strTr {a b : ByteArray} (h : a = b) : (Tree.sc (.string a)) = .sc (.string b) := by rw [h]
def decB (n : Nat) : ByteArray := ⟨(Lib.decDigits n).toArray⟩
def fmtH (q : Rat) : ByteArray := if q.num < 0 then (⟨#[45]⟩ : ByteArray) ++ decB q.num.natAbs else decB q.num.natAbs
def fmtR (q : Rat) : ByteArray := if q.den = 1 then fmtH q else fmtH q ++ ((⟨#[47]⟩ : ByteArray) ++ decB q.den)
set_option maxRecDepth 100000 in
set_option maxHeartbeats 4000000 in
theorem format_ct (q : Rat) (hq : Fit 262144 q) (h1 : (decB q.num.natAbs).size ≤ 1073741824) (h2 : (decB q.den).size ≤ 1073741824) : Ct 24 [ratT q] (.sc (.string (fmtR q))) := by
  refine Ct.of (n := 25) Tryz.func24 rfl rfl rfl rfl rfl fun w0 G0 => ?_
  refine AWP.seq ?_
  refine AWP.region ?_
  refine AOps.boxE (cs := [.sc (.bool (decide (q.num < 0))), natT q.num.natAbs, natT q.den]) (b := 0) (bs' := [(27, [.sc (.bool (decide (q.num < 0))), natT q.num.natAbs, natT q.den])]) rfl rfl rfl rfl rfl rfl rfl rfl rfl rfl ?_
  refine AOps.e (t := .sc (.string (⟨#[]⟩))) rfl rfl rfl (ok_assign rfl rfl) ?_
  refine AOps.nil ?_
  refine AWP.seq ?_
  refine AWP.region ?_
  refine AOps.e (t := .agg [.sc (.bool (decide (q.num < 0))), natT q.num.natAbs, natT q.den]) rfl rfl rfl (ok_load_box rfl rfl rfl lay_agg_27 rfl rfl) ?_
  refine AOps.e (t := .agg [.sc (.bool (decide (q.num < 0))), natT q.num.natAbs, natT q.den]) rfl rfl rfl (ok_call rfl (normR_ct q hq) rfl rfl) ?_
  refine AOps.allocE (b := 1) (bs' := [(27, [.sc (.bool (decide (q.num < 0))), natT q.num.natAbs, natT q.den]), (27, [.sc (.bool false), .sl [], .sl []])]) rfl rfl rfl rfl lay_zer_27 rfl rfl rfl rfl ?_
  refine AOps.storeE (bs' := [(27, [.sc (.bool (decide (q.num < 0))), natT q.num.natAbs, natT q.den]), (27, [.sc (.bool (decide (q.num < 0))), natT q.num.natAbs, natT q.den])]) rfl rfl rfl rfl rfl rfl rfl rfl rfl lay_siz_27 rfl rfl rfl ?_
  refine AOps.nil ?_
  refine AWP.seq ?_
  obtain ⟨t, ht⟩ : ∃ t, fmtH q = t := ⟨_, rfl⟩
  have hts : t.size ≤ 1073741825 := by
    rw [← ht]; unfold fmtH; split
    · rw [ByteArray.size_append]; have := h1; show 1 + _ ≤ _; omega
    · omega
  refine AWP.region ?_
  refine AOps.e (t := .box 1 1) rfl rfl rfl (ok_field_box rfl rfl lay_fld_27_1 rfl) ?_
  refine AOps.e (t := natT q.num.natAbs) rfl rfl rfl (ok_load_box1 rfl rfl rfl lay_one_25 rfl) ?_
  refine AOps.e (t := .sc (.string (decB q.num.natAbs))) rfl rfl rfl (ok_call rfl (bformat_ct _ hq.num) rfl rfl) ?_
  refine AOps.e (t := .sc (.string (decB q.num.natAbs))) rfl rfl rfl (ok_assign rfl rfl) ?_
  refine AOps.nil ?_
  refine AWP.seq ?_
  refine AWP.join ⟨25, [(1, .box 0 0), (2, .sc (.string (⟨#[]⟩))), (3, .box 1 0), (4, .sc (.string t))], [(27, [.sc (.bool (decide (q.num < 0))), natT q.num.natAbs, natT q.den]), (27, [.sc (.bool (decide (q.num < 0))), natT q.num.natAbs, natT q.den])], []⟩ 2 0 ?_ ?_
  ·
    refine AWP.seq ?_
    refine AWP.region ?_
    refine AOps.e (t := .box 1 0) rfl rfl rfl (ok_field_box rfl rfl lay_fld_27_0 rfl) ?_
    refine AOps.e (t := .sc (.bool (decide (q.num < 0)))) rfl rfl rfl (ok_load_box1 rfl rfl rfl lay_one_4 rfl) ?_
    refine AOps.nil ?_
    refine AWP.cond (b := decide (q.num < 0)) rfl (fun hc1 => ?_) (fun hc1 => ?_)
    ·
      replace hc1 := of_decide_eq_true hc1
      refine AWP.region ?_
      refine AOps.e (t := .sc (.string (decB q.num.natAbs))) rfl rfl rfl (ok_move rfl rfl) ?_
      refine AOps.e (t := .sc (.string ((⟨#[45]⟩ : ByteArray) ++ decB q.num.natAbs))) rfl rfl rfl (ok_bin rfl rfl rfl (fun _ => cat_run (by show 1 + _ ≤ _; omega))) ?_
      refine AOps.e (t := .sc (.string ((⟨#[45]⟩ : ByteArray) ++ decB q.num.natAbs))) rfl rfl rfl (ok_assign rfl rfl) ?_
      refine AOps.nil ?_
      exact ⟨rfl, rfl, rfl, .cons rfl rfl (.cons rfl rfl (.cons rfl rfl (.cons (strTr (by rw [← ht]; unfold fmtH; rw [if_pos hc1])) rfl .nil))), rfl⟩
    ·
      replace hc1 := of_decide_eq_false hc1
      refine AWP.skip ?_
      exact ⟨rfl, rfl, rfl, .cons rfl rfl (.cons rfl rfl (.cons rfl rfl (.cons (strTr (by rw [← ht]; unfold fmtH; rw [if_neg hc1])) rfl .nil))), rfl⟩
  ·
    refine AWP.seq ?_
    refine AWP.seq ?_
    refine AWP.region ?_
    refine AOps.e (t := .box 1 2) rfl rfl rfl (ok_field_box rfl rfl lay_fld_27_2 rfl) ?_
    refine AOps.e (t := natT q.den) rfl rfl rfl (ok_load_box1 rfl rfl rfl lay_one_25 rfl) ?_
    refine AOps.e (t := .sc (.bool (decide (q.den = 1)))) rfl rfl rfl (ok_call rfl (isOne_ct _) rfl rfl) ?_
    refine AOps.e (t := .sc (.bool (!(decide (q.den = 1))))) rfl rfl rfl (ok_un rfl rfl (fun _ => rfl)) ?_
    refine AOps.nil ?_
    refine AWP.cond (b := !(decide (q.den = 1))) rfl (fun hc2 => ?_) (fun hc2 => ?_)
    ·
      refine AWP.region ?_
      refine AOps.e (t := .sc (.string t)) rfl rfl rfl (ok_move rfl rfl) ?_
      refine AOps.e (t := .box 1 2) rfl rfl rfl (ok_field_box rfl rfl lay_fld_27_2 rfl) ?_
      refine AOps.e (t := natT q.den) rfl rfl rfl (ok_load_box1 rfl rfl rfl lay_one_25 rfl) ?_
      refine AOps.e (t := .sc (.string (decB q.den))) rfl rfl rfl (ok_call rfl (bformat_ct _ hq.den) rfl rfl) ?_
      refine AOps.e (t := .sc (.string ((⟨#[47]⟩ : ByteArray) ++ decB q.den))) rfl rfl rfl (ok_bin rfl rfl rfl (fun _ => cat_run (by show 1 + _ ≤ _; omega))) ?_
      refine AOps.e (t := .sc (.string (t ++ ((⟨#[47]⟩ : ByteArray) ++ decB q.den)))) rfl rfl rfl (ok_bin rfl rfl rfl (fun _ => cat_run (by rw [ByteArray.size_append]; show _ + (1 + _) ≤ _; omega))) ?_
      refine AOps.e (t := .sc (.string (t ++ ((⟨#[47]⟩ : ByteArray) ++ decB q.den)))) rfl rfl rfl (ok_assign rfl rfl) ?_
      refine AOps.nil ?_
      refine AWP.seq ?_
      refine AWP.region ?_
      refine AOps.e (t := .sc (.string (t ++ ((⟨#[47]⟩ : ByteArray) ++ decB q.den)))) rfl rfl rfl (ok_move rfl rfl) ?_
      refine AOps.e (t := .sc (.string (t ++ ((⟨#[47]⟩ : ByteArray) ++ decB q.den)))) rfl rfl rfl (ok_assign rfl rfl) ?_
      refine AOps.nil ?_
      refine AWP.ret ?_
      exact ⟨.inr rfl, _, .cons rfl .nil, strTr (by unfold fmtR; rw [ht, if_neg (by simpa using hc2)]), rfl⟩
    ·
      refine AWP.skip ?_
      refine AWP.seq ?_
      refine AWP.region ?_
      refine AOps.e (t := .sc (.string t)) rfl rfl rfl (ok_move rfl rfl) ?_
      refine AOps.e (t := .sc (.string t)) rfl rfl rfl (ok_assign rfl rfl) ?_
      refine AOps.nil ?_
      refine AWP.ret ?_
      exact ⟨.inr rfl, _, .cons rfl .nil, strTr (by unfold fmtR; rw [ht, if_pos (by simpa using hc2)]), rfl⟩
theorem dec_lenk (k : Nat) : ∀ (u : Nat), u < 10 ^ k → 0 < k → (Lib.decDigits u).length ≤ k := by
  induction k with
  | zero => intro u _ h; exact absurd h (by omega)
  | succ k ih =>
    intro u hu _
    rw [Lib.decDigits]
    split
    · simp
    · rename_i h
      have hk : 0 < k := by
        rcases Nat.eq_zero_or_pos k with rfl | h'
        · simp at hu; omega
        · exact h'
      have := ih (u / 10) (by rw [Nat.div_lt_iff_lt_mul (by decide)]; rw [Nat.pow_succ] at hu; exact hu) hk
      simp; omega
theorem itoa_len (n : Int) (h0 : -9223372036854775808 ≤ n) (h1 : n ≤ 9223372036854775807) : (Lib.itoa n).length ≤ 21 := by
  have p20 : (10 ^ 20 : Nat) = 100000000000000000000 := by decide
  unfold Lib.itoa
  split
  · have := dec_lenk 20 n.natAbs (by rw [p20]; omega) (by decide)
    simp; omega
  · have := dec_lenk 20 n.toNat (by rw [p20]; omega) (by decide)
    omega
theorem fmt_len {t n : Int} {st : ByteArray} (hval : validB t n st = true) (h0 : -9223372036854775808 ≤ n) (h1 : n ≤ 9223372036854775807) : 1 ≤ (fmtL t n st).length ∧ (fmtL t n st).length ≤ 130 := by
  by_cases ht : t = 1
  · subst ht
    rw [show fmtL 1 n st = Lib.itoa n by simp [fmtL, hval]]
    obtain ⟨c, r, e, hc⟩ := itoa_head n
    have := itoa_len n h0 h1
    rw [e] at this ⊢
    simp at this ⊢; omega
  · obtain ⟨rfl, rfl, hst, _⟩ := two_of_valid ht hval
    rw [show fmtL 2 0 st = [39] ++ dbl st.data.toList ++ [39] by simp [fmtL, hval]]
    have := dbl_length_le st.data.toList
    have h64 : st.data.toList.length = st.size := by simp
    simp only [List.length_append, List.length_cons, List.length_nil]
    omega
def V.fmt (v : V) : List UInt8 := fmtL v.t v.n v.s
def V.rng (v : V) : Prop := -9223372036854775808 ≤ v.n ∧ v.n ≤ 9223372036854775807
theorem vfmt_ct (v : V) (h : v.rng) : Ct 23 [v.tree] (.sc (.string ⟨v.fmt.toArray⟩)) := Ct.sc ⟨_, Tryz.func23, rfl, rfl⟩ fun G w vs hE _ hp => by
  obtain ⟨u, rfl, h1⟩ := pt_args1 hp
  rw [pt_val h1]
  exact format_any v.t v.n v.s w h.1 h.2 hE
def strTree (s : ByteArray) : Tree := .sc (.string s)
theorem str_sized (l : List ByteArray) : Sized 1 (l.map strTree) := Sized.map _ l fun _ => rfl
theorem vfmt_len (v : V) (h : v.rng) : v.fmt.length ≤ 130 := by
  unfold V.fmt
  cases hv : validB v.t v.n v.s with
  | true => exact (fmt_len hv h.1 h.2).2
  | false => unfold fmtL; rw [hv]; simp
def intZ (x : Int) : Tree := .sc (.int .i64 x)
theorem intZ_sized (l : List Int) : Sized 1 (l.map intZ) := Sized.map _ l fun _ => rfl
theorem rInt_ct (n : Int) : Ct 6 [.sc (.int .i64 n)] (V.tree ⟨1, n, ⟨#[]⟩⟩) := ⟨⟨_, Tryz.func6, rfl, rfl⟩, fun G w vs _ _ hp => by
  obtain ⟨u, rfl, h1⟩ := pt_args1 hp
  cases h1
  refine (refInt_any n w).mono ?_
  rintro e w' ⟨rfl, hb⟩
  exact ⟨_, rfl, .agg [.int .i64 1, .int .i64 n, .string ⟨#[]⟩] _ (.sc _ (.sc _ (.sc _ .nil))) .nil, hb⟩⟩
theorem rStr_ct (s : ByteArray) : Ct 7 [.sc (.string s)] (V.tree ⟨2, 0, s⟩) := ⟨⟨_, Tryz.func7, rfl, rfl⟩, fun G w vs _ _ hp => by
  obtain ⟨u, rfl, h1⟩ := pt_args1 hp
  cases h1
  refine (refStr_any s w).mono ?_
  rintro e w' ⟨rfl, hb⟩
  exact ⟨_, rfl, .agg [.int .i64 2, .int .i64 0, .string s] _ (.sc _ (.sc _ (.sc _ .nil))) .nil, hb⟩⟩
theorem cmpI_one (d : Nat) : (cmpI (d : Nat) ((1 : Nat) : Int) != 0) = !decide (d = 1) := by
  unfold cmpI
  by_cases h : d = 1
  · subst h; rfl
  · rw [decide_eq_false h]
    by_cases h2 : (d : Int) < ((1 : Nat) : Int)
    · rw [if_pos h2]; rfl
    · rw [if_neg h2, if_pos (by omega)]; rfl
theorem rvfmt_ct (v : V) (h : v.rng) (hs : v.s.size ≤ 9223372036854775807) : Ct 65 [v.tree] (.sc (.string ⟨v.fmt.toArray⟩)) := Ct.sc ⟨_, Tryz.func65, rfl, rfl⟩ fun G w vs _ _ hp => by
  obtain ⟨u, rfl, h1⟩ := pt_args1 hp
  rw [pt_val h1]
  exact refFmt_any v.t v.n v.s w h.1 h.2 hs
theorem decB_size (n : Nat) : (decB n).size = (Lib.decDigits n).length := by simp [decB, ByteArray.size]
set_option maxRecDepth 100000 in
set_option maxHeartbeats 4000000 in
theorem rformat_ct (q : Rat) (hq : Fit 262144 q) (h1 : (decB q.num.natAbs).size ≤ 1073741824) (h2 : (decB q.den).size ≤ 1073741824) : Ct 27 [ratT q] (.sc (.string (fmtR q))) := by
  refine Ct.of (n := 26) Tryz.func27 rfl rfl rfl rfl rfl fun w0 G0 => ?_
  refine AWP.seq ?_
  refine AWP.region ?_
  refine AOps.boxE (cs := [.sc (.bool (decide (q.num < 0))), natT q.num.natAbs, natT q.den]) (b := 0) (bs' := [(27, [.sc (.bool (decide (q.num < 0))), natT q.num.natAbs, natT q.den])]) rfl rfl rfl rfl rfl rfl rfl rfl rfl rfl ?_
  refine AOps.e (t := .sc (.string (⟨#[]⟩))) rfl rfl rfl (ok_assign rfl rfl) ?_
  refine AOps.nil ?_
  refine AWP.seq ?_
  refine AWP.region ?_
  refine AOps.e (t := .agg [.sc (.bool (decide (q.num < 0))), natT q.num.natAbs, natT q.den]) rfl rfl rfl (ok_load_box rfl rfl rfl lay_agg_27 rfl rfl) ?_
  refine AOps.e (t := .agg [.sc (.bool (decide (q.num < 0))), natT q.num.natAbs, natT q.den]) rfl rfl rfl (ok_call rfl (rnormR_ct q (hq.mono (by decide))) rfl rfl) ?_
  refine AOps.allocE (b := 1) (bs' := [(27, [.sc (.bool (decide (q.num < 0))), natT q.num.natAbs, natT q.den]), (27, [.sc (.bool false), .sl [], .sl []])]) rfl rfl rfl rfl lay_zer_27 rfl rfl rfl rfl ?_
  refine AOps.storeE (bs' := [(27, [.sc (.bool (decide (q.num < 0))), natT q.num.natAbs, natT q.den]), (27, [.sc (.bool (decide (q.num < 0))), natT q.num.natAbs, natT q.den])]) rfl rfl rfl rfl rfl rfl rfl rfl rfl lay_siz_27 rfl rfl rfl ?_
  refine AOps.nil ?_
  refine AWP.seq ?_
  obtain ⟨t, ht⟩ : ∃ t, fmtH q = t := ⟨_, rfl⟩
  have hts : t.size ≤ 1073741825 := by
    rw [← ht]; unfold fmtH; split
    · rw [ByteArray.size_append]; have := h1; show 1 + _ ≤ _; omega
    · omega
  refine AWP.region ?_
  refine AOps.e (t := .box 1 1) rfl rfl rfl (ok_field_box rfl rfl lay_fld_27_1 rfl) ?_
  refine AOps.e (t := natT q.num.natAbs) rfl rfl rfl (ok_load_box1 rfl rfl rfl lay_one_25 rfl) ?_
  refine AOps.e (t := .sc (.string (decB q.num.natAbs))) rfl rfl rfl (ok_call rfl (rfmt_ct _ (Nat.le_trans hq.num (by decide)) (by rw [← decB_size]; exact h1)) rfl rfl) ?_
  refine AOps.e (t := .sc (.string (decB q.num.natAbs))) rfl rfl rfl (ok_assign rfl rfl) ?_
  refine AOps.nil ?_
  refine AWP.seq ?_
  refine AWP.join ⟨26, [(1, .box 0 0), (2, .sc (.string (⟨#[]⟩))), (3, .box 1 0), (4, .sc (.string t))], [(27, [.sc (.bool (decide (q.num < 0))), natT q.num.natAbs, natT q.den]), (27, [.sc (.bool (decide (q.num < 0))), natT q.num.natAbs, natT q.den])], []⟩ 2 0 ?_ ?_
  ·
    refine AWP.seq ?_
    refine AWP.region ?_
    refine AOps.e (t := .box 1 0) rfl rfl rfl (ok_field_box rfl rfl lay_fld_27_0 rfl) ?_
    refine AOps.e (t := .sc (.bool (decide (q.num < 0)))) rfl rfl rfl (ok_load_box1 rfl rfl rfl lay_one_4 rfl) ?_
    refine AOps.nil ?_
    refine AWP.cond (b := decide (q.num < 0)) rfl (fun hc1 => ?_) (fun hc1 => ?_)
    ·
      replace hc1 := of_decide_eq_true hc1
      refine AWP.region ?_
      refine AOps.e (t := .sc (.string (decB q.num.natAbs))) rfl rfl rfl (ok_move rfl rfl) ?_
      refine AOps.e (t := .sc (.string ((⟨#[45]⟩ : ByteArray) ++ decB q.num.natAbs))) rfl rfl rfl (ok_bin rfl rfl rfl (fun _ => cat_run (by show 1 + _ ≤ _; omega))) ?_
      refine AOps.e (t := .sc (.string ((⟨#[45]⟩ : ByteArray) ++ decB q.num.natAbs))) rfl rfl rfl (ok_assign rfl rfl) ?_
      refine AOps.nil ?_
      exact ⟨rfl, rfl, rfl, .cons rfl rfl (.cons rfl rfl (.cons rfl rfl (.cons (strTr (by rw [← ht]; unfold fmtH; rw [if_pos hc1])) rfl .nil))), rfl⟩
    ·
      replace hc1 := of_decide_eq_false hc1
      refine AWP.skip ?_
      exact ⟨rfl, rfl, rfl, .cons rfl rfl (.cons rfl rfl (.cons rfl rfl (.cons (strTr (by rw [← ht]; unfold fmtH; rw [if_neg hc1])) rfl .nil))), rfl⟩
  ·
    refine AWP.seq ?_
    refine AWP.seq ?_
    refine AWP.drawE (fu := 5) [some 14, some 15, some 16, some 17, some 18] [.box 1 2, natT q.den, natT 1, .sc (.int .i64 (cmpI ((q.den : Nat) : Int) ((1 : Nat) : Int))), .sc (.bool (!decide (q.den = 1)))] (by kernel_rfl) rfl rfl (by kernel_rfl) rfl ?_ ?_
    ·
      refine Chain.op (t := .box 1 2) rfl (ok_field_box rfl rfl lay_fld_27_2 rfl) ?_
      refine Chain.op (t := natT q.den) rfl (ok_load_box1 rfl rfl rfl lay_one_25 rfl) ?_
      refine Chain.op (t := natT 1) rfl (ok_call rfl (rof_ct 1 (by decide)) rfl rfl) ?_
      refine Chain.op (t := .sc (.int .i64 (cmpI ((q.den : Nat) : Int) ((1 : Nat) : Int)))) rfl (ok_call rfl (rcmp_ct _ _ (Nat.le_trans hq.den (by decide)) (by decide)) rfl rfl) ?_
      refine Chain.op (t := .sc (.bool (!decide (q.den = 1)))) rfl (OpOK.cast (ok_bin rfl rfl rfl (fun _ => rfl)) (boolT (cmpI_one _))) ?_
      exact Chain.nil
    refine AWP.cond (b := !decide (q.den = 1)) rfl (fun hc2 => ?_) (fun hc2 => ?_)
    ·
      refine AWP.region ?_
      refine AOps.e (t := .sc (.string t)) rfl rfl rfl (ok_move rfl rfl) ?_
      refine AOps.e (t := .sc (.string (t ++ (⟨#[47]⟩ : ByteArray)))) rfl rfl rfl (ok_bin rfl rfl rfl (fun _ => cat_run (by show _ + 1 ≤ _; omega))) ?_
      refine AOps.e (t := .box 1 2) rfl rfl rfl (ok_field_box rfl rfl lay_fld_27_2 rfl) ?_
      refine AOps.e (t := natT q.den) rfl rfl rfl (ok_load_box1 rfl rfl rfl lay_one_25 rfl) ?_
      refine AOps.e (t := .sc (.string (decB q.den))) rfl rfl rfl (ok_call rfl (rfmt_ct _ (Nat.le_trans hq.den (by decide)) (by rw [← decB_size]; exact h2)) rfl rfl) ?_
      refine AOps.e (t := .sc (.string (t ++ (⟨#[47]⟩ : ByteArray) ++ decB q.den))) rfl rfl rfl (ok_bin rfl rfl rfl (fun _ => cat_run (by rw [ByteArray.size_append]; show _ + 1 + _ ≤ _; omega))) ?_
      refine AOps.e (t := .sc (.string (t ++ (⟨#[47]⟩ : ByteArray) ++ decB q.den))) rfl rfl rfl (ok_assign rfl rfl) ?_
      refine AOps.nil ?_
      refine AWP.seq ?_
      refine AWP.region ?_
      refine AOps.e (t := .sc (.string (t ++ (⟨#[47]⟩ : ByteArray) ++ decB q.den))) rfl rfl rfl (ok_move rfl rfl) ?_
      refine AOps.e (t := .sc (.string (t ++ (⟨#[47]⟩ : ByteArray) ++ decB q.den))) rfl rfl rfl (ok_assign rfl rfl) ?_
      refine AOps.nil ?_
      refine AWP.ret ?_
      exact ⟨.inr rfl, _, .cons rfl .nil, strTr (by unfold fmtR; rw [ht, if_neg (by simpa using hc2), ByteArray.append_assoc]), rfl⟩
    ·
      refine AWP.skip ?_
      refine AWP.seq ?_
      refine AWP.region ?_
      refine AOps.e (t := .sc (.string t)) rfl rfl rfl (ok_move rfl rfl) ?_
      refine AOps.e (t := .sc (.string t)) rfl rfl rfl (ok_assign rfl rfl) ?_
      refine AOps.nil ?_
      refine AWP.ret ?_
      exact ⟨.inr rfl, _, .cons rfl .nil, strTr (by unfold fmtR; rw [ht, if_pos (by simpa using hc2)]), rfl⟩
end Go.Proofs.YtpinhcdcnaaihaaGreatDoor
