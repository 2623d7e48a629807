import Derived.Test.YtpinhcdcnaaihaaGreatDoorA43
namespace Go.Proofs.YtpinhcdcnaaihaaGreatDoor
open Go.RowKit
theorem and_mask {n m : Int} {k : Nat} (h : (BitVec.ofInt 64 m).toNat = 2 ^ k - 1) (h1 : k = 2 ∨ k = 5 ∨ k = 6) : bits .and .i64 n m = n % ((2 ^ k : Nat) : Int) := by
  have key : (BitVec.ofInt 64 n &&& BitVec.ofInt 64 m).toNat = (n % ((2 ^ 64 : Nat) : Int)).toNat % 2 ^ k := by
    rw [BitVec.toNat_and, BitVec.toNat_ofInt, h, Nat.and_two_pow_sub_one_eq_mod]
  show IntKind.i64.wrap ((BitVec.ofInt 64 n &&& BitVec.ofInt 64 m).toNat : Nat) = _
  rw [key, IntKind.wrap_i64]
  rcases h1 with rfl | rfl | rfl <;> omega
theorem and63_run {x y : Operand} (a : Int) (w : World) : (do eqGuard .and 3 x y (.int .i64 a) (.int .i64 63); binOp .and 3 (.int .i64 a) (.int .i64 63) : Sem Value).run Tryz.prog w = .ok (.int .i64 (a % 64)) w := by
  have key : bits .and .i64 a 63 = a % 64 := and_mask (k := 6) (by decide) (by omega)
  go_simp
theorem and31_run {x y : Operand} (a : Int) (w : World) : (do eqGuard .and 3 x y (.int .i64 a) (.int .i64 31); binOp .and 3 (.int .i64 a) (.int .i64 31) : Sem Value).run Tryz.prog w = .ok (.int .i64 (a % 32)) w := by
  have key : bits .and .i64 a 31 = a % 32 := and_mask (k := 5) (by decide) (by omega)
  go_simp
def cntA (e : Int) : Nat := (e / 16 % 4).toNat
theorem cntA_le (e : Int) : cntA e ≤ 3 := by unfold cntA; omega
theorem and3a_run {x y : Operand} (e : Int) (w : World) : (do eqGuard .and 3 x y (.int .i64 (e / 16)) (.int .i64 3); binOp .and 3 (.int .i64 (e / 16)) (.int .i64 3) : Sem Value).run Tryz.prog w = .ok (.int .i64 ((cntA e : Nat) : Int)) w := by
  have e1 : ((cntA e : Nat) : Int) = e / 16 % 4 := by unfold cntA; omega
  have key : bits .and .i64 (e / 16) 3 = e / 16 % 4 := and_mask (k := 2) (by decide) (by omega)
  rw [e1]
  go_simp
theorem shr4_run {x y : Operand} (a : Int) (w : World) : (do eqGuard .shr 3 x y (.int .i64 a) (.int .u64 4); binOp .shr 3 (.int .i64 a) (.int .u64 4) : Sem Value).run Tryz.prog w = .ok (.int .i64 (a / 16)) w := by
  have e : a.fdiv 16 = a / 16 := Int.fdiv_eq_ediv_of_nonneg a (by decide)
  simp [eqGuard, binOp, Op.shift, IntKind.bits, e]
theorem shr6_run {x y : Operand} (a : Int) (w : World) : (do eqGuard .shr 3 x y (.int .i64 a) (.int .u64 6); binOp .shr 3 (.int .i64 a) (.int .u64 6) : Sem Value).run Tryz.prog w = .ok (.int .i64 (a / 64)) w := by
  have e : a.fdiv 64 = a / 64 := Int.fdiv_eq_ediv_of_nonneg a (by decide)
  simp [eqGuard, binOp, Op.shift, IntKind.bits, e]
theorem wrapJ {a : Int} (h : -9223372036854775808 ≤ a) (h' : a ≤ 9223372036854775807) : (Tree.sc (.int .i64 (IntKind.i64.wrap a))) = .sc (.int .i64 a) := by
  rw [IntKind.wrap_i64]; congr 2; omega
def frP (e : Int) : Rat := mkq ((decide (e % 64 - 20 < 0)) != (decide (e / 64 % 32 + 1 < 0))) (e % 64 - 20).natAbs (e / 64 % 32 + 1).natAbs
def valA (s : ByteArray) (e : Int) : Nat → List V
  | 0 => []
  | k + 1 => if k = 1 then (valA s e k ++ [(⟨1, e / 64, ⟨#[]⟩⟩ : V)]).set 1 ⟨2, 0, s⟩ else valA s e k ++ [⟨1, e / 64, ⟨#[]⟩⟩]
def mkAn (s : ByteArray) (e : Int) : An := ⟨valA s e (cntA e), frP e⟩
theorem valA_len (s : ByteArray) (e : Int) : ∀ k, (valA s e k).length = k
  | 0 => rfl
  | k + 1 => by
    unfold valA
    split <;> simp [valA_len s e k]
theorem valA_mem {s : ByteArray} {e : Int} {v : V} : ∀ {k : Nat}, v ∈ valA s e k → v = ⟨1, e / 64, ⟨#[]⟩⟩ ∨ v = ⟨2, 0, s⟩
  | 0, h => by cases h
  | k + 1, h => by
    have key : v ∈ valA s e k ++ [⟨1, e / 64, ⟨#[]⟩⟩] → v = ⟨1, e / 64, ⟨#[]⟩⟩ ∨ v = ⟨2, 0, s⟩ := fun h => by
      rcases List.mem_append.1 h with h | h
      · exact valA_mem h
      · exact .inl (List.mem_singleton.1 h)
    unfold valA at h
    split at h
    · rcases List.mem_or_eq_of_mem_set h with h | h
      · exact key h
      · exact .inr h
    · exact key h
theorem dec_small : ∀ n : Nat, n < 65 → (decB n).size ≤ 1000 := by decide +kernel
theorem mkAn_ok {s : ByteArray} {e : Int} (hs : s.size ≤ 60) (h0 : -9223372036854775808 ≤ e) (h1 : e ≤ 9223372036854775807) : AnOK (mkAn s e) := by
  obtain ⟨hn, hd⟩ := mkq_le ((decide (e % 64 - 20 < 0)) != (decide (e / 64 % 32 + 1 < 0))) (e % 64 - 20).natAbs (D := (e / 64 % 32 + 1).natAbs) (by omega)
  have hn2 : (frP e).num.natAbs < 65 := by unfold frP; omega
  have hd2 : (frP e).den < 65 := by unfold frP; omega
  refine ⟨fun v hv => ?_, ?_, ⟨digs_small (by show (frP e).num.natAbs < _; omega), digs_small (by show (frP e).den < _; omega)⟩, dec_small _ hn2, dec_small _ hd2⟩
  · have hr : v.rng ∧ v.s.size ≤ 9223372036854775807 := by
      rcases valA_mem hv with rfl | rfl
      · exact ⟨⟨by show _ ≤ e / 64; omega, by show e / 64 ≤ _; omega⟩, by show 0 ≤ _; omega⟩
      · exact ⟨⟨by show _ ≤ (0 : Int); omega, by show (0 : Int) ≤ _; omega⟩, by show s.size ≤ _; omega⟩
    exact ⟨hr.1, Nat.le_trans (vfmt_len v hr.1) (by decide), hr.2⟩
  · show (valA s e (cntA e)).length ≤ 3
    rw [valA_len]; exact cntA_le e
def oneA : An := ⟨[⟨1, 1, ⟨#[]⟩⟩, ⟨2, 0, ⟨#[120]⟩⟩], ((2 : Nat) : Rat)⟩
theorem one_ok : AnOK oneA := by
  refine ⟨fun v hv => ?_, by decide, ⟨digs_small (by decide +kernel), digs_small (by decide +kernel)⟩, by decide +kernel, by decide +kernel⟩
  have hr : v.rng ∧ v.s.size ≤ 9223372036854775807 := by
    simp only [oneA, List.mem_cons, List.not_mem_nil, or_false] at hv
    rcases hv with rfl | rfl
    · exact ⟨⟨by decide, by decide⟩, by decide⟩
    · exact ⟨⟨by decide, by decide⟩, by decide⟩
  exact ⟨hr.1, Nat.le_trans (vfmt_len v hr.1) (by decide), hr.2⟩
theorem one_tx : bb ([oneA].flatMap ansTx) = ⟨#[40, 49, 44, 32, 39, 120, 39, 41, 58, 32, 50, 10]⟩ := by decide +kernel
theorem known_ct : Ct 11 [] (.sc (.bool true)) := Ct.sc ⟨_, Tryz.func11, rfl, rfl⟩ fun G w vs hE _ hp => by
  cases hp
  exact known_ev hE
theorem beq_self (s : ByteArray) : (s.toList == s.toList) = true := by simp
theorem lay_app_23 : appT Tryz.prog 23 = some (31, 4, 80) := by kernel_rfl
theorem lay_app_29 : appT Tryz.prog 29 = some (34, 3, 32) := by kernel_rfl
theorem lay_elm_22 : elmT Tryz.prog 22 = some (3, 1) := by kernel_rfl
theorem lay_one_3 : oneT Tryz.prog 3 = true := by kernel_rfl
theorem lay_siz_29 : (Tryz.prog.info? 29).map (·.size) = some 1 := by kernel_rfl
theorem lay_str_31 : strT Tryz.prog 31 = some ([(0, 1), (1, 3)], [.slice none 0 0, .bool false, .slice none 0 0, .slice none 0 0]) := by kernel_rfl
set_option maxRecDepth 100000 in
set_option maxHeartbeats 4000000 in
theorem frac_ct (e : Int) : Ct 5 [.sc (.int .i64 e)] (ratT (frP e)) := by
  refine Ct.of (n := 17) Tryz.func5 rfl rfl rfl rfl rfl fun w0 G0 => ?_
  refine AWP.seq ?_
  refine AWP.region ?_
  refine AOps.allocE (b := 0) (bs' := [(27, [.sc (.bool false), .sl [], .sl []])]) rfl rfl rfl rfl lay_zer_27 rfl rfl rfl rfl ?_
  refine AOps.nil ?_
  refine AWP.seq ?_
  refine AWP.region ?_
  refine AOps.e (t := .sc (.int .i64 e)) rfl rfl rfl (ok_move rfl rfl) ?_
  refine AOps.e (t := .sc (.int .i64 (e % 64))) rfl rfl rfl (ok_bin rfl rfl rfl (fun w => and63_run e w)) ?_
  refine AOps.e (t := .sc (.int .i64 (e % 64 - 20))) rfl rfl rfl (OpOK.cast (ok_bin rfl rfl rfl (fun _ => rfl)) (wrapJ (by omega) (by omega))) ?_
  refine AOps.e (t := .sc (.int .i64 e)) rfl rfl rfl (ok_move rfl rfl) ?_
  refine AOps.e (t := .sc (.int .i64 (e / 64))) rfl rfl rfl (ok_bin rfl rfl rfl (fun w => shr6_run e w)) ?_
  refine AOps.e (t := .sc (.int .i64 (e / 64 % 32))) rfl rfl rfl (ok_bin rfl rfl rfl (fun w => and31_run (e / 64) w)) ?_
  refine AOps.e (t := .sc (.int .i64 (e / 64 % 32 + 1))) rfl rfl rfl (OpOK.cast (ok_bin rfl rfl rfl (fun _ => rfl)) (wrapJ (by omega) (by omega))) ?_
  refine AOps.e (t := .tup [.agg [.sc (.bool (decide ((frP e).num < 0))), natT ((frP e).num.natAbs), natT ((frP e).den)], .sc (.int .i64 0)]) rfl rfl rfl (ok_call rfl (rnew_ct (e % 64 - 20) (e / 64 % 32 + 1) (by omega) (by omega) (by omega) (by omega) (by omega)) rfl rfl) ?_
  refine AOps.e (t := .tup [.agg [.sc (.bool (decide ((frP e).num < 0))), natT ((frP e).num.natAbs), natT ((frP e).den)], .sc (.int .i64 0)]) rfl rfl rfl (ok_move rfl rfl) ?_
  refine AOps.e (t := .agg [.sc (.bool (decide ((frP e).num < 0))), natT ((frP e).num.natAbs), natT ((frP e).den)]) rfl rfl rfl (ok_extract rfl rfl rfl) ?_
  refine AOps.e (t := .sc (.int .i64 0)) rfl rfl rfl (ok_extract rfl rfl rfl) ?_
  refine AOps.allocE (b := 1) (bs' := [(27, [.sc (.bool false), .sl [], .sl []]), (27, [.sc (.bool false), .sl [], .sl []])]) rfl rfl rfl rfl lay_zer_27 rfl rfl rfl rfl ?_
  refine AOps.storeE (bs' := [(27, [.sc (.bool false), .sl [], .sl []]), (27, [.sc (.bool (decide ((frP e).num < 0))), natT ((frP e).num.natAbs), natT ((frP e).den)])]) rfl rfl rfl rfl rfl rfl rfl rfl rfl lay_siz_27 rfl rfl rfl ?_
  refine AOps.e (t := .sc (.int .i64 0)) rfl rfl rfl (ok_assign rfl rfl) ?_
  refine AOps.nil ?_
  refine AWP.seq ?_
  refine AWP.region ?_
  refine AOps.e (t := .agg [.sc (.bool (decide ((frP e).num < 0))), natT ((frP e).num.natAbs), natT ((frP e).den)]) rfl rfl rfl (ok_load_box rfl rfl rfl lay_agg_27 rfl rfl) ?_
  refine AOps.storeE (bs' := [(27, [.sc (.bool (decide ((frP e).num < 0))), natT ((frP e).num.natAbs), natT ((frP e).den)]), (27, [.sc (.bool (decide ((frP e).num < 0))), natT ((frP e).num.natAbs), natT ((frP e).den)])]) rfl rfl rfl rfl rfl rfl rfl rfl rfl lay_siz_27 rfl rfl rfl ?_
  refine AOps.nil ?_
  refine AWP.ret ?_
  exact ⟨.inr rfl, _, .cons ⟨_, _, _, _, rfl, rfl, .inl ⟨_, lay_agg_27, rfl, rfl⟩⟩ .nil, rfl, rfl⟩
set_option maxRecDepth 100000 in
set_option maxHeartbeats 4000000 in
theorem answers_ct (l : List Int) (s : ByteArray) (hln : l.length ≤ 9223372036854775807) (hs : s.size ≤ 9223372036854775807) (hr : ∀ e ∈ l, -9223372036854775808 ≤ e ∧ e ≤ 9223372036854775807) : Ct 3 [.sl (l.map intZ), .sc (.string s)] (.sc (.bool true)) := by
  refine Ct.of (n := 81) Tryz.func3 rfl rfl rfl rfl rfl fun w0 G0 => ?_
  refine AWP.seq ?_
  refine AWP.region ?_
  refine AOps.e (t := .sc (.bool false)) rfl rfl rfl (ok_assign rfl rfl) ?_
  refine AOps.nil ?_
  refine AWP.seq ?_
  refine AWP.seq ?_
  refine AWP.region ?_
  refine AOps.e (t := .sl (l.map intZ)) rfl rfl rfl (ok_move rfl rfl) ?_
  refine AOps.e (t := .sc (.int .i64 ((l.length : Nat) : Int))) rfl rfl rfl (OpOK.cast (ok_len rfl lay_elm_22 rfl) (by simp only [List.length_map])) ?_
  refine AOps.e (t := .sc (.bool (decide (20 < l.length)))) rfl rfl rfl (OpOK.cast (ok_bin rfl rfl rfl (fun _ => rfl)) (boolT (gtN (l.length) (20)))) ?_
  refine AOps.e (t := .sc (.bool (decide (20 < l.length)))) rfl rfl rfl (ok_move rfl rfl) ?_
  refine AOps.c (t := .sc (.string s)) ((decide (20 < l.length)) = false) rfl rfl rfl plainG rfl rfl (fun hC => ok_move rfl rfl) ?_
  refine AOps.c (t := .sc (.int .i64 ((s.size : Nat) : Int))) ((decide (20 < l.length)) = false) rfl rfl rfl plainG rfl rfl (fun hC => ok_lenS rfl lay_und_9 (if_pos hC)) ?_
  refine AOps.c (t := .sc (.bool (decide (60 < s.size)))) ((decide (20 < l.length)) = false) rfl rfl rfl plainG rfl rfl (fun hC => OpOK.cast (ok_bin rfl (if_pos hC) rfl (fun _ => rfl)) (boolT (gtN (s.size) (60)))) ?_
  refine AOps.e (t := .sc (.bool ((decide (20 < l.length)) || (decide (60 < s.size))))) rfl rfl rfl (ok_pickS rfl rfl (fun h_ => (boolT (by rw [h_]; rfl))) (fun h_ => (if_pos h_).trans (boolT (by rw [h_]; rfl)))) ?_
  refine AOps.nil ?_
  refine AWP.cond (b := (decide (20 < l.length)) || (decide (60 < s.size))) rfl (fun hc1 => ?_) (fun hc1 => ?_)
  ·
    refine AWP.seq ?_
    refine AWP.region ?_
    refine AOps.e (t := .sc (.bool true)) rfl rfl rfl (ok_assign rfl rfl) ?_
    refine AOps.nil ?_
    refine AWP.ret ?_
    exact ⟨.inr rfl, _, .cons rfl .nil, rfl, rfl⟩
  ·
    have hl20 : l.length ≤ 20 := by simp only [Bool.or_eq_false_iff, decide_eq_false_iff_not] at hc1; omega
    have hs60 : s.size ≤ 60 := by simp only [Bool.or_eq_false_iff, decide_eq_false_iff_not] at hc1; omega
    refine AWP.skip ?_
    refine AWP.seq ?_
    refine AWP.region ?_
    refine AOps.nilE (k := 0) (e := 31) (sz := 4) (rs' := [some ⟨31, 4, [].map An.tree, false⟩]) (.inr rfl) rfl rfl rfl rfl rfl ?_
    refine AOps.nil ?_
    refine AWP.seq ?_
    refine AWP.seq ?_
    refine AWP.region ?_
    refine AOps.e (t := .sc (.int .i64 0)) rfl rfl rfl (ok_assign rfl rfl) ?_
    refine AOps.nil ?_
    refine AWP.block ?_
    refine AWP.loopL (fun n_ S_ => ∃ (i : Nat) (out : List An), (i ≤ l.length ∧ out = (l.take i).map (mkAn s)) ∧ n_ = l.length - i ∧ S_ = ⟨81, [(0, .sl (l.map intZ)), (1, .sc (.string s)), (5, .own 0), (6, .sc (.int .i64 ((i : Nat) : Int)))], [], [some ⟨31, 4, out.map An.tree, false⟩]⟩) 0 1 ⟨0, [], ⟨Nat.zero_le _, rfl⟩, rfl, rfl⟩ ⟨rfl, rfl, rfl, .cons rfl rfl (.cons rfl rfl (.cons rfl rfl (.cons rfl rfl .nil))), rfl⟩ ?_
    rintro n_ S_ ⟨i, out, ⟨hi, hout⟩, rfl, rfl⟩
    refine AWP.seq ?_
    refine AWP.seq ?_
    refine AWP.region ?_
    refine AOps.e (t := .sc (.int .i64 ((i : Nat) : Int))) rfl rfl rfl (ok_move rfl rfl) ?_
    refine AOps.e (t := .sl (l.map intZ)) rfl rfl rfl (ok_move rfl rfl) ?_
    refine AOps.e (t := .sc (.int .i64 ((l.length : Nat) : Int))) rfl rfl rfl (OpOK.cast (ok_len rfl lay_elm_22 rfl) (by simp only [List.length_map])) ?_
    refine AOps.e (t := .sc (.bool (decide (i < l.length)))) rfl rfl rfl (OpOK.cast (ok_bin rfl rfl rfl (fun _ => rfl)) (boolT (ltN (i) (l.length)))) ?_
    refine AOps.nil ?_
    refine AWP.cond (b := decide (i < l.length)) rfl (fun hc2 => ?_) (fun hc2 => ?_)
    ·
      replace hc2 := of_decide_eq_true hc2
      obtain ⟨e, hei⟩ : ∃ e, l[i]? = some e := ⟨_, List.getElem?_eq_getElem hc2⟩
      obtain ⟨he0, he1⟩ := hr e (List.mem_of_getElem? hei)
      have hcn := cntA_le e
      have hol : out.length = i := by rw [hout, List.length_map, List.length_take]; omega
      refine AWP.skip ?_
      refine AWP.seq ?_
      refine AWP.block ?_
      refine AWP.seq ?_
      refine AWP.region ?_
      refine AOps.e (t := .sl (l.map intZ)) rfl rfl rfl (ok_move rfl rfl) ?_
      refine AOps.e (t := .sc (.int .i64 ((i : Nat) : Int))) rfl rfl rfl (ok_move rfl rfl) ?_
      refine AOps.e (t := .ref [.sc (.int .i64 e)]) rfl rfl rfl (ok_index (intZ e) rfl lay_elm_22 rfl rfl rfl (map_get (f := intZ) hei) (intZ_sized _) rfl) ?_
      refine AOps.e (t := .sc (.int .i64 e)) rfl rfl rfl (ok_load_ref1 rfl rfl lay_one_3 rfl) ?_
      refine AOps.e (t := .agg [.sc (.bool (decide ((frP e).num < 0))), natT ((frP e).num.natAbs), natT ((frP e).den)]) rfl rfl rfl (ok_call rfl (frac_ct e) rfl rfl) ?_
      refine AOps.e (t := .agg [.sc (.slice none 0 0), .sc (.bool (decide ((frP e).num < 0))), natT ((frP e).num.natAbs), natT ((frP e).den)]) rfl rfl rfl (ok_buildN rfl lay_str_31 rfl rfl rfl) ?_
      refine AOps.allocE (b := 0) (bs' := [(31, [.sl [], .sc (.bool false), .sl [], .sl []])]) rfl rfl rfl rfl lay_zer_31 rfl rfl rfl rfl ?_
      refine AOps.storeE (bs' := [(31, [.sc (.slice none 0 0), .sc (.bool (decide ((frP e).num < 0))), natT ((frP e).num.natAbs), natT ((frP e).den)])]) rfl rfl rfl rfl rfl rfl rfl rfl rfl lay_siz_31 rfl rfl rfl ?_
      refine AOps.nil ?_
      refine AWP.seq ?_
      refine AWP.seq ?_
      refine AWP.region ?_
      refine AOps.e (t := .sc (.int .i64 0)) rfl rfl rfl (ok_assign rfl rfl) ?_
      refine AOps.nil ?_
      refine AWP.block ?_
      refine AWP.begin 0 0 34 3 (bs' := [(31, [.own 1, .sc (.bool (decide ((frP e).num < 0))), natT ((frP e).num.natAbs), natT ((frP e).den)])]) (rs' := [some ⟨31, 4, out.map An.tree, false⟩, some ⟨34, 3, [].map V.tree, false⟩]) rfl rfl rfl rfl ?_
      refine AWP.loopL (fun n_ S_ => ∃ (k : Nat) (vs : List V), (k ≤ cntA e ∧ vs = valA s e k) ∧ n_ = cntA e - k ∧ S_ = ⟨81, [(0, .sl (l.map intZ)), (1, .sc (.string s)), (5, .own 0), (6, .sc (.int .i64 ((i : Nat) : Int))), (7, .box 0 0), (8, .sc (.int .i64 ((k : Nat) : Int)))], [(31, [.own 1, .sc (.bool (decide ((frP e).num < 0))), natT ((frP e).num.natAbs), natT ((frP e).den)])], [some ⟨31, 4, out.map An.tree, false⟩, some ⟨34, 3, vs.map V.tree, false⟩]⟩) 1 2 ⟨0, [], ⟨Nat.zero_le _, rfl⟩, rfl, rfl⟩ ⟨rfl, rfl, rfl, .cons rfl rfl (.cons rfl rfl (.cons rfl rfl (.cons rfl rfl (.cons rfl rfl (.cons rfl rfl .nil))))), rfl⟩ ?_
      rintro n_ S_ ⟨k, vs, ⟨hk, hvs⟩, rfl, rfl⟩
      refine AWP.seq ?_
      refine AWP.seq ?_
      refine AWP.region ?_
      refine AOps.e (t := .sc (.int .i64 ((k : Nat) : Int))) rfl rfl rfl (ok_move rfl rfl) ?_
      refine AOps.e (t := .sl (l.map intZ)) rfl rfl rfl (ok_move rfl rfl) ?_
      refine AOps.e (t := .sc (.int .i64 ((i : Nat) : Int))) rfl rfl rfl (ok_move rfl rfl) ?_
      refine AOps.e (t := .ref [.sc (.int .i64 e)]) rfl rfl rfl (ok_index (intZ e) rfl lay_elm_22 rfl rfl rfl (map_get (f := intZ) hei) (intZ_sized _) rfl) ?_
      refine AOps.e (t := .sc (.int .i64 e)) rfl rfl rfl (ok_load_ref1 rfl rfl lay_one_3 rfl) ?_
      refine AOps.e (t := .sc (.int .i64 (e / 16))) rfl rfl rfl (ok_bin rfl rfl rfl (fun w => shr4_run e w)) ?_
      refine AOps.e (t := .sc (.int .i64 ((cntA e : Nat) : Int))) rfl rfl rfl (ok_bin rfl rfl rfl (fun w => and3a_run e w)) ?_
      refine AOps.e (t := .sc (.bool (decide (k < cntA e)))) rfl rfl rfl (OpOK.cast (ok_bin rfl rfl rfl (fun _ => rfl)) (boolT (ltN (k) (cntA e)))) ?_
      refine AOps.nil ?_
      refine AWP.cond (b := decide (k < cntA e)) rfl (fun hc3 => ?_) (fun hc3 => ?_)
      ·
        replace hc3 := of_decide_eq_true hc3
        have hvl : vs.length = k := by rw [hvs, valA_len]
        refine AWP.skip ?_
        refine AWP.seq ?_
        refine AWP.block ?_
        refine AWP.seq ?_
        refine AWP.leG (sl' := [(0, .sl (l.map intZ)), (1, .sc (.string s)), (5, .own 0), (6, .sc (.int .i64 ((i : Nat) : Int))), (7, .box 0 0), (8, .sc (.int .i64 ((k : Nat) : Int))), (37, .sc (.bool (decide (k < cntA e))))]) ⟨rfl, ⟨rfl, ⟨rfl, ⟨rfl, ⟨rfl, ⟨rfl, ⟨rfl, trivial⟩⟩⟩⟩⟩⟩⟩ ?_
        refine AWP.drawW (fu := 5) [some 40, some 41, some 42, some 43, some 44, some 45, some 46, some 47, some 48, some 49, some 50, none] [9, 11] [.box 0 0, .own 1, .sl (l.map intZ), .sc (.int .i64 ((i : Nat) : Int)), .ref [.sc (.int .i64 e)], .sc (.int .i64 e), .sc (.int .i64 (e / 64)), .agg [.sc (.int .i64 1), .sc (.int .i64 (e / 64)), .sc (.string (⟨#[]⟩))], .sl [.agg [.sc (.int .i64 1), .sc (.int .i64 (e / 64)), .sc (.string (⟨#[]⟩))]], .own 1, .box 0 0, .any] [⟨[9], [(0, .sl (l.map intZ)), (1, .sc (.string s)), (5, .own 0), (6, .sc (.int .i64 ((i : Nat) : Int))), (7, .box 0 0), (8, .sc (.int .i64 ((k : Nat) : Int))), (37, .sc (.bool (decide (k < cntA e))))], [(31, [.any, .sc (.bool (decide ((frP e).num < 0))), natT ((frP e).num.natAbs), natT ((frP e).den)])], [some ⟨31, 4, out.map An.tree, false⟩, some ⟨34, 3, (vs ++ [(⟨1, e / 64, ⟨#[]⟩⟩ : V)]).map V.tree, false⟩], [.box 0 0, .any, .sl (l.map intZ), .sc (.int .i64 ((i : Nat) : Int)), .ref [.sc (.int .i64 e)], .sc (.int .i64 e), .sc (.int .i64 (e / 64)), .agg [.sc (.int .i64 1), .sc (.int .i64 (e / 64)), .sc (.string (⟨#[]⟩))], .sl [.agg [.sc (.int .i64 1), .sc (.int .i64 (e / 64)), .sc (.string (⟨#[]⟩))]], .own 1, .box 0 0, .any]⟩] ⟨[11, 9], [(0, .sl (l.map intZ)), (1, .sc (.string s)), (5, .own 0), (6, .sc (.int .i64 ((i : Nat) : Int))), (7, .box 0 0), (8, .sc (.int .i64 ((k : Nat) : Int))), (37, .sc (.bool (decide (k < cntA e))))], [(31, [.own 1, .sc (.bool (decide ((frP e).num < 0))), natT ((frP e).num.natAbs), natT ((frP e).den)])], [some ⟨31, 4, out.map An.tree, false⟩, some ⟨34, 3, (vs ++ [(⟨1, e / 64, ⟨#[]⟩⟩ : V)]).map V.tree, false⟩], [.box 0 0, .any, .sl (l.map intZ), .sc (.int .i64 ((i : Nat) : Int)), .ref [.sc (.int .i64 e)], .sc (.int .i64 e), .sc (.int .i64 (e / 64)), .agg [.sc (.int .i64 1), .sc (.int .i64 (e / 64)), .sc (.string (⟨#[]⟩))], .sl [.agg [.sc (.int .i64 1), .sc (.int .i64 (e / 64)), .sc (.string (⟨#[]⟩))]], .own 1, .box 0 0, .any]⟩ (by kernel_rfl) rfl (by kernel_rfl) (by kernel_rfl) (by kernel_rfl) rfl rfl ?_ ?_
        ·
          refine .op [] (by kernel_rfl) ?_ ?_
          · refine .ok (t := .box 0 0) (by kernel_rfl) rfl rfl (ok_field_box rfl rfl lay_fld_31_0 rfl) ?_
            refine .no (by kernel_rfl) ?_
            refine .no (by kernel_rfl) ?_
            exact .nil
          refine .op [0] (by kernel_rfl) ?_ ?_
          · refine .ok (t := .own 1) (by kernel_rfl) rfl rfl (ok_load_box1 rfl rfl rfl lay_one_29 rfl) ?_
            refine .no (by kernel_rfl) ?_
            refine .no (by kernel_rfl) ?_
            exact .nil
          refine .op [] (by kernel_rfl) ?_ ?_
          · refine .ok (t := .sl (l.map intZ)) (by kernel_rfl) rfl rfl (ok_move rfl rfl) ?_
            refine .no (by kernel_rfl) ?_
            refine .no (by kernel_rfl) ?_
            exact .nil
          refine .op [] (by kernel_rfl) ?_ ?_
          · refine .ok (t := .sc (.int .i64 ((i : Nat) : Int))) (by kernel_rfl) rfl rfl (ok_move rfl rfl) ?_
            refine .no (by kernel_rfl) ?_
            refine .no (by kernel_rfl) ?_
            exact .nil
          refine .op [2, 3] (by kernel_rfl) ?_ ?_
          · refine .ok (t := .ref [.sc (.int .i64 e)]) (by kernel_rfl) rfl rfl (ok_index (intZ e) rfl lay_elm_22 rfl rfl rfl (map_get (f := intZ) hei) (intZ_sized _) rfl) ?_
            refine .no (by kernel_rfl) ?_
            refine .no (by kernel_rfl) ?_
            exact .nil
          refine .op [4] (by kernel_rfl) ?_ ?_
          · refine .ok (t := .sc (.int .i64 e)) (by kernel_rfl) rfl rfl (ok_load_ref1 rfl rfl lay_one_3 rfl) ?_
            refine .no (by kernel_rfl) ?_
            refine .no (by kernel_rfl) ?_
            exact .nil
          refine .op [5] (by kernel_rfl) ?_ ?_
          · refine .ok (t := .sc (.int .i64 (e / 64))) (by kernel_rfl) rfl rfl (ok_bin rfl rfl rfl (fun w => shr6_run e w)) ?_
            refine .no (by kernel_rfl) ?_
            refine .no (by kernel_rfl) ?_
            exact .nil
          refine .op [6] (by kernel_rfl) ?_ ?_
          · refine .ok (t := .agg [.sc (.int .i64 1), .sc (.int .i64 (e / 64)), .sc (.string (⟨#[]⟩))]) (by kernel_rfl) rfl rfl (ok_call rfl (rInt_ct (e / 64)) rfl rfl) ?_
            refine .no (by kernel_rfl) ?_
            refine .no (by kernel_rfl) ?_
            exact .nil
          refine .op [7] (by kernel_rfl) ?_ ?_
          · refine .ok (t := .sl [.agg [.sc (.int .i64 1), .sc (.int .i64 (e / 64)), .sc (.string (⟨#[]⟩))]]) (by kernel_rfl) rfl rfl (ok_buildSlice rfl lay_elm_29 lay_zer_34 rfl (by decide) (by decide) rfl rfl rfl rfl rfl) ?_
            refine .no (by kernel_rfl) ?_
            refine .no (by kernel_rfl) ?_
            exact .nil
          refine .op [1, 8] (by kernel_rfl) ?_ ?_
          · refine .wr 1 (killT 1) (.own 1) (by kernel_rfl) rfl rfl (wr_append rfl rfl rfl lay_app_29 rfl rfl rfl rfl (by intro e he; simp only [List.mem_cons, List.mem_nil_iff, or_false] at he; subst he; rfl) (AllC.lit rfl) (AllC.lit rfl) (by simp only [List.length_map, List.length_cons, List.length_nil]; omega) rfl rfl (by rw [List.map_append]; rfl)) rfl rfl rfl rfl (.k rfl (.k rfl (.k rfl (.k rfl (.k rfl (.k rfl (.k rfl (.k rfl (.k rfl (.i rfl (.k rfl (.k rfl .nil)))))))))))) ?_
            refine .no (by kernel_rfl) ?_
            refine .no (by kernel_rfl) ?_
            exact .nil
          refine .op [] (by kernel_rfl) ?_ ?_
          · refine .no (by kernel_rfl) ?_
            refine .ok (t := .box 0 0) (by kernel_rfl) rfl rfl (ok_field_box rfl rfl lay_fld_31_0 rfl) ?_
            refine .no (by kernel_rfl) ?_
            exact .nil
          refine .op [9, 10] (by kernel_rfl) ?_ ?_
          · refine .no (by kernel_rfl) ?_
            refine .wr 2 id .any (by kernel_rfl) rfl rfl (wr_store rfl rfl rfl rfl rfl rfl rfl rfl lay_siz_29 rfl rfl rfl) rfl rfl rfl rfl (.k rfl (.k rfl (.k rfl (.k rfl (.k rfl (.k rfl (.k rfl (.k rfl (.k rfl (.k rfl (.k rfl (.i rfl .nil)))))))))))) ?_
            refine .no (by kernel_rfl) ?_
            exact .nil
          exact .nil
        refine AWP.seq ?_
        refine AWP.region ?_
        refine AOps.e (t := .sc (.int .i64 ((k : Nat) : Int))) rfl rfl rfl (ok_move rfl rfl) ?_
        refine AOps.e (t := .sc (.bool (decide (k = 1)))) rfl rfl rfl (OpOK.cast (ok_bin rfl rfl rfl (fun _ => rfl)) (boolT (eqN (k) (1)))) ?_
        refine AOps.nil ?_
        refine AWP.cond (b := decide (k = 1)) rfl (fun hc4 => ?_) (fun hc4 => ?_)
        ·
          replace hc4 := of_decide_eq_true hc4
          have hk1 := hc4
          refine AWP.leG (sl' := [(0, .sl (l.map intZ)), (1, .sc (.string s)), (5, .own 0), (6, .sc (.int .i64 ((i : Nat) : Int))), (7, .box 0 0), (8, .sc (.int .i64 ((k : Nat) : Int))), (37, .sc (.bool (decide (k < cntA e)))), (52, .sc (.bool (decide (k = 1))))]) ⟨rfl, ⟨rfl, ⟨rfl, ⟨rfl, ⟨rfl, ⟨rfl, ⟨rfl, ⟨rfl, trivial⟩⟩⟩⟩⟩⟩⟩⟩ ?_
          refine AWP.drawW (fu := 1) [some 53, some 54, some 55, some 56, some 57, none] [5] [.box 0 0, .own 1, .sc (.string s), .agg [.sc (.int .i64 2), .sc (.int .i64 0), .sc (.string s)], .elp 1 (1 * 3), .any] [] ⟨[5], [(0, .sl (l.map intZ)), (1, .sc (.string s)), (5, .own 0), (6, .sc (.int .i64 ((i : Nat) : Int))), (7, .box 0 0), (8, .sc (.int .i64 ((k : Nat) : Int))), (37, .sc (.bool (decide (k < cntA e)))), (52, .sc (.bool (decide (k = 1))))], [(31, [.own 1, .sc (.bool (decide ((frP e).num < 0))), natT ((frP e).num.natAbs), natT ((frP e).den)])], [some ⟨31, 4, out.map An.tree, false⟩, some ⟨34, 3, ((vs ++ [(⟨1, e / 64, ⟨#[]⟩⟩ : V)]).set 1 ⟨2, 0, s⟩).map V.tree, false⟩], [.box 0 0, .own 1, .sc (.string s), .agg [.sc (.int .i64 2), .sc (.int .i64 0), .sc (.string s)], .elp 1 (1 * 3), .any]⟩ (by kernel_rfl) rfl (by kernel_rfl) (by kernel_rfl) (by kernel_rfl) rfl rfl ?_ ?_
          ·
            refine .op [] (by kernel_rfl) ?_ ?_
            · refine .ok (t := .box 0 0) (by kernel_rfl) rfl rfl (ok_field_box rfl rfl lay_fld_31_0 rfl) ?_
              refine .no (by kernel_rfl) ?_
              exact .nil
            refine .op [0] (by kernel_rfl) ?_ ?_
            · refine .ok (t := .own 1) (by kernel_rfl) rfl rfl (ok_load_box1 rfl rfl rfl lay_one_29 rfl) ?_
              refine .no (by kernel_rfl) ?_
              exact .nil
            refine .op [] (by kernel_rfl) ?_ ?_
            · refine .ok (t := .sc (.string s)) (by kernel_rfl) rfl rfl (ok_move rfl rfl) ?_
              refine .no (by kernel_rfl) ?_
              exact .nil
            refine .op [2] (by kernel_rfl) ?_ ?_
            · refine .ok (t := .agg [.sc (.int .i64 2), .sc (.int .i64 0), .sc (.string s)]) (by kernel_rfl) rfl rfl (ok_call rfl (rStr_ct s) rfl rfl) ?_
              refine .no (by kernel_rfl) ?_
              exact .nil
            refine .op [1] (by kernel_rfl) ?_ ?_
            · refine .ok (t := .elp 1 (1 * 3)) (by kernel_rfl) rfl rfl (ok_index_own (j := 1) rfl lay_elm_29 rfl rfl rfl rfl rfl (by simp only [List.length_map, List.length_append, List.length_cons, List.length_nil]; omega) rfl) ?_
              refine .no (by kernel_rfl) ?_
              exact .nil
            refine .op [3, 4] (by kernel_rfl) ?_ ?_
            · refine .wr 1 id .any (by kernel_rfl) rfl rfl (wr_storeElp (j := 1) rfl rfl rfl rfl rfl (by simp only [List.length_map, List.length_append, List.length_cons, List.length_nil]; omega) rfl rfl rfl rfl rfl lay_siz_34 rfl (by simp only [List.map_set]; rfl)) rfl rfl rfl rfl (.k rfl (.k rfl (.k rfl (.k rfl (.k rfl (.i rfl .nil)))))) ?_
              refine .no (by kernel_rfl) ?_
              exact .nil
            exact .nil
          refine AWP.region ?_
          refine AOps.e (t := .sc (.int .i64 ((k : Nat) : Int))) rfl rfl rfl (ok_move rfl rfl) ?_
          refine AOps.e (t := .sc (.int .i64 ((k + 1 : Nat) : Int))) rfl rfl rfl (OpOK.cast (ok_bin rfl rfl rfl (fun _ => rfl)) (wrapN (by omega) (by omega))) ?_
          refine AOps.e (t := .sc (.int .i64 ((k + 1 : Nat) : Int))) rfl rfl rfl (ok_assign rfl rfl) ?_
          refine AOps.nil ?_
          refine ⟨_, _, ?_, ⟨k + 1, ((vs ++ [(⟨1, e / 64, ⟨#[]⟩⟩ : V)]).set 1 ⟨2, 0, s⟩), ?_, rfl, rfl⟩, ⟨rfl, rfl, rfl, .cons rfl rfl (.cons rfl rfl (.cons rfl rfl (.cons rfl rfl (.cons rfl rfl (.cons rfl rfl .nil))))), rfl⟩⟩
          · omega
          · refine ⟨by omega, ?_⟩
            rw [hvs]
            conv => rhs; unfold valA
            first | rw [if_pos hk1] | rw [if_neg hk1]
        ·
          replace hc4 := of_decide_eq_false hc4
          have hk1 := hc4
          refine AWP.skip ?_
          refine AWP.region ?_
          refine AOps.e (t := .sc (.int .i64 ((k : Nat) : Int))) rfl rfl rfl (ok_move rfl rfl) ?_
          refine AOps.e (t := .sc (.int .i64 ((k + 1 : Nat) : Int))) rfl rfl rfl (OpOK.cast (ok_bin rfl rfl rfl (fun _ => rfl)) (wrapN (by omega) (by omega))) ?_
          refine AOps.e (t := .sc (.int .i64 ((k + 1 : Nat) : Int))) rfl rfl rfl (ok_assign rfl rfl) ?_
          refine AOps.nil ?_
          refine ⟨_, _, ?_, ⟨k + 1, (vs ++ [(⟨1, e / 64, ⟨#[]⟩⟩ : V)]), ?_, rfl, rfl⟩, ⟨rfl, rfl, rfl, .cons rfl rfl (.cons rfl rfl (.cons rfl rfl (.cons rfl rfl (.cons rfl rfl (.cons rfl rfl .nil))))), rfl⟩⟩
          · omega
          · refine ⟨by omega, ?_⟩
            rw [hvs]
            conv => rhs; unfold valA
            first | rw [if_pos hk1] | rw [if_neg hk1]
      ·
        replace hc3 := of_decide_eq_false hc3
        obtain rfl : k = cntA e := by omega
        subst hvs
        refine AWP.exit ?_
        refine AWP.rel 1 (bs' := [(31, [.sl ((valA s e (cntA e)).map V.tree), .sc (.bool (decide ((frP e).num < 0))), natT ((frP e).num.natAbs), natT ((frP e).den)])]) (rs' := [some ⟨31, 4, out.map An.tree, false⟩, none]) rfl rfl rfl rfl ?_
        refine AWP.region ?_
        refine AOps.e (t := .own 0) rfl rfl rfl (ok_move rfl rfl) ?_
        refine AOps.e (t := .agg [.sl ((valA s e (cntA e)).map V.tree), .sc (.bool (decide ((frP e).num < 0))), natT ((frP e).num.natAbs), natT ((frP e).den)]) rfl rfl rfl (ok_load_box rfl rfl rfl lay_agg_31 rfl rfl) ?_
        refine AOps.e (t := .sl [.agg [.sl ((valA s e (cntA e)).map V.tree), .sc (.bool (decide ((frP e).num < 0))), natT ((frP e).num.natAbs), natT ((frP e).den)]]) rfl rfl rfl (ok_buildSlice rfl lay_elm_23 lay_zer_31 rfl (by decide) (by decide) rfl rfl rfl rfl rfl) ?_
        refine AOps.appendE (bs' := [(31, [.sl ((valA s e (cntA e)).map V.tree), .sc (.bool (decide ((frP e).num < 0))), natT ((frP e).num.natAbs), natT ((frP e).den)])]) (rs' := [some ⟨31, 4, (out ++ [mkAn s e]).map An.tree, false⟩, none]) rfl rfl rfl rfl lay_app_23 rfl rfl rfl rfl (by intro e he; simp only [List.mem_cons, List.mem_nil_iff, or_false] at he; subst he; rfl) (AllC.lit rfl) (AllC.lit rfl) (by simp only [List.length_map, List.length_cons, List.length_nil]; omega) rfl rfl rfl (by rw [List.map_append]; rfl) ?_
        refine AOps.e (t := .own 0) rfl rfl rfl (ok_assign rfl rfl) ?_
        refine AOps.nil ?_
        refine AWP.region ?_
        refine AOps.e (t := .sc (.int .i64 ((i : Nat) : Int))) rfl rfl rfl (ok_move rfl rfl) ?_
        refine AOps.e (t := .sc (.int .i64 ((i + 1 : Nat) : Int))) rfl rfl rfl (OpOK.cast (ok_bin rfl rfl rfl (fun _ => rfl)) (wrapN (by omega) (by omega))) ?_
        refine AOps.e (t := .sc (.int .i64 ((i + 1 : Nat) : Int))) rfl rfl rfl (ok_assign rfl rfl) ?_
        refine AOps.nil ?_
        refine ⟨_, _, ?_, ⟨i + 1, (out ++ [mkAn s e]), ?_, rfl, rfl⟩, ⟨rfl, rfl, rfl, .cons rfl rfl (.cons rfl rfl (.cons rfl rfl (.cons rfl rfl .nil))), rfl⟩⟩
        · omega
        · exact ⟨by omega, by rw [hout, List.take_add_one, hei]; simp⟩
    ·
      replace hc2 := of_decide_eq_false hc2
      have ho : out = l.map (mkAn s) := by rw [hout, List.take_of_length_le (by omega)]
      subst ho
      have hok : ∀ a ∈ l.map (mkAn s), AnOK a := fun a ha => by
        obtain ⟨e, he, rfl⟩ := List.mem_map.1 ha
        exact mkAn_ok hs60 (hr e he).1 (hr e he).2
      refine AWP.exit ?_
      refine AWP.seq ?_
      refine AWP.rel 0 (bs' := []) (rs' := [none]) rfl rfl rfl rfl ?_
      refine AWP.region ?_
      refine AOps.e (t := .agg [.sc (.int .i64 1), .sc (.int .i64 1), .sc (.string (⟨#[]⟩))]) rfl rfl rfl (ok_call rfl (rInt_ct 1) rfl rfl) ?_
      refine AOps.e (t := .agg [.sc (.int .i64 2), .sc (.int .i64 0), .sc (.string (⟨#[120]⟩ : ByteArray))]) rfl rfl rfl (ok_call rfl (rStr_ct ⟨#[120]⟩) rfl rfl) ?_
      refine AOps.e (t := .sl [.agg [.sc (.int .i64 1), .sc (.int .i64 1), .sc (.string (⟨#[]⟩))], .agg [.sc (.int .i64 2), .sc (.int .i64 0), .sc (.string (⟨#[120]⟩ : ByteArray))]]) rfl rfl rfl (ok_buildSlice rfl lay_elm_29 lay_zer_34 rfl (by decide) (by decide) rfl rfl rfl rfl rfl) ?_
      refine AOps.e (t := .agg [.sc (.bool (decide (((2 : Nat) : Rat).num < 0))), natT (((2 : Nat) : Rat).num.natAbs), natT (((2 : Nat) : Rat).den)]) rfl rfl rfl (ok_call rfl (rint_ct 2 (by decide)) rfl rfl) ?_
      refine AOps.e (t := .agg [.sl [.agg [.sc (.int .i64 1), .sc (.int .i64 1), .sc (.string (⟨#[]⟩))], .agg [.sc (.int .i64 2), .sc (.int .i64 0), .sc (.string (⟨#[120]⟩ : ByteArray))]], .sc (.bool (decide (((2 : Nat) : Rat).num < 0))), natT (((2 : Nat) : Rat).num.natAbs), natT (((2 : Nat) : Rat).den)]) rfl rfl rfl (ok_build rfl lay_str_31 rfl rfl rfl) ?_
      refine AOps.e (t := .sl [.agg [.sl [.agg [.sc (.int .i64 1), .sc (.int .i64 1), .sc (.string (⟨#[]⟩))], .agg [.sc (.int .i64 2), .sc (.int .i64 0), .sc (.string (⟨#[120]⟩ : ByteArray))]], .sc (.bool (decide (((2 : Nat) : Rat).num < 0))), natT (((2 : Nat) : Rat).num.natAbs), natT (((2 : Nat) : Rat).den)]]) rfl rfl rfl (ok_buildSlice rfl lay_elm_23 lay_zer_31 rfl (by decide) (by decide) rfl rfl rfl rfl rfl) ?_
      refine AOps.e (t := .sl [.agg [.sl [.agg [.sc (.int .i64 1), .sc (.int .i64 1), .sc (.string (⟨#[]⟩))], .agg [.sc (.int .i64 2), .sc (.int .i64 0), .sc (.string (⟨#[120]⟩ : ByteArray))]], .sc (.bool (decide (((2 : Nat) : Rat).num < 0))), natT (((2 : Nat) : Rat).num.natAbs), natT (((2 : Nat) : Rat).den)]]) rfl rfl rfl (ok_assign rfl rfl) ?_
      refine AOps.nil ?_
      refine AWP.seq ?_
      obtain ⟨b1, hb1⟩ : ∃ b : Bool, b = true := ⟨_, rfl⟩
      obtain ⟨b2, hb2⟩ : ∃ b : Bool, b = true := ⟨_, rfl⟩
      obtain ⟨b3, hb3⟩ : ∃ b : Bool, b = true := ⟨_, rfl⟩
      refine AWP.region ?_
      refine AOps.e (t := .sl ((l.map (mkAn s)).map An.tree)) rfl rfl rfl (ok_move rfl rfl) ?_
      refine AOps.e (t := .sc (.string (bb ((l.map (mkAn s)).flatMap ansTx)))) rfl rfl rfl (ok_call rfl (fmtAns_ct (l.map (mkAn s)) (by rw [List.length_map]; omega) hok) rfl rfl) ?_
      refine AOps.e (t := .sl ((l.map (mkAn s)).map An.tree)) rfl rfl rfl (ok_move rfl rfl) ?_
      refine AOps.e (t := .sc (.string (bb ((l.map (mkAn s)).flatMap ansTx)))) rfl rfl rfl (ok_call rfl (rfmtAns_ct (l.map (mkAn s)) (by rw [List.length_map]; omega) hok) rfl rfl) ?_
      refine AOps.e (t := .sc (.bool b1)) rfl rfl rfl (OpOK.cast (ok_bin rfl rfl rfl (fun _ => rfl)) (boolT (by rw [hb1]; exact beq_self _))) ?_
      refine AOps.e (t := .sc (.bool b1)) rfl rfl rfl (ok_move rfl rfl) ?_
      refine AOps.c (t := .sl [.agg [.sl [.agg [.sc (.int .i64 1), .sc (.int .i64 1), .sc (.string (⟨#[]⟩))], .agg [.sc (.int .i64 2), .sc (.int .i64 0), .sc (.string (⟨#[120]⟩ : ByteArray))]], .sc (.bool (decide (((2 : Nat) : Rat).num < 0))), natT (((2 : Nat) : Rat).num.natAbs), natT (((2 : Nat) : Rat).den)]]) (b1 = true) rfl rfl rfl plainG rfl rfl (fun hC => ok_move rfl rfl) ?_
      refine AOps.c (t := .sc (.string (bb ([oneA].flatMap ansTx)))) (b1 = true) rfl rfl rfl plainG rfl rfl (fun hC => ok_call rfl (fmtAns_ct [oneA] (by decide) (fun a ha => by rw [List.mem_singleton.1 ha]; exact one_ok)) (consE (if_pos hC) rfl) rfl) ?_
      refine AOps.c (t := .sc (.bool b2)) (b1 = true) rfl rfl rfl plainG rfl rfl (fun hC => OpOK.cast (ok_bin rfl (if_pos hC) rfl (fun _ => rfl)) (boolT (by rw [hb2, one_tx]; exact beq_self _))) ?_
      refine AOps.e (t := .sc (.bool (b1 && b2))) rfl rfl rfl (ok_pickS rfl rfl (fun h_ => (if_pos h_).trans (boolT (by rw [h_]; rfl))) (fun h_ => (boolT (by rw [h_]; rfl)))) ?_
      refine AOps.e (t := .sc (.bool (b1 && b2))) rfl rfl rfl (ok_move rfl rfl) ?_
      refine AOps.c (t := .sc (.bool b3)) ((b1 && b2) = true) rfl rfl rfl plainG rfl rfl (fun hC => ok_call rfl (by rw [hb3]; exact known_ct) rfl rfl) ?_
      refine AOps.e (t := .sc (.bool ((b1 && b2) && b3))) rfl rfl rfl (ok_pickS rfl rfl (fun h_ => (if_pos h_).trans (boolT (by rw [h_]; rfl))) (fun h_ => (boolT (by rw [h_]; rfl)))) ?_
      refine AOps.e (t := .sc (.bool ((b1 && b2) && b3))) rfl rfl rfl (ok_assign rfl rfl) ?_
      refine AOps.nil ?_
      refine AWP.ret ?_
      exact ⟨.inr rfl, _, .cons rfl .nil, boolT (by rw [hb1, hb2, hb3]; rfl), rfl⟩
end Go.Proofs.YtpinhcdcnaaihaaGreatDoor
