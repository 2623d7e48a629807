import Derived.Test.YtpinhcdcnaaihaaGreatDoorA20
import Derived.Laws.BitsLemmas
namespace Go.Proofs.YtpinhcdcnaaihaaGreatDoor
open Go.RowKit
def digT (d : Nat) : Tree := .sc (.int .u32 (d : Nat))
theorem digT_sized (l : List Nat) : Sized 1 (l.map digT) := Sized.map _ l fun _ => rfl
theorem ratE {p q : Rat} (h : p = q) : ratT p = ratT q := by rw [h]
theorem bnorm_ct (n : Nat) (hn : (digs n).length ≤ 1073741823) : Ct 102 [natT n] (natT n) := Ct.gives ⟨_, Tryz.func102, rfl, rfl⟩ (fun _ _ _ hG h => isD_pt hG h) fun G w vs _ _ hp => by
  obtain ⟨u, rfl, h⟩ := pt_args1 hp
  exact normD (pt_isD h) hn
theorem gcd_ct (M N : Nat) (hM : (digs M).length ≤ 1048576) (hN : (digs N).length ≤ 1048576) : Ct 157 [natT M, natT N] (natT (Nat.gcd M N)) := Ct.gives ⟨_, Tryz.func157, rfl, rfl⟩ (fun _ _ _ hG h => isD_pt hG h) fun G w vs _ _ hp => by
  obtain ⟨u, x, rfl, h1, h2⟩ := pt_args2 hp
  exact bgcdD (pt_isD h1) (pt_isD h2) hM hN
theorem bdiv_ct (M N : Nat) (hM : (digs M).length ≤ 1048576) (hN : (digs N).length ≤ 1048576) (h0 : 0 < N) : Ct 158 [natT M, natT N] (.tup [natT (M / N), natT (M % N), .sc (.bool true)]) := Ct.gives (K := DmR M N) ⟨_, Tryz.func158, rfl, rfl⟩ (fun _ _ _ hG ⟨_, _, e, h1, h2⟩ => by
    subst e
    exact .tup [_, _, .bool true] _ ((isD_pt hG h1).cons ((isD_pt hG h2).cons (.sc _ .nil))) .nil) fun G w vs _ _ hp => by
  obtain ⟨u, x, rfl, h1, h2⟩ := pt_args2 hp
  exact divModD (pt_isD h1) (pt_isD h2) hM hN h0
theorem one_tree (n : Nat) : (decide ((digs n).length = 1) && decide ((digs n).getD 0 0 = 1)) = decide (n = 1) := by
  by_cases h : n = 1
  · subst h; rfl
  · rw [decide_eq_false h, Bool.and_eq_false_iff]
    by_cases h1 : (digs n).length = 1
    · right
      refine decide_eq_false fun e => h ?_
      obtain ⟨_, _, h3⟩ := digs_one (n := n) h1
      rw [h3] at e; exact e
    · left; exact decide_eq_false h1
theorem or_mkq {ng : Bool} {N D : Nat} (h : (decide (nbits N = 0) || decide (nbits D = 0)) = true) : 0 = mkq ng N D := by
  rw [Bool.or_eq_true, decide_eq_true_eq, decide_eq_true_eq, nbits_zero, nbits_zero] at h
  rcases h with rfl | rfl
  · exact (mkq_zero _ _).symm
  · exact (mkq_den0 _ _).symm
theorem mkq_gcd {ng : Bool} {N D : Nat} (hN : N ≠ 0) (hD : D ≠ 0) : (Tree.agg [.sc (.bool ng), natT (N / Nat.gcd N D), natT (D / Nat.gcd N D)]) = ratT (mkq ng N D) := by
  obtain ⟨h1, h2, h3⟩ := mkq_parts ng (Nat.pos_of_ne_zero hN) (Nat.pos_of_ne_zero hD)
  unfold ratT fracT
  rw [h1, h2, h3]
theorem mkq_gcd1 {ng : Bool} {N D : Nat} (hN : N ≠ 0) (hD : D ≠ 0) (h : Nat.gcd N D = 1) : (Tree.agg [.sc (.bool ng), natT N, natT D]) = ratT (mkq ng N D) := by
  have := mkq_gcd (ng := ng) hN hD
  rwa [h, Nat.div_one, Nat.div_one] at this
theorem lay_agg_27 : aggT Tryz.prog 27 = some 3 := by kernel_rfl
theorem lay_elm_25 : elmT Tryz.prog 25 = some (114, 1) := by kernel_rfl
theorem lay_fld_27_0 : fldT Tryz.prog 27 0 = some 0 := by kernel_rfl
theorem lay_fld_27_1 : fldT Tryz.prog 27 1 = some 1 := by kernel_rfl
theorem lay_fld_27_2 : fldT Tryz.prog 27 2 = some 2 := by kernel_rfl
theorem lay_one_4 : oneT Tryz.prog 4 = true := by kernel_rfl
theorem lay_one_114 : oneT Tryz.prog 114 = true := by kernel_rfl
theorem lay_one_25 : oneT Tryz.prog 25 = true := by kernel_rfl
theorem lay_siz_27 : (Tryz.prog.info? 27).map (·.size) = some 3 := by kernel_rfl
theorem lay_str_27 : strT Tryz.prog 27 = some ([(0, 1), (1, 1), (2, 1)], [.bool false, .slice none 0 0, .slice none 0 0]) := by kernel_rfl
theorem lay_zer_27 : zerT Tryz.prog 27 = some [.bool false, .slice none 0 0, .slice none 0 0] := by kernel_rfl
set_option maxRecDepth 100000 in
set_option maxHeartbeats 4000000 in
theorem isOne_ct (n : Nat) : Ct 64 [natT n] (.sc (.bool (decide (n = 1)))) := by
  have h0 : decide ((digs n).length = 1) = true → (digs n)[0]? = some ((digs n).getD 0 0) := fun h => by
    have := of_decide_eq_true h
    rw [List.getD_eq_getElem?_getD, List.getElem?_eq_getElem (by omega), Option.getD_some]
  refine Ct.of (n := 12) Tryz.func64 rfl rfl rfl rfl rfl fun w0 G0 => ?_
  refine AWP.seq ?_
  refine AWP.region ?_
  refine AOps.e (t := .sc (.bool false)) rfl rfl rfl (ok_assign rfl rfl) ?_
  refine AOps.nil ?_
  refine AWP.seq ?_
  refine AWP.region ?_
  refine AOps.e (t := .sl ((digs n).map digT)) rfl rfl rfl (ok_move rfl rfl) ?_
  refine AOps.e (t := .sc (.int .i64 (((digs n).length : Nat) : Int))) rfl rfl rfl (OpOK.cast (ok_len rfl lay_elm_25 rfl) (by simp only [List.length_map])) ?_
  refine AOps.e (t := .sc (.bool (decide ((digs n).length = 1)))) rfl rfl rfl (OpOK.cast (ok_bin rfl rfl rfl (fun _ => rfl)) (boolT (eqN ((digs n).length) (1)))) ?_
  refine AOps.e (t := .sc (.bool (decide ((digs n).length = 1)))) rfl rfl rfl (ok_move rfl rfl) ?_
  refine AOps.c (t := .sl ((digs n).map digT)) ((decide ((digs n).length = 1)) = true) rfl rfl rfl plainG rfl rfl (fun hC => ok_move rfl rfl) ?_
  refine AOps.c (t := .ref [.sc (.int .u32 ((((digs n).getD 0 0) : Nat) : Int))]) ((decide ((digs n).length = 1)) = true) rfl rfl rfl plainG rfl rfl (fun hC => ok_index (digT ((digs n).getD 0 0)) rfl lay_elm_25 (if_pos hC) rfl rfl (map_get (f := digT) (h0 hC)) (digT_sized _) rfl) ?_
  refine AOps.c (t := .sc (.int .u32 ((((digs n).getD 0 0) : Nat) : Int))) ((decide ((digs n).length = 1)) = true) rfl rfl rfl plainG rfl rfl (fun hC => ok_load_ref1 rfl (if_pos hC) lay_one_114 rfl) ?_
  refine AOps.c (t := .sc (.bool (decide (((digs n).getD 0 0) = 1)))) ((decide ((digs n).length = 1)) = true) rfl rfl rfl plainG rfl rfl (fun hC => OpOK.cast (ok_bin rfl (if_pos hC) rfl (fun _ => rfl)) (boolT (eqN (((digs n).getD 0 0)) (1)))) ?_
  refine AOps.e (t := .sc (.bool ((decide ((digs n).length = 1)) && (decide (((digs n).getD 0 0) = 1))))) rfl rfl rfl (ok_pickS rfl rfl (fun h_ => (if_pos h_).trans (boolT (by rw [h_]; rfl))) (fun h_ => (boolT (by rw [h_]; rfl)))) ?_
  refine AOps.e (t := .sc (.bool ((decide ((digs n).length = 1)) && (decide (((digs n).getD 0 0) = 1))))) rfl rfl rfl (ok_assign rfl rfl) ?_
  refine AOps.nil ?_
  refine AWP.ret ?_
  exact ⟨.inr rfl, _, .cons rfl .nil, boolT (one_tree n), rfl⟩
set_option maxRecDepth 100000 in
set_option maxHeartbeats 4000000 in
theorem zero_ct  : Ct 156 [] (ratT 0) := by
  refine Ct.of (n := 3) Tryz.func156 rfl rfl rfl rfl rfl fun w0 G0 => ?_
  refine AWP.seq ?_
  refine AWP.region ?_
  refine AOps.allocE (b := 0) (bs' := [(27, [.sc (.bool false), .sl [], .sl []])]) rfl rfl rfl rfl lay_zer_27 rfl rfl rfl rfl ?_
  refine AOps.nil ?_
  refine AWP.seq ?_
  refine AWP.region ?_
  refine AOps.e (t := natT 1) rfl rfl rfl (ok_call rfl (fromU_ct 1 (by decide)) rfl rfl) ?_
  refine AOps.e (t := .agg [.sc (.bool false), .sl [], natT 1]) rfl rfl rfl (ok_build rfl lay_str_27 rfl rfl rfl) ?_
  refine AOps.storeE (bs' := [(27, [.sc (.bool false), .sl [], natT 1])]) rfl rfl rfl rfl rfl rfl rfl rfl rfl lay_siz_27 rfl rfl rfl ?_
  refine AOps.nil ?_
  refine AWP.ret ?_
  exact ⟨.inr rfl, _, .cons ⟨_, _, _, _, rfl, rfl, .inl ⟨_, lay_agg_27, rfl, rfl⟩⟩ .nil, rfl, rfl⟩
set_option maxRecDepth 100000 in
set_option maxHeartbeats 4000000 in
theorem reduceL_ct (ng : Bool) (N D : Nat) (hN : (digs N).length ≤ 1048576) (hD : (digs D).length ≤ 1048576) : Ct 101 [.sc (.bool ng), natT N, natT D] (ratT (mkq ng N D)) := by
  refine Ct.of (n := 52) Tryz.func101 rfl rfl rfl rfl rfl fun w0 G0 => ?_
  refine AWP.seq ?_
  refine AWP.region ?_
  refine AOps.allocE (b := 0) (bs' := [(27, [.sc (.bool false), .sl [], .sl []])]) rfl rfl rfl rfl lay_zer_27 rfl rfl rfl rfl ?_
  refine AOps.nil ?_
  refine AWP.seq ?_
  refine AWP.seq ?_
  refine AWP.region ?_
  refine AOps.e (t := natT N) rfl rfl rfl (ok_move rfl rfl) ?_
  refine AOps.e (t := .sc (.int .i64 ((nbits N : Nat) : Int))) rfl rfl rfl (ok_call rfl (bitLenL_ct N hN) rfl rfl) ?_
  refine AOps.e (t := .sc (.bool (decide (nbits N = 0)))) rfl rfl rfl (OpOK.cast (ok_bin rfl rfl rfl (fun _ => rfl)) (boolT (eqN (nbits N) (0)))) ?_
  refine AOps.e (t := .sc (.bool (decide (nbits N = 0)))) rfl rfl rfl (ok_move rfl rfl) ?_
  refine AOps.c (t := natT D) ((decide (nbits N = 0)) = false) rfl rfl rfl plainG rfl rfl (fun hC => ok_move rfl rfl) ?_
  refine AOps.c (t := .sc (.int .i64 ((nbits D : Nat) : Int))) ((decide (nbits N = 0)) = false) rfl rfl rfl plainG rfl rfl (fun hC => ok_call rfl (bitLenL_ct D hD) (consE (if_pos hC) rfl) rfl) ?_
  refine AOps.c (t := .sc (.bool (decide (nbits D = 0)))) ((decide (nbits N = 0)) = false) rfl rfl rfl plainG rfl rfl (fun hC => OpOK.cast (ok_bin rfl (if_pos hC) rfl (fun _ => rfl)) (boolT (eqN (nbits D) (0)))) ?_
  refine AOps.e (t := .sc (.bool ((decide (nbits N = 0)) || (decide (nbits D = 0))))) rfl rfl rfl (ok_pickS rfl rfl (fun h_ => (boolT (by rw [h_]; rfl))) (fun h_ => (if_pos h_).trans (boolT (by rw [h_]; rfl)))) ?_
  refine AOps.nil ?_
  refine AWP.cond (b := (decide (nbits N = 0)) || (decide (nbits D = 0))) rfl (fun hc1 => ?_) (fun hc1 => ?_)
  ·
    refine AWP.seq ?_
    refine AWP.region ?_
    refine AOps.e (t := .agg [.sc (.bool (decide ((0 : Rat).num < 0))), natT ((0 : Rat).num.natAbs), natT ((0 : Rat).den)]) rfl rfl rfl (ok_call rfl (zero_ct) rfl rfl) ?_
    refine AOps.storeE (bs' := [(27, [.sc (.bool (decide ((0 : Rat).num < 0))), natT ((0 : Rat).num.natAbs), natT ((0 : Rat).den)])]) rfl rfl rfl rfl rfl rfl rfl rfl rfl lay_siz_27 rfl rfl rfl ?_
    refine AOps.nil ?_
    refine AWP.ret ?_
    exact ⟨.inr rfl, _, .cons ⟨_, _, _, _, rfl, rfl, .inl ⟨_, lay_agg_27, rfl, rfl⟩⟩ .nil, ratE (or_mkq hc1), rfl⟩
  ·
    have hn0 : N ≠ 0 := fun e => by
      subst e; rw [show nbits 0 = 0 from rfl] at hc1; cases hc1
    have hd0 : D ≠ 0 := fun e => by
      subst e; rw [show nbits 0 = 0 from rfl, Bool.or_comm] at hc1; cases hc1
    refine AWP.skip ?_
    refine AWP.seq ?_
    refine AWP.region ?_
    refine AOps.e (t := natT N) rfl rfl rfl (ok_move rfl rfl) ?_
    refine AOps.e (t := natT D) rfl rfl rfl (ok_move rfl rfl) ?_
    refine AOps.e (t := natT (Nat.gcd N D)) rfl rfl rfl (ok_call rfl (gcd_ct N D hN hD) rfl rfl) ?_
    refine AOps.e (t := natT (Nat.gcd N D)) rfl rfl rfl (ok_assign rfl rfl) ?_
    refine AOps.nil ?_
    refine AWP.seq ?_
    refine AWP.seq ?_
    refine AWP.region ?_
    refine AOps.e (t := natT (Nat.gcd N D)) rfl rfl rfl (ok_move rfl rfl) ?_
    refine AOps.e (t := .sc (.bool (decide (Nat.gcd N D = 1)))) rfl rfl rfl (ok_call rfl (isOne_ct _) rfl rfl) ?_
    refine AOps.nil ?_
    refine AWP.cond (b := decide (Nat.gcd N D = 1)) rfl (fun hc2 => ?_) (fun hc2 => ?_)
    ·
      replace hc2 := of_decide_eq_true hc2
      refine AWP.seq ?_
      refine AWP.region ?_
      refine AOps.e (t := .sc (.bool ng)) rfl rfl rfl (ok_move rfl rfl) ?_
      refine AOps.e (t := natT N) rfl rfl rfl (ok_move rfl rfl) ?_
      refine AOps.e (t := natT N) rfl rfl rfl (ok_call rfl (bnorm_ct N (by omega)) rfl rfl) ?_
      refine AOps.e (t := natT D) rfl rfl rfl (ok_move rfl rfl) ?_
      refine AOps.e (t := natT D) rfl rfl rfl (ok_call rfl (bnorm_ct D (by omega)) rfl rfl) ?_
      refine AOps.e (t := .agg [.sc (.bool ng), natT N, natT D]) rfl rfl rfl (ok_build rfl lay_str_27 rfl rfl rfl) ?_
      refine AOps.storeE (bs' := [(27, [.sc (.bool ng), natT N, natT D])]) rfl rfl rfl rfl rfl rfl rfl rfl rfl lay_siz_27 rfl rfl rfl ?_
      refine AOps.nil ?_
      refine AWP.ret ?_
      exact ⟨.inr rfl, _, .cons ⟨_, _, _, _, rfl, rfl, .inl ⟨_, lay_agg_27, rfl, rfl⟩⟩ .nil, mkq_gcd1 hn0 hd0 hc2, rfl⟩
    ·
      replace hc2 := of_decide_eq_false hc2
      refine AWP.skip ?_
      refine AWP.seq ?_
      refine AWP.region ?_
      refine AOps.e (t := natT N) rfl rfl rfl (ok_move rfl rfl) ?_
      refine AOps.e (t := natT (Nat.gcd N D)) rfl rfl rfl (ok_move rfl rfl) ?_
      refine AOps.e (t := .tup [natT (N / Nat.gcd N D), natT (N % Nat.gcd N D), .sc (.bool true)]) rfl rfl rfl (ok_call rfl (bdiv_ct _ _ hN (Nat.le_trans (digs_length_mono (Nat.gcd_le_left D (Nat.pos_of_ne_zero hn0))) hN) (Nat.gcd_pos_of_pos_left _ (Nat.pos_of_ne_zero hn0))) rfl rfl) ?_
      refine AOps.e (t := .tup [natT (N / Nat.gcd N D), natT (N % Nat.gcd N D), .sc (.bool true)]) rfl rfl rfl (ok_move rfl rfl) ?_
      refine AOps.e (t := natT (N / Nat.gcd N D)) rfl rfl rfl (ok_extract rfl rfl rfl) ?_
      refine AOps.e (t := natT (N % Nat.gcd N D)) rfl rfl rfl (ok_extract rfl rfl rfl) ?_
      refine AOps.e (t := .sc (.bool true)) rfl rfl rfl (ok_extract rfl rfl rfl) ?_
      refine AOps.e (t := natT (N / Nat.gcd N D)) rfl rfl rfl (ok_assign rfl rfl) ?_
      refine AOps.e (t := natT (N % Nat.gcd N D)) rfl rfl rfl (ok_assign rfl rfl) ?_
      refine AOps.e (t := .sc (.bool true)) rfl rfl rfl (ok_assign rfl rfl) ?_
      refine AOps.nil ?_
      refine AWP.seq ?_
      refine AWP.region ?_
      refine AOps.e (t := natT D) rfl rfl rfl (ok_move rfl rfl) ?_
      refine AOps.e (t := natT (Nat.gcd N D)) rfl rfl rfl (ok_move rfl rfl) ?_
      refine AOps.e (t := .tup [natT (D / Nat.gcd N D), natT (D % Nat.gcd N D), .sc (.bool true)]) rfl rfl rfl (ok_call rfl (bdiv_ct _ _ hD (Nat.le_trans (digs_length_mono (Nat.gcd_le_left D (Nat.pos_of_ne_zero hn0))) hN) (Nat.gcd_pos_of_pos_left _ (Nat.pos_of_ne_zero hn0))) rfl rfl) ?_
      refine AOps.e (t := .tup [natT (D / Nat.gcd N D), natT (D % Nat.gcd N D), .sc (.bool true)]) rfl rfl rfl (ok_move rfl rfl) ?_
      refine AOps.e (t := natT (D / Nat.gcd N D)) rfl rfl rfl (ok_extract rfl rfl rfl) ?_
      refine AOps.e (t := natT (D % Nat.gcd N D)) rfl rfl rfl (ok_extract rfl rfl rfl) ?_
      refine AOps.e (t := .sc (.bool true)) rfl rfl rfl (ok_extract rfl rfl rfl) ?_
      refine AOps.e (t := natT (D / Nat.gcd N D)) rfl rfl rfl (ok_assign rfl rfl) ?_
      refine AOps.e (t := natT (D % Nat.gcd N D)) rfl rfl rfl (ok_assign rfl rfl) ?_
      refine AOps.e (t := .sc (.bool true)) rfl rfl rfl (ok_assign rfl rfl) ?_
      refine AOps.nil ?_
      refine AWP.seq ?_
      refine AWP.region ?_
      refine AOps.e (t := .sc (.bool ng)) rfl rfl rfl (ok_move rfl rfl) ?_
      refine AOps.e (t := natT (N / Nat.gcd N D)) rfl rfl rfl (ok_move rfl rfl) ?_
      refine AOps.e (t := natT (D / Nat.gcd N D)) rfl rfl rfl (ok_move rfl rfl) ?_
      refine AOps.e (t := .agg [.sc (.bool ng), natT (N / Nat.gcd N D), natT (D / Nat.gcd N D)]) rfl rfl rfl (ok_build rfl lay_str_27 rfl rfl rfl) ?_
      refine AOps.storeE (bs' := [(27, [.sc (.bool ng), natT (N / Nat.gcd N D), natT (D / Nat.gcd N D)])]) rfl rfl rfl rfl rfl rfl rfl rfl rfl lay_siz_27 rfl rfl rfl ?_
      refine AOps.nil ?_
      refine AWP.ret ?_
      exact ⟨.inr rfl, _, .cons ⟨_, _, _, _, rfl, rfl, .inl ⟨_, lay_agg_27, rfl, rfl⟩⟩ .nil, (mkq_gcd hn0 hd0), rfl⟩
theorem reduce_ct (ng : Bool) (N D : Nat) (hN : (digs N).length ≤ 262144) (hD : (digs D).length ≤ 262144) : Ct 101 [.sc (.bool ng), natT N, natT D] (ratT (mkq ng N D)) := reduceL_ct ng N D (by omega) (by omega)
set_option maxRecDepth 100000 in
set_option maxHeartbeats 4000000 in
theorem norm_ct (ng : Bool) (N D : Nat) (hN : (digs N).length ≤ 262144) (hD : (digs D).length ≤ 262144) : Ct 62 [fracT ng N D] (ratT (mkq ng N D)) := by
  refine Ct.of (n := 10) Tryz.func62 rfl rfl rfl rfl rfl fun w0 G0 => ?_
  refine AWP.seq ?_
  refine AWP.region ?_
  refine AOps.boxE (cs := [.sc (.bool ng), natT N, natT D]) (b := 0) (bs' := [(27, [.sc (.bool ng), natT N, natT D])]) rfl rfl rfl rfl rfl rfl rfl rfl rfl rfl ?_
  refine AOps.allocE (b := 1) (bs' := [(27, [.sc (.bool ng), natT N, natT D]), (27, [.sc (.bool false), .sl [], .sl []])]) rfl rfl rfl rfl lay_zer_27 rfl rfl rfl rfl ?_
  refine AOps.nil ?_
  refine AWP.seq ?_
  refine AWP.region ?_
  refine AOps.e (t := .box 0 0) rfl rfl rfl (ok_field_box rfl rfl lay_fld_27_0 rfl) ?_
  refine AOps.e (t := .sc (.bool ng)) rfl rfl rfl (ok_load_box1 rfl rfl rfl lay_one_4 rfl) ?_
  refine AOps.e (t := .box 0 1) rfl rfl rfl (ok_field_box rfl rfl lay_fld_27_1 rfl) ?_
  refine AOps.e (t := natT N) rfl rfl rfl (ok_load_box1 rfl rfl rfl lay_one_25 rfl) ?_
  refine AOps.e (t := .box 0 2) rfl rfl rfl (ok_field_box rfl rfl lay_fld_27_2 rfl) ?_
  refine AOps.e (t := natT D) rfl rfl rfl (ok_load_box1 rfl rfl rfl lay_one_25 rfl) ?_
  refine AOps.e (t := .agg [.sc (.bool (decide ((mkq ng N D).num < 0))), natT ((mkq ng N D).num.natAbs), natT ((mkq ng N D).den)]) rfl rfl rfl (ok_call rfl (reduce_ct ng N D hN hD) rfl rfl) ?_
  refine AOps.storeE (bs' := [(27, [.sc (.bool ng), natT N, natT D]), (27, [.sc (.bool (decide ((mkq ng N D).num < 0))), natT ((mkq ng N D).num.natAbs), natT ((mkq ng N D).den)])]) rfl rfl rfl rfl rfl rfl rfl rfl rfl lay_siz_27 rfl rfl rfl ?_
  refine AOps.nil ?_
  refine AWP.ret ?_
  exact ⟨.inr rfl, _, .cons ⟨_, _, _, _, rfl, rfl, .inl ⟨_, lay_agg_27, rfl, rfl⟩⟩ .nil, rfl, rfl⟩
end Go.Proofs.YtpinhcdcnaaihaaGreatDoor
namespace Go.Proofs.YtpinhcdcnaaihaaGreatDoor
open Go.RowKit
theorem normR_ct (q : Rat) (h : Fit 262144 q) : Ct 62 [ratT q] (ratT q) := by
  have := norm_ct (decide (q.num < 0)) q.num.natAbs q.den h.num h.den
  rw [mkq_self] at this
  exact this
theorem lay_und_56 : Tryz.prog.underlying 56 = some (.int .u64) := by kernel_rfl
end Go.Proofs.YtpinhcdcnaaihaaGreatDoor
namespace Go.Proofs.YtpinhcdcnaaihaaGreatDoor
open Go.RowKit
set_option maxRecDepth 100000 in
set_option maxHeartbeats 1000000 in
theorem whole_any (n : Int) (w : World) (h0 : -9223372036854775808 ≤ n) (h1 : n ≤ 9223372036854775807) :
    Calls Tryz.prog 105 #[.int .i64 n] w (FracPost (decide (n < 0)) n.natAbs 1 w) := by
  obtain ⟨W, hW, hbW, hgW, hzW⟩ := blk1 w 27 #[.bool false, .slice none 0 0, .slice none 0 0]
  have HW := Lib.hid hW
  have HBW := Lib.hid hbW
  have HGW := Lib.hid hgW
  have hsW := hbW.size
  have hzz : w.heap.size < W.heap.size := by omega
  clear hW hbW hgW hzW
  obtain ⟨ng, hng⟩ : ∃ ng, decide (n < 0) = ng := ⟨_, rfl⟩
  have HC := Lib.hid (fracNew_any n W h0 h1)
  rw [hng] at HC
  have HNG := Lib.hid hng
  clear hng
  go_enter Tryz.func105, Tryz.ntmps105
  go_wp2_with fail
  rw [HW.out]
  refine HC.out.mono ?_
  rintro e w1 ⟨vn, vd, rfl, hon, hod, hb1⟩
  obtain ⟨An, cn, en, _⟩ := hon.is (digs_lt _)
  obtain ⟨Ad, cd, ed, _⟩ := hod.is (digs_lt _)
  subst en ed
  have HON := Lib.hid hon
  have HOD := Lib.hid hod
  have HB1 := Lib.hid (below_then HBW.out hb1 hsW)
  have HG1 := Lib.hid (HGW.out.below hb1 HGW.out.lt)
  have hs1 : w.heap.size ≤ w1.heap.size := Nat.le_trans hsW hb1.size
  have hz1 : w.heap.size < w1.heap.size := Nat.lt_of_lt_of_le hzz hb1.size
  obtain ⟨d1, d2, d3, f1, f2, f3⟩ := HG1.out.three
  clear hon hod hb1
  go_wp2
  clear d1 d2 d3 f1 f2 f3
  obtain ⟨w6, h6, hg6, hb6, hz6, hk6⟩ := store3 HG1.out (.bool ng) (.slice An (digs n.natAbs).length cn) (.slice Ad (digs 1).length cd)
  rw [h6]
  have ho2 : OwnN w6 W.heap.size _ (digs n.natAbs) := own_other HON.out (own_off HON.out hzz) hk6
  have ho3 : OwnN w6 W.heap.size _ (digs 1) := own_other HOD.out (own_off HOD.out hzz) hk6
  obtain ⟨d0, d1, d2, _, _, _⟩ := (hg6.alloc (.cells #[.bool ng, .slice An (digs n.natAbs).length cn, .slice Ad (digs 1).length cd] 27)).three
  have hba : Below w6.heap.size w6 (w6.alloc (.cells #[.bool ng, .slice An (digs n.natAbs).length cn, .slice Ad (digs 1).length cd] 27)) := (Below.refl _ _).alloc (Nat.le_refl _) _
  exact bodyPost_ret (v := .agg #[.bool ng, .slice An (digs n.natAbs).length cn, .slice Ad (digs 1).length cd]) (by simp [results, Tryz.results105, go_sem, d0, d1, d2]) rfl ⟨_, _, by rw [HNG.out], (ho2.below hba).base_le hsW, (ho3.below hba).base_le hsW, (HB1.out.trans hb6).trans (hba.mono (by omega))⟩
def ffmt (ng : Bool) (X : Nat) : List UInt8 := if ng = true then 45 :: Lib.decDigits X else Lib.decDigits X
def FF5 (g : Nat) (Bd : Option Addr) (cd : Nat) : List (Value → World → Prop) := [
  fun r _ => r = .pointer (some ⟨g, 2, none⟩),
  fun r _ => r = .slice Bd (digs 1).length cd,
  fun r W => IsD W r 1,
  fun r _ => r = .int .i64 0,
  fun r _ => r = .bool false]
theorem FF5_stab (g : Nat) (Bd : Option Addr) (cd : Nat) (W0 : World) : Stab W0 (FF5 g Bd cd) :=
  .eq <| .eq <| .cons (fun _ _ _ _ h hb => h.below hb) <| .eq <| .eq <| .nil
set_option maxRecDepth 100000 in
set_option maxHeartbeats 1000000 in
theorem fracFmt_any (ng : Bool) (A B : Option Addr) (ca cb X : Nat) (w : World) (hA : IsN w A ca (digs X)) (hB : IsN w B cb (digs 1)) (hlx : (digs X).length ≤ 1048576) (hn : ng = true → X ≠ 0) (hD : (Lib.decDigits X).length ≤ 1073741824) :
    Calls Tryz.prog 27 #[.agg #[.bool ng, .slice A (digs X).length ca, .slice B (digs 1).length cb]] w (StrPost (ffmt ng X) w) := by
  obtain ⟨W, hW, hbW, hgW, hzW⟩ := blk1 w 27 #[.bool ng, .slice A (digs X).length ca, .slice B (digs 1).length cb]
  have HW := Lib.hid hW
  have HBW := Lib.hid hbW
  have hsW := hbW.size
  have HC := Lib.hid (norm_whole (hA.below hbW) (hB.below hbW) hlx hn)
  clear hW hbW hgW hzW hA hB hn
  go_enter Tryz.func27, Tryz.ntmps27
  go_wp2_with fail
  rw [HW.out]
  refine HC.out.mono ?_
  rintro e w1 ⟨vn, vd, rfl, hon, hod, hb1⟩
  obtain ⟨An, cn, en, hin⟩ := hon.is (digs_lt _)
  obtain ⟨Bd, cd, ed, hid⟩ := hod.is (digs_lt _)
  subst en ed
  have HB1 := Lib.hid (below_then HBW.out hb1 hsW)
  have hs1 : w.heap.size ≤ w1.heap.size := Nat.le_trans hsW hb1.size
  obtain ⟨W2, hW2, hbW2, hgW2, hzW2⟩ := blk1 w1 27 #[.bool ng, .slice An (digs X).length cn, .slice Bd (digs 1).length cd]
  have HW2 := Lib.hid hW2
  have HIN := Lib.hid (hin.below hbW2)
  have HID := Lib.hid (hid.below hbW2)
  have HG2 := Lib.hid hgW2
  have HB2 := Lib.hid (below_then HB1.out hbW2 hs1)
  have hs2 : w.heap.size ≤ W2.heap.size := Nat.le_trans hs1 hbW2.size
  clear hon hod hb1 hin hid hW2 hbW2 hgW2 hzW2
  have hnf := natFmt_any An cn (digs X) W2 HIN.out hlx (by rw [nval_digs]; exact hD)
  rw [nval_digs] at hnf
  have HNF := Lib.hid hnf
  clear hnf
  go_wp2_with fail
  rw [HW2.out]
  refine HNF.out.mono ?_
  rintro e w3 ⟨rfl, hb3⟩
  have HB3 := Lib.hid (below_then HB2.out hb3 hs2)
  have HDD := Lib.hid (HID.out.below hb3)
  have HG3 := Lib.hid (HG2.out.below hb3 HG2.out.lt)
  have hs3 : w.heap.size ≤ w3.heap.size := Nat.le_trans hs2 hb3.size
  obtain ⟨d0, d1, d2, _, _, _⟩ := HG3.out.three
  have hgl := HG3.out.lt
  generalize hgg : w1.heap.size = g at *
  obtain ⟨D, hDe⟩ : ∃ D, Lib.decDigits X = D := ⟨_, rfl⟩
  have HDE := Lib.hid hDe
  rw [hDe] at hD ⊢
  clear hb3 hDe hgg
  cases ng
  · go_wp2
    have c2 := d2
    refine wp_region_below [some 14, some 15, some 16, some 17, some 18] (FF5 g Bd cd) (by kernel_rfl) (by kernel_rfl) (by rfl) (by rfl) (FF5_stab g Bd cd _) ?_ ?_
    ·
      refine Steps.cons trivial (fun T W hg => ?_) ?_
      · have e3 : T 3 = .pointer (some ⟨g, 0, none⟩) := hg.keep 3 (by rfl)
        have hwi := hg.wi
        clear hg
        refine OpRuns.of_ok (v := .pointer (some ⟨g, 2, none⟩)) (W' := W) ?_ ⟨rfl, Below.refl _ _⟩
        simp only [execOp, evT, e3]
        go_simp
      refine Steps.cons trivial (fun T W hg => ?_) ?_
      · have e14 : T 14 = .pointer (some ⟨g, 2, none⟩) := hg.fact 1 0 14 (by kernel_rfl)
        have hwi := hg.wi
        clear hg
        refine OpRuns.of_ok (v := .slice Bd (digs 1).length cd) (W' := W) ?_ ⟨rfl, Below.refl _ _⟩
        have c2' := (hwi.cell (p := ⟨g, 2, none⟩) hgl).trans c2
        simp only [execOp, evT, e14]
        go_simp
      refine Steps.cons trivial (fun T W hg => ?_) ?_
      · have hwi := hg.wi
        clear hg
        refine OpRuns.of_call ?_ ((natOf_any 1 _ (by omega)).mono fun e W' h => ?_)
        · simp only [execOp, resolve, invoke, List.map_toArray, List.map_cons, List.map_nil, evT]
          go_simp
        · obtain ⟨A', c', he, hi, hb⟩ := h.open_
          exact ⟨_, he, ⟨A', c', rfl, hi⟩, hb⟩
      refine Steps.cons trivial (fun T W hg => ?_) ?_
      · have e15 : T 15 = .slice Bd (digs 1).length cd := hg.fact 1 1 15 (by kernel_rfl)
        have p16 : (fun r W => IsD W r 1) (T 16) W := hg.fact 1 2 16 (by kernel_rfl)
        simp only at p16
        have hwi := hg.wi
        clear hg
        obtain ⟨A', c', e16, hi⟩ := p16
        refine OpRuns.of_call ?_ ((cmpN (HDD.out.below hwi) hi (by have := one_len; omega) (by have := one_len; omega)).mono fun e W' h => ⟨_, h.1, ?_, h.2⟩)
        · simp only [execOp, resolve, invoke, List.map_toArray, List.map_cons, List.map_nil, evT, e15, e16]
          go_simp
        · show Value.int .i64 (cmpI ((1 : Nat) : Int) ((1 : Nat) : Int)) = _
          rw [cmpN_eq rfl]
      refine Steps.cons trivial (fun T W hg => ?_) ?_
      · have e17 : T 17 = .int .i64 0 := hg.fact 1 3 17 (by kernel_rfl)
        have hwi := hg.wi
        clear hg
        refine OpRuns.of_ok (v := .bool false) (W' := W) ?_ ⟨rfl, Below.refl _ _⟩
        simp only [execOp, evT, e17]
        go_simp
      exact Steps.nil
    · intro us W1 hlen hF hb
      obtain ⟨y0, us0, rfl, hl0⟩ := len_cons hlen
      clear hlen
      obtain ⟨y1, us1, rfl, hl1⟩ := len_cons hl0
      clear hl0
      obtain ⟨y2, us2, rfl, hl2⟩ := len_cons hl1
      clear hl1
      obtain ⟨y3, us3, rfl, hl3⟩ := len_cons hl2
      clear hl2
      obtain ⟨y4, us4, rfl, hl4⟩ := len_cons hl3
      clear hl3
      obtain rfl := len_nil hl4
      clear hl4
      have f4 : y4 = .bool false := hF 4 (by decide)
      clear hF
      subst f4
      simp only [updO, List.zip_cons_cons, List.zip_nil_right, List.setIfInBounds_toArray, List.set_cons_succ, List.set_cons_zero]
      have HB4 := Lib.hid (below_then HB3.out hb hs3)
      clear hb c2 d0 d1 d2
      go_wp2
      go_ret
      exact ⟨by rw [show ffmt false X = D from HDE.out]; rfl, HB4.out⟩
  · go_wp2
    have c2 := d2
    refine wp_region_below [some 14, some 15, some 16, some 17, some 18] (FF5 g Bd cd) (by kernel_rfl) (by kernel_rfl) (by rfl) (by rfl) (FF5_stab g Bd cd _) ?_ ?_
    ·
      refine Steps.cons trivial (fun T W hg => ?_) ?_
      · have e3 : T 3 = .pointer (some ⟨g, 0, none⟩) := hg.keep 3 (by rfl)
        have hwi := hg.wi
        clear hg
        refine OpRuns.of_ok (v := .pointer (some ⟨g, 2, none⟩)) (W' := W) ?_ ⟨rfl, Below.refl _ _⟩
        simp only [execOp, evT, e3]
        go_simp
      refine Steps.cons trivial (fun T W hg => ?_) ?_
      · have e14 : T 14 = .pointer (some ⟨g, 2, none⟩) := hg.fact 1 0 14 (by kernel_rfl)
        have hwi := hg.wi
        clear hg
        refine OpRuns.of_ok (v := .slice Bd (digs 1).length cd) (W' := W) ?_ ⟨rfl, Below.refl _ _⟩
        have c2' := (hwi.cell (p := ⟨g, 2, none⟩) hgl).trans c2
        simp only [execOp, evT, e14]
        go_simp
      refine Steps.cons trivial (fun T W hg => ?_) ?_
      · have hwi := hg.wi
        clear hg
        refine OpRuns.of_call ?_ ((natOf_any 1 _ (by omega)).mono fun e W' h => ?_)
        · simp only [execOp, resolve, invoke, List.map_toArray, List.map_cons, List.map_nil, evT]
          go_simp
        · obtain ⟨A', c', he, hi, hb⟩ := h.open_
          exact ⟨_, he, ⟨A', c', rfl, hi⟩, hb⟩
      refine Steps.cons trivial (fun T W hg => ?_) ?_
      · have e15 : T 15 = .slice Bd (digs 1).length cd := hg.fact 1 1 15 (by kernel_rfl)
        have p16 : (fun r W => IsD W r 1) (T 16) W := hg.fact 1 2 16 (by kernel_rfl)
        simp only at p16
        have hwi := hg.wi
        clear hg
        obtain ⟨A', c', e16, hi⟩ := p16
        refine OpRuns.of_call ?_ ((cmpN (HDD.out.below hwi) hi (by have := one_len; omega) (by have := one_len; omega)).mono fun e W' h => ⟨_, h.1, ?_, h.2⟩)
        · simp only [execOp, resolve, invoke, List.map_toArray, List.map_cons, List.map_nil, evT, e15, e16]
          go_simp
        · show Value.int .i64 (cmpI ((1 : Nat) : Int) ((1 : Nat) : Int)) = _
          rw [cmpN_eq rfl]
      refine Steps.cons trivial (fun T W hg => ?_) ?_
      · have e17 : T 17 = .int .i64 0 := hg.fact 1 3 17 (by kernel_rfl)
        have hwi := hg.wi
        clear hg
        refine OpRuns.of_ok (v := .bool false) (W' := W) ?_ ⟨rfl, Below.refl _ _⟩
        simp only [execOp, evT, e17]
        go_simp
      exact Steps.nil
    · intro us W1 hlen hF hb
      obtain ⟨y0, us0, rfl, hl0⟩ := len_cons hlen
      clear hlen
      obtain ⟨y1, us1, rfl, hl1⟩ := len_cons hl0
      clear hl0
      obtain ⟨y2, us2, rfl, hl2⟩ := len_cons hl1
      clear hl1
      obtain ⟨y3, us3, rfl, hl3⟩ := len_cons hl2
      clear hl2
      obtain ⟨y4, us4, rfl, hl4⟩ := len_cons hl3
      clear hl3
      obtain rfl := len_nil hl4
      clear hl4
      have f4 : y4 = .bool false := hF 4 (by decide)
      clear hF
      subst f4
      simp only [updO, List.zip_cons_cons, List.zip_nil_right, List.setIfInBounds_toArray, List.set_cons_succ, List.set_cons_zero]
      have HB4 := Lib.hid (below_then HB3.out hb hs3)
      clear hb c2 d0 d1 d2
      go_wp2
      go_ret
      refine ⟨?_, HB4.out⟩
      rw [show ffmt true X = 45 :: D by rw [ffmt, if_pos rfl, HDE.out]]
      have := app_mk [45] D
      simp at this ⊢
      first | rfl | exact this
end Go.Proofs.YtpinhcdcnaaihaaGreatDoor
namespace Go.Proofs.YtpinhcdcnaaihaaGreatDoor
open Go.RowKit
theorem refInt_any (n : Int) (w : World) :
    Calls Tryz.prog 6 #[.int .i64 n] w fun e w' => e = .returned (.agg #[.int .i64 1, .int .i64 n, .string ⟨#[]⟩]) ∧ Below w.heap.size w w' := by
  go_enter Tryz.func6, Tryz.ntmps6
  go_wp2
  exact bodyPost_ret (v := .agg #[.int .i64 1, .int .i64 n, .string ⟨#[]⟩]) (by simp [results, Tryz.results6, go_sem]) rfl ⟨rfl, (Below.refl _ _).alloc (Nat.le_refl _) _⟩
theorem refStr_any (s : ByteArray) (w : World) :
    Calls Tryz.prog 7 #[.string s] w fun e w' => e = .returned (.agg #[.int .i64 2, .int .i64 0, .string s]) ∧ Below w.heap.size w w' := by
  go_enter Tryz.func7, Tryz.ntmps7
  go_wp2
  exact bodyPost_ret (v := .agg #[.int .i64 2, .int .i64 0, .string s]) (by simp [results, Tryz.results7, go_sem]) rfl ⟨rfl, (Below.refl _ _).alloc (Nat.le_refl _) _⟩
theorem refValid_int (n : Int) (s : ByteArray) (w : World) :
    Calls Tryz.prog 104 #[.agg #[.int .i64 1, .int .i64 n, .string s]] w fun e w' => e = .returned (.bool (validB 1 n s)) ∧ Below w.heap.size w w' := by
  go_enter Tryz.func104, Tryz.ntmps104
  go_wp2
  go_ret
  exact ⟨by simp [validB, Lib.toList_data], (Below.refl _ _).alloc (Nat.le_refl _) _⟩
theorem refValid_other (t n : Int) (s : ByteArray) (w : World) (h1 : t ≠ 1) (h2 : t ≠ 2) :
    Calls Tryz.prog 104 #[.agg #[.int .i64 t, .int .i64 n, .string s]] w fun e w' => e = .returned (.bool (validB t n s)) ∧ Below w.heap.size w w' := by
  have HF := Lib.hid (show validB t n s = false by simp [validB, h1, h2])
  have g1 : (t == 1) = false := by simpa using h1
  have g3 : (t == 2) = false := by simpa using h2
  clear h1 h2
  go_enter Tryz.func104, Tryz.ntmps104
  go_wp2
  go_ret
  exact ⟨by rw [HF.out]; rfl, (Below.refl _ _).alloc (Nat.le_refl _) _⟩
theorem refValid_str (n : Int) (s : ByteArray) (w : World) (hs : s.size ≤ 9223372036854775807) :
    Calls Tryz.prog 104 #[.agg #[.int .i64 2, .int .i64 n, .string s]] w fun e w' => e = .returned (.bool (validB 2 n s)) ∧ Below w.heap.size w w' := by
  have HF := Lib.hid (show validB 2 n s = (decide (n = 0) && decide (s.size ≤ 64) && s.data.toList.all okB) by simp [validB])
  go_enter Tryz.func104, Tryz.ntmps104
  go_wp2
  go_loop [3] (fun i => ∃ k : Nat, k ≤ s.size ∧ (s.data.toList.take k).all okB = true ∧ i = .int .i64 k) (fun i => s.size - (intOf i).toNat)
  case atStart => exact ⟨0, Nat.zero_le _, by simp, rfl⟩
  case round =>
    obtain ⟨k, hk, hall, rfl⟩ := hrel
    have HA := Lib.hid hall; clear hall
    by_cases hlt : k < s.size
    · have HS := Lib.hid (all_take_succ s k hlt)
      by_cases h1 : 32 ≤ s[k].toNat
      · by_cases h2 : s[k].toNat ≤ 126
        · have HO := Lib.hid (show okB s[k] = true by simp [okB, h1, h2])
          go_wp2
          go_round
          case rel => exact ⟨k + 1, by omega, by rw [HS.out, HA.out, HO.out]; rfl, by go_num⟩
          case measure => simp [intOf]; omega
        · have HO := Lib.hid (show s.data.toList.all okB = false from all_of_take (k + 1) (by rw [HS.out]; simp [okB, h2]))
          go_wp2
          go_ret
          exact ⟨by rw [HF.out, HO.out, Bool.and_false]; rfl, (Below.refl _ _).alloc (Nat.le_refl _) _⟩
      · have HO := Lib.hid (show s.data.toList.all okB = false from all_of_take (k + 1) (by rw [HS.out]; simp [okB, h1]))
        go_wp2
        go_ret
        exact ⟨by rw [HF.out, HO.out, Bool.and_false]; rfl, (Below.refl _ _).alloc (Nat.le_refl _) _⟩
    · have HO := Lib.hid (show s.data.toList.all okB = true by have := HA.out; rwa [List.take_of_length_le (by simp; omega)] at this)
      by_cases hn : n = 0
      · subst hn
        have HF2 := Lib.hid (show decide ((s.size : Int) ≤ 64) = validB 2 0 s by rw [HF.out, HO.out]; simp; omega)
        go_wp2
        go_ret
        exact ⟨by rw [← HF2.out]; rfl, (Below.refl _ _).alloc (Nat.le_refl _) _⟩
      · have HF2 := Lib.hid (show validB 2 n s = false by rw [HF.out, HO.out]; simp [hn])
        have g1 : (n == 0) = false := by simpa using hn
        clear hn
        go_wp2
        go_ret
        exact ⟨by rw [HF2.out]; rfl, (Below.refl _ _).alloc (Nat.le_refl _) _⟩
theorem refValid_any (t n : Int) (s : ByteArray) (w : World) (hs : s.size ≤ 9223372036854775807) :
    Calls Tryz.prog 104 #[.agg #[.int .i64 t, .int .i64 n, .string s]] w fun e w' => e = .returned (.bool (validB t n s)) ∧ Below w.heap.size w w' := by
  by_cases h1 : t = 1
  · subst h1; exact refValid_int n s w
  by_cases h2 : t = 2
  · subst h2; exact refValid_str n s w hs
  · exact refValid_other t n s w h1 h2
end Go.Proofs.YtpinhcdcnaaihaaGreatDoor
namespace Go.Proofs.YtpinhcdcnaaihaaGreatDoor
open Go.RowKit
end Go.Proofs.YtpinhcdcnaaihaaGreatDoor
