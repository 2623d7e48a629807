import Derived.Test.YtpinhcdcnaaihaaGreatDoorA25
namespace Go.Proofs.YtpinhcdcnaaihaaGreatDoor
open Go.RowKit
def jn (b : List UInt8) : Nat → List ByteArray → List UInt8
  | _, [] => []
  | j, x :: l => (if 0 < j then b else []) ++ (x.data.toList ++ jn b (j + 1) l)
theorem jn_step {b : List UInt8} {x : ByteArray} {l : List ByteArray} {j : Nat} (h : l[j]? = some x) : jn b j (l.drop j) = (if 0 < j then b else []) ++ (x.data.toList ++ jn b (j + 1) (l.drop (j + 1))) := by rw [drop_at h]; rfl
theorem jn_end {b : List UInt8} {l : List ByteArray} {j : Nat} (h : l.length ≤ j) : jn b j (l.drop j) = [] := by rw [List.drop_of_length_le h]; rfl
theorem jn_sepA : ∀ (vs : List V) (j : Nat), jn [44, 32] j (vs.map fun v => bb v.fmt) = sepA j vs
  | [], _ => rfl
  | v :: vs, j => by
    rw [List.map_cons, jn, sepA, jn_sepA vs (j + 1), bb_list]
theorem bsz (s : ByteArray) : s.data.toList.length = s.size := Array.length_toList
theorem lay_app_40 : appT Tryz.prog 40 = some (9, 1, 16) := by kernel_rfl
theorem lay_elm_40 : elmT Tryz.prog 40 = some (9, 1) := by kernel_rfl
theorem lay_one_9 : oneT Tryz.prog 9 = true := by kernel_rfl
theorem lay_zer_9 : zerT Tryz.prog 9 = some [.string (⟨#[]⟩)] := by kernel_rfl
set_option maxRecDepth 100000 in
set_option maxHeartbeats 4000000 in
theorem join_ct (b : List UInt8) (l : List ByteArray) (hl : l.length ≤ 1000000) (hT : (jn b 0 l).length ≤ 1073741824) : Ct 50 [.sl (l.map strTree), .sc (.string (bb b))] (.sc (.string (bb (jn b 0 l)))) := by
  refine Ct.of (n := 25) Tryz.func50 rfl rfl rfl rfl rfl fun w0 G0 => ?_
  refine AWP.seq ?_
  refine AWP.region ?_
  refine AOps.e (t := .sc (.string (⟨#[]⟩))) rfl rfl rfl (ok_assign rfl rfl) ?_
  refine AOps.nil ?_
  refine AWP.seq ?_
  refine AWP.region ?_
  refine AOps.e (t := .sc (.string (bb []))) rfl rfl rfl (ok_assign rfl rfl) ?_
  refine AOps.nil ?_
  refine AWP.seq ?_
  refine AWP.seq ?_
  refine AWP.region ?_
  refine AOps.e (t := .sc (.int .i64 0)) rfl rfl rfl (ok_assign rfl rfl) ?_
  refine AOps.nil ?_
  refine AWP.block ?_
  refine AWP.loopL (fun n_ S_ => ∃ (i : Nat) (acc : List UInt8), (i ≤ l.length ∧ acc ++ jn b i (l.drop i) = jn b 0 l) ∧ n_ = l.length - i ∧ S_ = ⟨25, [(0, .sl (l.map strTree)), (1, .sc (.string (bb b))), (5, .sc (.string (bb acc))), (6, .sc (.int .i64 ((i : Nat) : Int)))], [], []⟩) 0 0 ⟨0, [], ⟨by omega, rfl⟩, rfl, rfl⟩ ⟨rfl, rfl, rfl, .cons rfl rfl (.cons rfl rfl (.cons rfl rfl (.cons rfl rfl .nil))), rfl⟩ ?_
  rintro n_ S_ ⟨i, acc, ⟨hi, hinv⟩, rfl, rfl⟩
  refine AWP.seq ?_
  refine AWP.seq ?_
  refine AWP.region ?_
  refine AOps.e (t := .sc (.int .i64 ((i : Nat) : Int))) rfl rfl rfl (ok_move rfl rfl) ?_
  refine AOps.e (t := .sl (l.map strTree)) rfl rfl rfl (ok_move rfl rfl) ?_
  refine AOps.e (t := .sc (.int .i64 ((l.length : Nat) : Int))) rfl rfl rfl (OpOK.cast (ok_len rfl lay_elm_40 rfl) (by simp only [List.length_map])) ?_
  refine AOps.e (t := .sc (.bool (decide (i < l.length)))) rfl rfl rfl (OpOK.cast (ok_bin rfl rfl rfl (fun _ => rfl)) (boolT (ltN (i) (l.length)))) ?_
  refine AOps.nil ?_
  refine AWP.cond (b := decide (i < l.length)) rfl (fun hc1 => ?_) (fun hc1 => ?_)
  ·
    replace hc1 := of_decide_eq_true hc1
    obtain ⟨x, hxi⟩ : ∃ x, l[i]? = some x := ⟨_, List.getElem?_eq_getElem hc1⟩
    have hbx := bsz x
    rw [jn_step hxi] at hinv
    have hln := congrArg List.length hinv
    simp only [List.length_append] at hln
    refine AWP.skip ?_
    refine AWP.seq ?_
    refine AWP.block ?_
    refine AWP.seq ?_
    refine AWP.seq ?_
    refine AWP.region ?_
    refine AOps.e (t := .sc (.int .i64 ((i : Nat) : Int))) rfl rfl rfl (ok_move rfl rfl) ?_
    refine AOps.e (t := .sc (.bool (decide (0 < i)))) rfl rfl rfl (OpOK.cast (ok_bin rfl rfl rfl (fun _ => rfl)) (boolT (gtN (i) (0)))) ?_
    refine AOps.nil ?_
    refine AWP.cond (b := decide (0 < i)) rfl (fun hc2 => ?_) (fun hc2 => ?_)
    ·
      replace hc2 := of_decide_eq_true hc2
      rw [if_pos hc2] at hinv hln
      refine AWP.region ?_
      refine AOps.e (t := .sc (.string (bb acc))) rfl rfl rfl (ok_move rfl rfl) ?_
      refine AOps.e (t := .sc (.string (bb b))) rfl rfl rfl (ok_move rfl rfl) ?_
      refine AOps.e (t := .sc (.string (bb (acc ++ b)))) rfl rfl rfl (OpOK.cast (ok_bin rfl rfl rfl (fun _ => cat_run (by rw [bb_size, bb_size]; omega))) (strTr (bb_app acc b))) ?_
      refine AOps.e (t := .sc (.string (bb (acc ++ b)))) rfl rfl rfl (ok_assign rfl rfl) ?_
      refine AOps.nil ?_
      refine AWP.region ?_
      refine AOps.e (t := .sc (.string (bb (acc ++ b)))) rfl rfl rfl (ok_move rfl rfl) ?_
      refine AOps.e (t := .sl (l.map strTree)) rfl rfl rfl (ok_move rfl rfl) ?_
      refine AOps.e (t := .sc (.int .i64 ((i : Nat) : Int))) rfl rfl rfl (ok_move rfl rfl) ?_
      refine AOps.e (t := .ref [.sc (.string x)]) rfl rfl rfl (ok_index (strTree x) rfl lay_elm_40 rfl rfl rfl (map_get (f := strTree) hxi) (str_sized _) rfl) ?_
      refine AOps.e (t := .sc (.string x)) rfl rfl rfl (ok_load_ref1 rfl rfl lay_one_9 rfl) ?_
      refine AOps.e (t := .sc (.string (bb ((acc ++ b) ++ x.data.toList)))) rfl rfl rfl (OpOK.cast (ok_bin rfl rfl rfl (fun _ => cat_run (by rw [bb_size]; (try simp only [List.length_append]); omega))) (strTr (bb_appF (acc ++ b) x))) ?_
      refine AOps.e (t := .sc (.string (bb ((acc ++ b) ++ x.data.toList)))) rfl rfl rfl (ok_assign rfl rfl) ?_
      refine AOps.nil ?_
      refine AWP.region ?_
      refine AOps.e (t := .sc (.int .i64 ((i : Nat) : Int))) rfl rfl rfl (ok_move rfl rfl) ?_
      refine AOps.e (t := .sc (.int .i64 ((i + 1 : Nat) : Int))) rfl rfl rfl (OpOK.cast (ok_bin rfl rfl rfl (fun _ => rfl)) (wrapN (by omega) (by omega))) ?_
      refine AOps.e (t := .sc (.int .i64 ((i + 1 : Nat) : Int))) rfl rfl rfl (ok_assign rfl rfl) ?_
      refine AOps.nil ?_
      refine ⟨_, _, ?_, ⟨i + 1, ((acc ++ b) ++ x.data.toList), ?_, rfl, rfl⟩, ⟨rfl, rfl, rfl, .cons rfl rfl (.cons rfl rfl (.cons rfl rfl (.cons rfl rfl .nil))), rfl⟩⟩
      · omega
      · refine ⟨by omega, ?_⟩
        rw [← hinv]; simp
    ·
      replace hc2 := of_decide_eq_false hc2
      rw [if_neg hc2, List.nil_append] at hinv
      refine AWP.skip ?_
      refine AWP.region ?_
      refine AOps.e (t := .sc (.string (bb acc))) rfl rfl rfl (ok_move rfl rfl) ?_
      refine AOps.e (t := .sl (l.map strTree)) rfl rfl rfl (ok_move rfl rfl) ?_
      refine AOps.e (t := .sc (.int .i64 ((i : Nat) : Int))) rfl rfl rfl (ok_move rfl rfl) ?_
      refine AOps.e (t := .ref [.sc (.string x)]) rfl rfl rfl (ok_index (strTree x) rfl lay_elm_40 rfl rfl rfl (map_get (f := strTree) hxi) (str_sized _) rfl) ?_
      refine AOps.e (t := .sc (.string x)) rfl rfl rfl (ok_load_ref1 rfl rfl lay_one_9 rfl) ?_
      refine AOps.e (t := .sc (.string (bb (acc ++ x.data.toList)))) rfl rfl rfl (OpOK.cast (ok_bin rfl rfl rfl (fun _ => cat_run (by rw [bb_size]; (try simp only [List.length_append]); omega))) (strTr (bb_appF acc x))) ?_
      refine AOps.e (t := .sc (.string (bb (acc ++ x.data.toList)))) rfl rfl rfl (ok_assign rfl rfl) ?_
      refine AOps.nil ?_
      refine AWP.region ?_
      refine AOps.e (t := .sc (.int .i64 ((i : Nat) : Int))) rfl rfl rfl (ok_move rfl rfl) ?_
      refine AOps.e (t := .sc (.int .i64 ((i + 1 : Nat) : Int))) rfl rfl rfl (OpOK.cast (ok_bin rfl rfl rfl (fun _ => rfl)) (wrapN (by omega) (by omega))) ?_
      refine AOps.e (t := .sc (.int .i64 ((i + 1 : Nat) : Int))) rfl rfl rfl (ok_assign rfl rfl) ?_
      refine AOps.nil ?_
      refine ⟨_, _, ?_, ⟨i + 1, (acc ++ x.data.toList), ?_, rfl, rfl⟩, ⟨rfl, rfl, rfl, .cons rfl rfl (.cons rfl rfl (.cons rfl rfl (.cons rfl rfl .nil))), rfl⟩⟩
      · omega
      · refine ⟨by omega, ?_⟩
        rw [← hinv]; simp
  ·
    replace hc1 := of_decide_eq_false hc1
    refine AWP.exit ?_
    refine AWP.seq ?_
    refine AWP.region ?_
    refine AOps.e (t := .sc (.string (bb acc))) rfl rfl rfl (ok_move rfl rfl) ?_
    refine AOps.e (t := .sc (.string (bb acc))) rfl rfl rfl (ok_assign rfl rfl) ?_
    refine AOps.nil ?_
    refine AWP.ret ?_
    exact ⟨.inr rfl, _, .cons rfl .nil, strTr (by rw [← hinv, jn_end (by omega), List.append_nil]), rfl⟩
set_option maxRecDepth 100000 in
set_option maxHeartbeats 4000000 in
theorem vtext_ct (vs : List V) (hl : vs.length ≤ 1000) (hv : ∀ v ∈ vs, v.rng ∧ v.fmt.length ≤ 200 ∧ v.s.size ≤ 9223372036854775807) : Ct 26 [.sl (vs.map V.tree)] (.sc (.string (bb (40 :: (sepA 0 vs ++ [41]))))) := by
  refine Ct.of (n := 23) Tryz.func26 rfl rfl rfl rfl rfl fun w0 G0 => ?_
  refine AWP.seq ?_
  refine AWP.region ?_
  refine AOps.e (t := .sc (.string (⟨#[]⟩))) rfl rfl rfl (ok_assign rfl rfl) ?_
  refine AOps.nil ?_
  refine AWP.seq ?_
  refine AWP.region ?_
  refine AOps.nilE (k := 0) (e := 9) (sz := 1) (rs' := [some ⟨9, 1, [].map strTree, false⟩]) (.inr rfl) rfl rfl rfl rfl rfl ?_
  refine AOps.nil ?_
  refine AWP.seq ?_
  refine AWP.seq ?_
  refine AWP.region ?_
  refine AOps.e (t := .sc (.int .i64 0)) rfl rfl rfl (ok_assign rfl rfl) ?_
  refine AOps.nil ?_
  refine AWP.block ?_
  refine AWP.loopL (fun n_ S_ => ∃ (i : Nat) (out : List ByteArray), (i ≤ vs.length ∧ out = (vs.take i).map fun v => bb v.fmt) ∧ n_ = vs.length - i ∧ S_ = ⟨23, [(0, .sl (vs.map V.tree)), (3, .own 0), (4, .sc (.int .i64 ((i : Nat) : Int)))], [], [some ⟨9, 1, out.map strTree, false⟩]⟩) 0 1 ⟨0, [], ⟨by omega, rfl⟩, rfl, rfl⟩ ⟨rfl, rfl, rfl, .cons rfl rfl (.cons rfl rfl (.cons rfl rfl .nil)), rfl⟩ ?_
  rintro n_ S_ ⟨i, out, ⟨hi, hinv⟩, rfl, rfl⟩
  refine AWP.seq ?_
  refine AWP.seq ?_
  refine AWP.region ?_
  refine AOps.e (t := .sc (.int .i64 ((i : Nat) : Int))) rfl rfl rfl (ok_move rfl rfl) ?_
  refine AOps.e (t := .sl (vs.map V.tree)) rfl rfl rfl (ok_move rfl rfl) ?_
  refine AOps.e (t := .sc (.int .i64 ((vs.length : Nat) : Int))) rfl rfl rfl (OpOK.cast (ok_len rfl lay_elm_29 rfl) (by simp only [List.length_map])) ?_
  refine AOps.e (t := .sc (.bool (decide (i < vs.length)))) rfl rfl rfl (OpOK.cast (ok_bin rfl rfl rfl (fun _ => rfl)) (boolT (ltN (i) (vs.length)))) ?_
  refine AOps.nil ?_
  refine AWP.cond (b := decide (i < vs.length)) rfl (fun hc1 => ?_) (fun hc1 => ?_)
  ·
    replace hc1 := of_decide_eq_true hc1
    obtain ⟨v, hvi⟩ : ∃ v, vs[i]? = some v := ⟨_, List.getElem?_eq_getElem hc1⟩
    obtain ⟨hvr, hvl, hvs⟩ := hv v (List.mem_of_getElem? hvi)
    refine AWP.skip ?_
    refine AWP.seq ?_
    refine AWP.block ?_
    refine AWP.region ?_
    refine AOps.e (t := .own 0) rfl rfl rfl (ok_move rfl rfl) ?_
    refine AOps.e (t := .sl (vs.map V.tree)) rfl rfl rfl (ok_move rfl rfl) ?_
    refine AOps.e (t := .sc (.int .i64 ((i : Nat) : Int))) rfl rfl rfl (ok_move rfl rfl) ?_
    refine AOps.e (t := .ref [.sc (.int .i64 v.t), .sc (.int .i64 v.n), .sc (.string v.s)]) rfl rfl rfl (ok_index (V.tree v) rfl lay_elm_29 rfl rfl rfl (map_get (f := V.tree) hvi) (V.sized _) rfl) ?_
    refine AOps.e (t := .agg [.sc (.int .i64 v.t), .sc (.int .i64 v.n), .sc (.string v.s)]) rfl rfl rfl (ok_load_ref rfl rfl lay_agg_34 rfl rfl) ?_
    refine AOps.e (t := .sc (.string (bb v.fmt))) rfl rfl rfl (ok_call rfl (rvfmt_ct v hvr hvs) rfl rfl) ?_
    refine AOps.e (t := .sl [.sc (.string (bb v.fmt))]) rfl rfl rfl (ok_buildSlice rfl lay_elm_40 lay_zer_9 rfl (by decide) (by decide) rfl rfl rfl rfl rfl) ?_
    refine AOps.appendE (bs' := []) (rs' := [some ⟨9, 1, (out ++ [bb v.fmt]).map strTree, false⟩]) rfl rfl rfl rfl lay_app_40 rfl rfl rfl rfl (by intro e he; simp only [List.mem_cons, List.mem_nil_iff, or_false] at he; subst he; rfl) (AllC.lit rfl) (AllC.lit rfl) (by simp only [List.length_map, List.length_cons, List.length_nil]; rw [hinv, List.length_map, List.length_take]; omega) rfl rfl rfl (by rw [List.map_append]; rfl) ?_
    refine AOps.e (t := .own 0) rfl rfl rfl (ok_assign rfl rfl) ?_
    refine AOps.nil ?_
    refine AWP.region ?_
    refine AOps.e (t := .sc (.int .i64 ((i : Nat) : Int))) rfl rfl rfl (ok_move rfl rfl) ?_
    refine AOps.e (t := .sc (.int .i64 ((i + 1 : Nat) : Int))) rfl rfl rfl (OpOK.cast (ok_bin rfl rfl rfl (fun _ => rfl)) (wrapN (by omega) (by omega))) ?_
    refine AOps.e (t := .sc (.int .i64 ((i + 1 : Nat) : Int))) rfl rfl rfl (ok_assign rfl rfl) ?_
    refine AOps.nil ?_
    refine ⟨_, _, ?_, ⟨i + 1, (out ++ [bb v.fmt]), ?_, rfl, rfl⟩, ⟨rfl, rfl, rfl, .cons rfl rfl (.cons rfl rfl (.cons rfl rfl .nil)), rfl⟩⟩
    · omega
    · refine ⟨by omega, ?_⟩
      rw [hinv, List.take_add_one, hvi]; simp
  ·
    replace hc1 := of_decide_eq_false hc1
    have ho : out = vs.map fun v => bb v.fmt := by rw [hinv, List.take_of_length_le (by omega)]
    have hjn : jn [44, 32] 0 out = sepA 0 vs := by rw [ho, jn_sepA]
    have hsl := sepA_le vs 0 fun v h => (hv v h).2.1
    refine AWP.rel 0 (bs' := []) (rs' := [none]) rfl rfl rfl rfl ?_
    refine AWP.exit ?_
    refine AWP.seq ?_
    refine AWP.region ?_
    refine AOps.e (t := .sl (out.map strTree)) rfl rfl rfl (ok_move rfl rfl) ?_
    refine AOps.e (t := .sc (.string (bb (sepA 0 vs)))) rfl rfl rfl (ok_call rfl (by have h := join_ct [44, 32] out (by rw [ho, List.length_map]; omega) (by rw [hjn]; omega); rw [hjn] at h; exact h) rfl rfl) ?_
    refine AOps.e (t := .sc (.string (bb (40 :: sepA 0 vs)))) rfl rfl rfl (OpOK.cast (ok_bin rfl rfl rfl (fun _ => cat_run (by rw [bb_size]; show 1 + _ ≤ _; omega))) (strTr (bb_app [40] (sepA 0 vs)))) ?_
    refine AOps.e (t := .sc (.string (bb (40 :: (sepA 0 vs ++ [41]))))) rfl rfl rfl (OpOK.cast (ok_bin rfl rfl rfl (fun _ => cat_run (by rw [bb_size, List.length_cons]; show _ + 1 ≤ _; omega))) (strTr (by rw [← List.cons_append]; exact bb_app (40 :: sepA 0 vs) [41]))) ?_
    refine AOps.e (t := .sc (.string (bb (40 :: (sepA 0 vs ++ [41]))))) rfl rfl rfl (ok_assign rfl rfl) ?_
    refine AOps.nil ?_
    refine AWP.ret ?_
    exact ⟨.inr rfl, _, .cons rfl .nil, rfl, rfl⟩
set_option maxRecDepth 100000 in
set_option maxHeartbeats 4000000 in
theorem rfmtAns_ct (al : List An) (hl : al.length ≤ 20) (hok : ∀ a ∈ al, AnOK a) : Ct 10 [.sl (al.map An.tree)] (.sc (.string (bb (al.flatMap ansTx)))) := by
  refine Ct.of (n := 29) Tryz.func10 rfl rfl rfl rfl rfl fun w0 G0 => ?_
  refine AWP.seq ?_
  refine AWP.region ?_
  refine AOps.e (t := .sc (.string (⟨#[]⟩))) rfl rfl rfl (ok_assign rfl rfl) ?_
  refine AOps.nil ?_
  refine AWP.seq ?_
  refine AWP.region ?_
  refine AOps.e (t := .sc (.string (bb []))) rfl rfl rfl (ok_assign rfl rfl) ?_
  refine AOps.nil ?_
  refine AWP.seq ?_
  refine AWP.seq ?_
  refine AWP.region ?_
  refine AOps.e (t := .sc (.int .i64 0)) rfl rfl rfl (ok_assign rfl rfl) ?_
  refine AOps.nil ?_
  refine AWP.block ?_
  refine AWP.loopL (fun n_ S_ => ∃ (i : Nat) (acc : List UInt8), (i ≤ al.length ∧ acc.length ≤ i * 4000 ∧ acc ++ (al.drop i).flatMap ansTx = al.flatMap ansTx) ∧ n_ = al.length - i ∧ S_ = ⟨29, [(0, .sl (al.map An.tree)), (3, .sc (.string (bb acc))), (4, .sc (.int .i64 ((i : Nat) : Int)))], [], []⟩) 0 0 ⟨0, [], ⟨by omega, by simp, rfl⟩, rfl, rfl⟩ ⟨rfl, rfl, rfl, .cons rfl rfl (.cons rfl rfl (.cons rfl rfl .nil)), rfl⟩ ?_
  rintro n_ S_ ⟨i, acc, ⟨hi, hacc, hinv⟩, rfl, rfl⟩
  refine AWP.seq ?_
  refine AWP.seq ?_
  refine AWP.region ?_
  refine AOps.e (t := .sc (.int .i64 ((i : Nat) : Int))) rfl rfl rfl (ok_move rfl rfl) ?_
  refine AOps.e (t := .sl (al.map An.tree)) rfl rfl rfl (ok_move rfl rfl) ?_
  refine AOps.e (t := .sc (.int .i64 ((al.length : Nat) : Int))) rfl rfl rfl (OpOK.cast (ok_len rfl lay_elm_23 rfl) (by simp only [List.length_map])) ?_
  refine AOps.e (t := .sc (.bool (decide (i < al.length)))) rfl rfl rfl (OpOK.cast (ok_bin rfl rfl rfl (fun _ => rfl)) (boolT (ltN (i) (al.length)))) ?_
  refine AOps.nil ?_
  refine AWP.cond (b := decide (i < al.length)) rfl (fun hc1 => ?_) (fun hc1 => ?_)
  ·
    replace hc1 := of_decide_eq_true hc1
    obtain ⟨a, hai⟩ : ∃ a, al[i]? = some a := ⟨_, List.getElem?_eq_getElem hc1⟩
    have hao := hok a (List.mem_of_getElem? hai)
    have hal := hao.len
    have hfs := fmtR_le hao
    have hsl := sepA_le a.vals 0 fun v h => (hao.rng v h).2.1
    rw [ans_step hai] at hinv
    refine AWP.skip ?_
    refine AWP.seq ?_
    refine AWP.block ?_
    refine AWP.drawE (fu := 18) [some 11, some 12, some 13, some 14, some 15, some 16, some 17, some 18, some 19, some 20, some 21, some 22, some 23, some 24, some 25, some 26, some 27, some 3] [.sc (.string (bb acc)), .sl (al.map An.tree), .sc (.int .i64 ((i : Nat) : Int)), .ref [.sl (a.vals.map V.tree), .sc (.bool (decide (a.q.num < 0))), natT a.q.num.natAbs, natT a.q.den], .ref [.sl (a.vals.map V.tree), .sc (.bool (decide (a.q.num < 0))), natT a.q.num.natAbs, natT a.q.den], .sl (a.vals.map V.tree), .sc (.string (bb (40 :: (sepA 0 a.vals ++ [41])))), .sc (.string (bb (acc ++ (40 :: (sepA 0 a.vals ++ [41]))))), .sc (.string (bb ((acc ++ (40 :: (sepA 0 a.vals ++ [41]))) ++ [58, 32]))), .sl (al.map An.tree), .sc (.int .i64 ((i : Nat) : Int)), .ref [.sl (a.vals.map V.tree), .sc (.bool (decide (a.q.num < 0))), natT a.q.num.natAbs, natT a.q.den], .ref [.sc (.bool (decide (a.q.num < 0))), natT a.q.num.natAbs, natT a.q.den], .agg [.sc (.bool (decide (a.q.num < 0))), natT a.q.num.natAbs, natT a.q.den], .sc (.string (fmtR a.q)), .sc (.string (bb (((acc ++ (40 :: (sepA 0 a.vals ++ [41]))) ++ [58, 32]) ++ (fmtR a.q).data.toList))), .sc (.string (bb ((((acc ++ (40 :: (sepA 0 a.vals ++ [41]))) ++ [58, 32]) ++ (fmtR a.q).data.toList) ++ [10]))), .sc (.string (bb ((((acc ++ (40 :: (sepA 0 a.vals ++ [41]))) ++ [58, 32]) ++ (fmtR a.q).data.toList) ++ [10])))] (by kernel_rfl) rfl rfl (by kernel_rfl) rfl ?_ ?_
    ·
      refine Chain.op (t := .sc (.string (bb acc))) rfl (ok_move rfl rfl) ?_
      refine Chain.op (t := .sl (al.map An.tree)) rfl (ok_move rfl rfl) ?_
      refine Chain.op (t := .sc (.int .i64 ((i : Nat) : Int))) rfl (ok_move rfl rfl) ?_
      refine Chain.op (t := .ref [.sl (a.vals.map V.tree), .sc (.bool (decide (a.q.num < 0))), natT a.q.num.natAbs, natT a.q.den]) rfl (ok_index (An.tree a) rfl lay_elm_23 rfl rfl rfl (map_get (f := An.tree) hai) (An.sized _) rfl) ?_
      refine Chain.op (t := .ref [.sl (a.vals.map V.tree), .sc (.bool (decide (a.q.num < 0))), natT a.q.num.natAbs, natT a.q.den]) rfl (ok_field_ref rfl rfl lay_fld_31_0 rfl) ?_
      refine Chain.op (t := .sl (a.vals.map V.tree)) rfl (ok_load_ref1 rfl rfl lay_one_29 rfl) ?_
      refine Chain.op (t := .sc (.string (bb (40 :: (sepA 0 a.vals ++ [41]))))) rfl (ok_call rfl (vtext_ct a.vals (by omega) hao.rng) rfl rfl) ?_
      refine Chain.op (t := .sc (.string (bb (acc ++ (40 :: (sepA 0 a.vals ++ [41])))))) rfl (OpOK.cast (ok_bin rfl rfl rfl (fun _ => cat_run (by rw [bb_size]; (try rw [bb_size]); simp only [List.length_append, List.length_cons, List.length_nil, bsz]; omega))) (strTr (bb_app acc (40 :: (sepA 0 a.vals ++ [41]))))) ?_
      refine Chain.op (t := .sc (.string (bb ((acc ++ (40 :: (sepA 0 a.vals ++ [41]))) ++ [58, 32])))) rfl (OpOK.cast (ok_bin rfl rfl rfl (fun _ => cat_run (by rw [bb_size]; (try rw [bb_size]); simp only [List.length_append, List.length_cons, List.length_nil, bsz]; show _ + 2 ≤ _; omega))) (strTr (bb_app (acc ++ (40 :: (sepA 0 a.vals ++ [41]))) [58, 32]))) ?_
      refine Chain.op (t := .sl (al.map An.tree)) rfl (ok_move rfl rfl) ?_
      refine Chain.op (t := .sc (.int .i64 ((i : Nat) : Int))) rfl (ok_move rfl rfl) ?_
      refine Chain.op (t := .ref [.sl (a.vals.map V.tree), .sc (.bool (decide (a.q.num < 0))), natT a.q.num.natAbs, natT a.q.den]) rfl (ok_index (An.tree a) rfl lay_elm_23 rfl rfl rfl (map_get (f := An.tree) hai) (An.sized _) rfl) ?_
      refine Chain.op (t := .ref [.sc (.bool (decide (a.q.num < 0))), natT a.q.num.natAbs, natT a.q.den]) rfl (ok_field_ref rfl rfl lay_fld_31_1 rfl) ?_
      refine Chain.op (t := .agg [.sc (.bool (decide (a.q.num < 0))), natT a.q.num.natAbs, natT a.q.den]) rfl (ok_load_ref rfl rfl lay_agg_27 rfl rfl) ?_
      refine Chain.op (t := .sc (.string (fmtR a.q))) rfl (ok_call rfl (rformat_ct a.q hao.fit (by have := hao.num; omega) (by have := hao.den; omega)) rfl rfl) ?_
      refine Chain.op (t := .sc (.string (bb (((acc ++ (40 :: (sepA 0 a.vals ++ [41]))) ++ [58, 32]) ++ (fmtR a.q).data.toList)))) rfl (OpOK.cast (ok_bin rfl rfl rfl (fun _ => cat_run (by rw [bb_size]; (try rw [bb_size]); simp only [List.length_append, List.length_cons, List.length_nil, bsz]; omega))) (strTr (bb_appF ((acc ++ (40 :: (sepA 0 a.vals ++ [41]))) ++ [58, 32]) (fmtR a.q)))) ?_
      refine Chain.op (t := .sc (.string (bb ((((acc ++ (40 :: (sepA 0 a.vals ++ [41]))) ++ [58, 32]) ++ (fmtR a.q).data.toList) ++ [10])))) rfl (OpOK.cast (ok_bin rfl rfl rfl (fun _ => cat_run (by rw [bb_size]; (try rw [bb_size]); simp only [List.length_append, List.length_cons, List.length_nil, bsz]; show _ + 1 ≤ _; omega))) (strTr (bb_app (((acc ++ (40 :: (sepA 0 a.vals ++ [41]))) ++ [58, 32]) ++ (fmtR a.q).data.toList) [10]))) ?_
      refine Chain.op (t := .sc (.string (bb ((((acc ++ (40 :: (sepA 0 a.vals ++ [41]))) ++ [58, 32]) ++ (fmtR a.q).data.toList) ++ [10])))) rfl (ok_assign rfl rfl) ?_
      exact Chain.nil
    refine AWP.region ?_
    refine AOps.e (t := .sc (.int .i64 ((i : Nat) : Int))) rfl rfl rfl (ok_move rfl rfl) ?_
    refine AOps.e (t := .sc (.int .i64 ((i + 1 : Nat) : Int))) rfl rfl rfl (OpOK.cast (ok_bin rfl rfl rfl (fun _ => rfl)) (wrapN (by omega) (by omega))) ?_
    refine AOps.e (t := .sc (.int .i64 ((i + 1 : Nat) : Int))) rfl rfl rfl (ok_assign rfl rfl) ?_
    refine AOps.nil ?_
    refine ⟨_, _, ?_, ⟨i + 1, ((((acc ++ (40 :: (sepA 0 a.vals ++ [41]))) ++ [58, 32]) ++ (fmtR a.q).data.toList) ++ [10]), ?_, rfl, rfl⟩, ⟨rfl, rfl, rfl, .cons rfl rfl (.cons rfl rfl (.cons rfl rfl .nil)), rfl⟩⟩
    · omega
    · refine ⟨by omega, ?_, ?_⟩
      · simp only [List.length_append, List.length_cons, List.length_nil, bsz]; omega
      · rw [← hinv]; unfold ansTx; simp
  ·
    replace hc1 := of_decide_eq_false hc1
    refine AWP.exit ?_
    refine AWP.seq ?_
    refine AWP.region ?_
    refine AOps.e (t := .sc (.string (bb acc))) rfl rfl rfl (ok_move rfl rfl) ?_
    refine AOps.e (t := .sc (.string (bb acc))) rfl rfl rfl (ok_assign rfl rfl) ?_
    refine AOps.nil ?_
    refine AWP.ret ?_
    exact ⟨.inr rfl, _, .cons rfl .nil, strTr (by rw [← hinv, List.drop_of_length_le (by omega), List.flatMap_nil, List.append_nil]), rfl⟩
end Go.Proofs.YtpinhcdcnaaihaaGreatDoor
namespace Go.Proofs.YtpinhcdcnaaihaaGreatDoor
inductive Tri (α : Type) where
  | lf
  | one (a : α)
  | nd (l r : Tri α)
section
variable {α β γ : Type}
noncomputable def Tri.get (d : Nat) : Tri α → Nat → Option α := Nat.rec (fun t _ => Tri.rec none some (fun _ _ _ _ => none) t) (fun _ ih t n => Tri.rec none (fun _ => none) (fun l r _ _ => Nat.rec (ih l (n / 2)) (fun _ _ => ih r (n / 2)) (n % 2)) t) d
noncomputable def Tri.set (d : Nat) : Tri α → Nat → Option α → Tri α := Nat.rec (fun _ _ a => Option.rec .lf .one a) (fun _ ih t n a => Tri.rec (Nat.rec (.nd (ih .lf (n / 2) a) .lf) (fun _ _ => .nd .lf (ih .lf (n / 2) a)) (n % 2)) (fun _ => Nat.rec (.nd (ih .lf (n / 2) a) .lf) (fun _ _ => .nd .lf (ih .lf (n / 2) a)) (n % 2)) (fun l r _ _ => Nat.rec (.nd (ih l (n / 2) a) r) (fun _ _ => .nd l (ih r (n / 2) a)) (n % 2)) t) d
theorem Tri.get_zero (t : Tri α) (n : Nat) : Tri.get 0 t n = match t with | .one a => some a | _ => none := by cases t <;> rfl
theorem Tri.get_succ (d : Nat) (t : Tri α) (n : Nat) : Tri.get (d + 1) t n = match t with | .nd l r => if n % 2 = 0 then Tri.get d l (n / 2) else Tri.get d r (n / 2) | _ => none := by
  cases t with
  | nd l r =>
    show Nat.rec (motive := fun _ => Option α) (Tri.get d l (n / 2)) (fun _ _ => Tri.get d r (n / 2)) (n % 2) = _
    cases h : n % 2 with
    | zero => rfl
    | succ k => rfl
  | _ => rfl
theorem Tri.set_zero (t : Tri α) (n : Nat) (a : Option α) : Tri.set 0 t n a = match a with | some a => .one a | none => .lf := by cases a <;> rfl
theorem Tri.set_succ (d : Nat) (t : Tri α) (n : Nat) (a : Option α) : Tri.set (d + 1) t n a = match t with
    | .nd l r => if n % 2 = 0 then .nd (Tri.set d l (n / 2) a) r else .nd l (Tri.set d r (n / 2) a)
    | _ => if n % 2 = 0 then .nd (Tri.set d .lf (n / 2) a) .lf else .nd .lf (Tri.set d .lf (n / 2) a) := by
  cases t with
  | nd l r =>
    show Nat.rec (motive := fun _ => Tri α) (.nd (Tri.set d l (n / 2) a) r) (fun _ _ => .nd l (Tri.set d r (n / 2) a)) (n % 2) = _
    cases h : n % 2 with
    | zero => rfl
    | succ k => rfl
  | lf =>
    show Nat.rec (motive := fun _ => Tri α) (.nd (Tri.set d .lf (n / 2) a) .lf) (fun _ _ => .nd .lf (Tri.set d .lf (n / 2) a)) (n % 2) = _
    cases h : n % 2 with
    | zero => rfl
    | succ k => rfl
  | one b =>
    show Nat.rec (motive := fun _ => Tri α) (.nd (Tri.set d .lf (n / 2) a) .lf) (fun _ _ => .nd .lf (Tri.set d .lf (n / 2) a)) (n % 2) = _
    cases h : n % 2 with
    | zero => rfl
    | succ k => rfl
theorem Tri.get_lf (d n : Nat) : Tri.get d (.lf : Tri α) n = none := by cases d <;> rfl
theorem Tri.get_set (a : Option α) : ∀ (d : Nat) (t : Tri α) (n m : Nat), n < 2 ^ d → m < 2 ^ d → Tri.get d (Tri.set d t n a) m = if m = n then a else Tri.get d t m
  | 0, t, n, m, hn, hm => by
    have h1 : m = n := by simp at hn hm; omega
    rw [if_pos h1, Tri.set_zero, Tri.get_zero]
    cases a <;> rfl
  | d + 1, t, n, m, hn, hm => by
    have hp : 2 ^ (d + 1) = 2 * 2 ^ d := by rw [Nat.pow_succ, Nat.mul_comm]
    have ih := fun (s : Tri α) => Tri.get_set a d s (n / 2) (m / 2) (by omega) (by omega)
    have he : m % 2 = n % 2 → (m / 2 = n / 2 ↔ m = n) := fun h => by omega
    rw [Tri.set_succ, Tri.get_succ (t := t)]
    cases t with
    | nd l r =>
      simp only
      split
      · next h0 =>
        rw [Tri.get_succ]
        simp only
        split
        · next h1 => rw [ih]; simp only [he (by omega)]
        · next h1 => rw [if_neg (by omega)]
      · next h0 =>
        rw [Tri.get_succ]
        simp only
        split
        · next h1 => rw [if_neg (by omega)]
        · next h1 => rw [ih]; simp only [he (by omega)]
    | lf =>
      simp only
      split
      · rw [Tri.get_succ]
        simp only
        split
        · rw [ih, Tri.get_lf]; simp only [he (by omega)]
        · rw [Tri.get_lf, if_neg (by omega)]
      · rw [Tri.get_succ]
        simp only
        split
        · rw [Tri.get_lf, if_neg (by omega)]
        · rw [ih, Tri.get_lf]; simp only [he (by omega)]
    | one b =>
      simp only
      split
      · rw [Tri.get_succ]
        simp only
        split
        · rw [ih, Tri.get_lf]; simp only [he (by omega)]
        · rw [Tri.get_lf, if_neg (by omega)]
      · rw [Tri.get_succ]
        simp only
        split
        · rw [Tri.get_lf, if_neg (by omega)]
        · rw [ih, Tri.get_lf]; simp only [he (by omega)]
noncomputable def forceN (n : Nat) (k : Nat → α) : α := Nat.rec (k 0) (fun p _ => k (p + 1)) n
theorem forceN_eq (n : Nat) (k : Nat → α) : forceN n k = k n := by cases n <;> rfl
noncomputable def bnd (o : Option β) (k : β → Option γ) : Option γ := Option.rec none k o
theorem bnd_of {o : Option β} {k : β → Option γ} {r : γ} (h : bnd o k = some r) : ∃ a, o = some a ∧ k a = some r := by
  cases o with
  | none => cases h
  | some a => exact ⟨a, rfl, h⟩
theorem cond_of {b : Bool} {x : Option γ} {r : γ} (h : cond b x none = some r) : b = true ∧ x = some r := by
  cases b with
  | true => exact ⟨rfl, h⟩
  | false => cases h
noncomputable def mapR (f : β → γ) (l : List β) : List γ := List.rec [] (fun a _ ih => f a :: ih) l
theorem mapR_eq (f : β → γ) : ∀ l, mapR f l = l.map f
  | [] => rfl
  | a :: l => congrArg (f a :: ·) (mapR_eq f l)
noncomputable def nthR (l : List β) : Nat → Option β := List.rec (fun _ => none) (fun a _ ih n => Nat.rec (some a) (fun m _ => ih m) n) l
theorem nthR_eq : ∀ (l : List β) (n : Nat), nthR l n = l[n]?
  | [], _ => rfl
  | _ :: _, 0 => rfl
  | _ :: l, n + 1 => by rw [List.getElem?_cons_succ]; exact nthR_eq l n
noncomputable def forceL (l : List β) : (List β → γ) → γ := List.rec (fun k => k []) (fun a _ ih k => ih fun l => k (a :: l)) l
theorem forceL_eq : ∀ (l : List β) (k : List β → γ), forceL l k = k l
  | [], _ => rfl
  | a :: l, k => forceL_eq l fun l => k (a :: l)
noncomputable def lenA (l : List β) : Nat → Nat := List.rec (fun n => n) (fun _ _ ih n => ih (n + 1)) l
theorem lenA_eq : ∀ (l : List β) (n : Nat), lenA l n = l.length + n
  | [], n => (Nat.zero_add n).symm
  | _ :: l, n => by
    show lenA l (n + 1) = _
    rw [lenA_eq l, List.length_cons]; omega
noncomputable def lenR (l : List β) : Nat := lenA l 0
@[simp] theorem lenR_eq (l : List β) : lenR l = l.length := lenA_eq l 0
noncomputable def dropR (n : Nat) : List β → List β := Nat.rec (fun l => l) (fun _ ih l => List.rec [] (fun _ l _ => ih l) l) n
@[simp] theorem dropR_eq : ∀ (n : Nat) (l : List β), dropR n l = l.drop n
  | 0, _ => rfl
  | n + 1, [] => rfl
  | n + 1, _ :: l => dropR_eq n l
noncomputable def takeR (n : Nat) : List β → List β := Nat.rec (fun _ => []) (fun _ ih l => List.rec [] (fun a l _ => a :: ih l) l) n
@[simp] theorem takeR_eq : ∀ (n : Nat) (l : List β), takeR n l = l.take n
  | 0, _ => rfl
  | n + 1, [] => rfl
  | n + 1, a :: l => congrArg (a :: ·) (takeR_eq n l)
noncomputable def appR (l m : List β) : List β := List.rec m (fun a _ ih => a :: ih) l
@[simp] theorem appR_eq : ∀ (l m : List β), appR l m = l ++ m
  | [], _ => rfl
  | a :: l, m => congrArg (a :: ·) (appR_eq l m)
noncomputable def allR (f : β → Bool) (l : List β) : Bool := List.rec true (fun a _ ih => cond (f a) ih false) l
@[simp] theorem allR_eq (f : β → Bool) : ∀ l, allR f l = l.all f
  | [] => rfl
  | a :: l => by
    show cond (f a) (allR f l) false = _
    rw [allR_eq f l, List.all_cons]
    cases f a <;> rfl
end
structure ARow where
  cs : List Value
  fam : Nat
  fro : Bool
  ty : Nat := 0
structure AH where
  t : Tri ARow
  nx : Nat
  fm : Tri (List Nat)
  nm : Nat
  mp : Tri (List (Value × Value))
abbrev evD : Nat := 14
noncomputable def AH.get (A : AH) (n : Nat) : Option ARow := cond (Nat.blt n 16384) (A.t.get evD n) none
noncomputable def AH.fget (A : AH) (n : Nat) : Option (List Nat) := cond (Nat.blt n 16384) (A.fm.get evD n) none
noncomputable def AH.mget (A : AH) (n : Nat) : Option (List (Value × Value)) := cond (Nat.blt n 16384) (A.mp.get evD n) none
end Go.Proofs.YtpinhcdcnaaihaaGreatDoor
