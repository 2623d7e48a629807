import Derived.Test.YtpinhcdcnaaihaaGreatDoorA32
import Derived.Lib.AppendZerosOnto
namespace Go.Proofs.YtpinhcdcnaaihaaGreatDoor
section
variable {P : Program} {base : Nat} {sl : Slo} {A : AH} {o : Oper}
theorem wrap_nat {m : Nat} (h : m ≤ 1099511627776) : IntKind.i64.wrap (m : Int) = m := by rw [IntKind.wrap_i64]; omega
noncomputable def evMS (P : Program) (sl : Slo) (A : AH) (t : TypeId) (l c : Operand) : Rs :=
  match evO P sl l, evO P sl c with
  | .int _ (.ofNat n), .int _ (.ofNat m) => match P.underlying t with
    | some (.slice e) => bnd (P.info? e) fun i => bnd i.zero fun zv => cond (zv.cells.toList.all scV && Nat.beq zv.cells.toList.length i.size && Nat.ble n m && Nat.ble m 1099511627776 && Nat.ble (i.bytes * m) 140737488355328) (evNew A (repL zv.cells.toList n) fun k A => some (.slice (some ⟨k, 0, none⟩) n e, A)) none
    | _ => none
  | _, _ => none
theorem newer_ms {t : TypeId} {l c : Operand} (ho : o.op = .makeSlice t l c) : Newer P sl A o (evMS P sl A t l c) := by
  intro v A' he
  unfold evMS at he
  split at he
  · next k n k' m hl hc =>
    split at he
    · next e hu =>
      obtain ⟨i, hi, he⟩ := bnd_of he
      obtain ⟨zv, hz, he⟩ := bnd_of he
      obtain ⟨h1, he⟩ := cond_of he
      simp only [Bool.and_eq_true, Nat.ble_eq] at h1
      obtain ⟨⟨⟨⟨h1, h2⟩, h3⟩, h4⟩, h5⟩ := h1
      have h2 := Nat.eq_of_beq_eq_true h2
      obtain ⟨hx, he⟩ := evNew_of he
      cases he
      refine ⟨_, hx, rfl, fun E w T hS => ?_⟩
      have g1 := hS.at l
      rw [hl] at g1
      have g1 := g1.int
      have g2 := hS.at c
      rw [hc] at g2
      have g2 := g2.int
      have hsz : (sizeOf e).run P w = .ok i.size w := by simp [sizeOf, typeInfo, hi]
      have hzr : (zeroValue e).run P w = .ok zv w := by simp [zeroValue, typeInfo, hi, hz]
      have hti : (typeInfo e).run P w = .ok i w := by simp [typeInfo, hi]
      have hb : ((i.bytes : Int) * (m : Int)) ≤ 140737488355328 := by
        rw [← Int.natCast_mul]
        omega
      have e1 : ¬ ((m : Int) < 0 ∨ 281474976710656 < (i.bytes : Int) * (m : Int)) := by omega
      have e2 : ¬ ((n : Int) < 0) := by omega
      have e3 : ¬ ((m : Int) < (n : Int)) := by omega
      have hwm := wrap_nat h4
      have hwn := wrap_nat (Nat.le_trans h3 h4)
      have hrun : (Instr.makeSlice t (.int k n) (.int k' m)).run P w = .ok (.slice (some ⟨w.heap.size, 0, none⟩) n m) (w.alloc (.cells ((Array.range (m * i.size)).map (zv.cells[· % zv.cells.size]!)) e)) := by
        by_cases h0 : m * i.size = 0
        · simp [Instr.makeSlice, run_underlying hu, asInt, asIntOf, hti, hwm, hwn, e1, e2, e3, hsz, h0, newRow]
          have e0 : ∀ f : Nat → Value, Array.map f (Array.range 0) = #[] := fun f => Array.eq_empty_of_size_eq_zero (by simp)
          rw [e0, e0]
        · simp [Instr.makeSlice, run_underlying hu, asInt, asIntOf, hti, hwm, hwn, e1, e2, e3, hsz, h0, hzr, newRow]
      have hrr := repL_range zv m i.size h2
      have hasz : ((Array.range (m * i.size)).map (zv.cells[· % zv.cells.size]!)).size = m * i.size := by simp
      have hmul : n * i.size ≤ m * i.size := Nat.mul_le_mul_right _ h3
      refine ⟨(Array.range (m * i.size)).map (zv.cells[· % zv.cells.size]!), e, .slice (some ⟨w.heap.size, 0, none⟩) n m, by simp [execOp, ho, g1, g2, hrun], by rw [repL_length, h2, hasz]; exact hmul, (by
        rw [hrr]
        refine VL.of_get (by rw [List.length_take, repL_length, repL_length, h2]; omega) fun j u t hu ht => ?_
        rw [List.getElem?_take] at hu
        split at hu
        · next hj =>
          rw [repL_length, h2] at hj
          rw [repL_get _ m j (by rw [h2]; omega)] at hu
          rw [repL_get _ n j (by rw [h2]; exact hj), hu] at ht
          cases ht
          exact .sc _ (List.all_eq_true.1 h1 _ (List.mem_of_getElem? hu)) .nil
        · cases hu), fun E' _ f2 f3 _ => .slc _ 0 e n m w.heap.size 0 0 f2 h3 (by omega) (fun _ => ⟨rfl, _, i, f3, hi, by rw [hasz]; omega⟩) .nil⟩
    · cases he
  · cases he
theorem good_ms {t : TypeId} {l c : Operand} (ho : o.op = .makeSlice t l c) : Good P base sl A o (evMS P sl A t l c) := (newer_ms ho).good
noncomputable def evLenB (P : Program) (sl : Slo) (A : AH) (ts : List TypeId) (xs : List Operand) : Rs :=
  match ts, xs with
  | [t], [x] => match P.underlying t, evO P sl x with
    | some (.slice _), .slice _ n _ => forceN n fun n => some (.int .i64 (.ofNat n), A)
    | some .string, .string s => forceN (lenR s.data.toList) fun n => some (.int .i64 (.ofNat n), A)
    | some (.array n _), _ => some (.int .i64 (.ofNat n), A)
    | _, _ => none
  | _, _ => none
theorem good_len {xs : Array Operand} {ts : Array TypeId} (ho : o.op = .call { callee := .builtin .len, args := xs, argTypes := ts }) : Good P base sl A o (evLenB P sl A ts.toList xs.toList) := by
  intro v A' he E w T hR hS
  obtain ⟨xs⟩ := xs
  obtain ⟨ts⟩ := ts
  simp only at he
  unfold evLenB at he
  simp only [lenR_eq] at he
  split at he
  · next t x =>
    have h1 := hS.at x
    split at he
    · next e a n ee hu hx =>
      rw [forceN_eq] at he
      cases he
      rw [hx] at h1
      obtain ⟨a', c', hp⟩ := len_slice h1
      refine .of_ok (v := goInt n) (W' := w) ?_ (.here hR (.sc _ rfl .nil))
      simp [execOp, ho, resolve, invoke, builtin, Builtin.len_, run_underlying hu, hp]
    · next s hu hx =>
      rw [forceN_eq] at he
      cases he
      rw [hx] at h1
      have hp := h1.string
      refine .of_ok (v := goInt s.size) (W' := w) ?_ (.here hR (.sc _ rfl .nil))
      simp [execOp, ho, resolve, invoke, builtin, Builtin.len_, run_underlying hu, hp]
    · next n e hu =>
      cases he
      refine .of_ok (v := goInt n) (W' := w) ?_ (.here hR (.sc _ rfl .nil))
      simp [execOp, ho, resolve, invoke, builtin, Builtin.len_, run_underlying hu]
    · cases he
  · cases he
noncomputable def evAppZ (P : Program) (A : AH) (ts : List TypeId) (s : Value) (m : Nat) : Rs :=
  match ts, s with
  | [t, u], .slice none _ _ => match P.underlying t, P.underlying u with
    | some (.slice e), some (.int _) => bnd (P.info? e) fun i => bnd i.zero fun zv => cond (allR scV zv.cells.toList && Nat.beq (lenR zv.cells.toList) i.size && Nat.blt 0 i.size && Nat.blt 0 m && Nat.ble m 1099511627776 && Nat.ble (m * i.bytes) 140737488355328) (evNew A (repL zv.cells.toList m) fun k A => some (.slice (some ⟨k, 0, none⟩) m e, A)) none
    | _, _ => none
  | _, _ => none
noncomputable def evAppB (P : Program) (sl : Slo) (A : AH) (ts : List TypeId) (xs : List Operand) : Rs :=
  match xs with
  | [s, x] => match evO P sl x with
    | .int _ (.ofNat m) => evAppZ P A ts (evO P sl s) m
    | _ => evApp P A ts (evO P sl s) (evO P sl x)
  | _ => none
theorem good_app {xs : Array Operand} {ts : Array TypeId} (ho : o.op = .call { callee := .builtin .append, args := xs, argTypes := ts }) : Good P base sl A o (evAppB P sl A ts.toList xs.toList) := by
  intro v A' he E w T hR hS
  obtain ⟨xs⟩ := xs
  obtain ⟨ts⟩ := ts
  simp only at he
  unfold evAppB at he
  split at he
  · next s x =>
    split at he
    · next k m hx =>
      have h1 := hS.at x
      rw [hx] at h1
      have h1 := h1.int
      have h2 := hS.at s
      unfold evAppZ at he
      simp only [allR_eq, lenR_eq] at he
      split at he
      · next t u c1 c2 hs =>
        rw [hs] at h2
        obtain ⟨hp, rfl, rfl⟩ := h2.nilSlice
        split at he
        · next e kn ht hu =>
          obtain ⟨i, hi, he⟩ := bnd_of he
          obtain ⟨zv, hz, he⟩ := bnd_of he
          obtain ⟨hc, he⟩ := cond_of he
          simp only [Bool.and_eq_true, Nat.ble_eq] at hc
          obtain ⟨⟨⟨⟨⟨hc1, hc2⟩, hc3⟩, hc4⟩, hc5⟩, hc6⟩ := hc
          have hc2 := Nat.eq_of_beq_eq_true hc2
          have hc3 := blt_of hc3
          have hc4 := blt_of hc4
          obtain ⟨hx', he⟩ := evNew_of he
          cases he
          have hrun := Lib.run_append_grow_zeros (P := P) w t u o.type e i zv k kn ht hu hi hz none 0 0 [] (by simp [Builtin.firstCells]) m hc4 hc3 (by omega) (by omega) (by omega) (growslice_fits (by omega) (by simpa using hc6))
          simp only [Nat.zero_add] at hrun
          have hge := grownCap_ge w m 0 e
          have hcap := grownCap_le_maxLen w m 0 e (by unfold maxLen; omega)
          unfold maxLen at hcap
          have hzs : zv.cells.size = i.size := by simpa using hc2
          have hzc : ∀ n, (Builtin.zeroCells zv.cells n).toList = repL zv.cells.toList n := fun n => by
            have := repL_range zv n i.size hc2
            unfold Builtin.zeroCells
            rw [hzs] at this ⊢
            exact this
          have hrl : (repL zv.cells.toList m).length = m * i.size := by rw [repL_length, hc2]
          have hasz : (([] : List Value).toArray ++ Builtin.zeroCells zv.cells m ++ Builtin.zeroCells zv.cells (grownCap w m 0 e - m)).size = grownCap w m 0 e * i.size := by
            have e1 := size_zeroCells zv.cells m
            have e2 := size_zeroCells zv.cells (grownCap w m 0 e - m)
            simp only [Array.size_append, List.size_toArray, List.length_nil, e1, e2, hzs]
            rw [Nat.zero_add, ← Nat.add_mul]
            congr 1
            omega
          have hmul : m * i.size ≤ grownCap w m 0 e * i.size := Nat.mul_le_mul_right _ hge
          obtain ⟨E', f1, f2, f3, f4⟩ := hR.fresh (w' := w.drew.alloc (.cells (([] : List Value).toArray ++ Builtin.zeroCells zv.cells m ++ Builtin.zeroCells zv.cells (grownCap w m 0 e - m)) e)) (cs := repL zv.cells.toList m) (f := A.nx) (l := []) (fz := (0, 0)) hx' rfl rfl rfl rfl (.inl rfl) (by rw [hasz, hrl]; exact hmul) (by
            rw [Array.toList_append, Array.toList_append, hzc]
            simp only [List.nil_append]
            rw [List.take_left' rfl]
            refine VL.of_get rfl fun j u t hu ht => ?_
            rw [hu] at ht; cases ht
            rw [repL_get _ m j (by have := (List.getElem?_eq_some_iff.1 hu).1; rwa [repL_length] at this)] at hu
            exact .sc _ (List.all_eq_true.1 hc1 _ (List.mem_of_getElem? hu)) .nil) (.inl ⟨rfl, rfl⟩)
          refine .of_ok (v := .slice (some ⟨w.heap.size, 0, none⟩) m (grownCap w m 0 e)) (W' := w.drew.alloc (.cells (([] : List Value).toArray ++ Builtin.zeroCells zv.cells m ++ Builtin.zeroCells zv.cells (grownCap w m 0 e - m)) e)) ?_ ⟨E', f1, .slc _ 0 e _ _ w.heap.size 0 0 f2 hge (by omega) (fun _ => ⟨rfl, _, i, f3, hi, by rw [hasz]; omega⟩) .nil, f4⟩
          simp only [execOp, ho, resolve, invoke, builtin, List.map_toArray, List.map_cons, List.map_nil, hp, h1, Sem.run_bind, Sem.run_pure, Result.andThen_ok]
          have hrun' : (Builtin.append_ #[t, u] o.type #[.slice none 0 0, .int k (Int.ofNat m)]).run P w = _ := hrun
          rw [hrun']
          rfl
        · cases he
      · cases he
    · obtain ⟨y, w', E', h1, h2, h3, h4⟩ := app_good (ty := o.type) hR (hS.at s) (hS.at x) he
      refine .of_ok (v := y) (W' := w') ?_ ⟨E', h2, h3, h4⟩
      simp [execOp, ho, resolve, invoke, builtin, h1]
  · cases he
noncomputable def evCopy (P : Program) (sl : Slo) (A : AH) (ts : List TypeId) (xs : List Operand) : Rs :=
  match ts, xs with
  | t :: _, [d, s] => bnd (elO P t) fun e => bnd (evLen (evO P sl s)) fun m => match evO P sl d with
    | .slice (some ⟨n, c, none⟩) k _ => cond (match evO P sl s with | .string _ => Nat.beq e.2 1 | _ => true) (forceN (Nat.min m k) fun j => cond (Nat.beq j 0) (some (.int .i64 (.ofNat 0), A)) (bnd (evRead A e.2 (evO P sl s) j) fun vs => bnd (evStoreC A n c vs) fun A => some (.int .i64 (.ofNat j), A))) none
    | _ => none
  | _, _ => none
theorem good_copy {xs : Array Operand} {ts : Array TypeId} (ho : o.op = .call { callee := .builtin .copy, args := xs, argTypes := ts }) : Good P base sl A o (evCopy P sl A ts.toList xs.toList) := by
  intro v A' he E w T hR hS
  obtain ⟨xs⟩ := xs
  obtain ⟨ts⟩ := ts
  simp only at he
  unfold evCopy at he
  split at he
  · next t ts d s =>
    obtain ⟨⟨e, z⟩, he1, he⟩ := bnd_of he
    obtain ⟨m, hm, he⟩ := bnd_of he
    obtain ⟨hu, i, hi, rfl⟩ := elO_of he1
    have hsz : (sizeOf e).run P w = .ok i.size w := by simp [sizeOf, typeInfo, hi]
    split at he
    · next n c k ee hd =>
      obtain ⟨hstr, he⟩ := cond_of he
      rw [forceN_eq] at he
      have hs := hS.at s
      have hdv := hS.at d
      rw [hd] at hdv
      obtain ⟨b, q, q', cap, hlo, hp, hle, _, hr⟩ := hdv.slice
      have hlen := len_good hs hm w
      cases h0 : Nat.beq (Nat.min m k) 0 with
      | true =>
        rw [h0] at he
        have h0 := Nat.eq_of_beq_eq_true h0
        cases he
        have hf : (Builtin.firstCells i.size 0 (evF T s)).run P w = .ok #[] w := by
          unfold evLen at hm
          split at hm
          · next a' n' c' hx' =>
            rw [hx'] at hs
            obtain ⟨a, c, hh⟩ := len_slice hs
            rw [hh]
            cases a <;> simp [Builtin.firstCells, loadCells, loadCellsFrom]
          · next s' hx' =>
            rw [hx'] at hs
            rw [hs.string]
            simp only [Builtin.firstCells, Sem.run_pure]
            congr 1
            apply Array.ext'
            simp
          · cases hm
        refine .of_ok (v := goInt 0) (W' := w) ?_ (.here hR (.sc _ rfl .nil))
        simp [execOp, ho, resolve, invoke, builtin, Builtin.copy_, run_underlying hu, hp, hlen, hsz, h0, hf, storeCells]
      | false =>
        rw [h0] at he
        obtain ⟨vs, hv, he⟩ := bnd_of he
        obtain ⟨A1, hst, he⟩ := bnd_of he
        cases he
        have hpos : 0 < Nat.min m k := Nat.pos_of_ne_zero fun e => by rw [e] at h0; cases h0
        have hmk : Nat.min m k ≤ m := Nat.min_le_left m k
        have hkk : Nat.min m k ≤ k := Nat.min_le_right m k
        obtain ⟨us, h1, h2, h3⟩ := read_good hR hs ⟨m, hm, hmk⟩ hpos (fun s' hs' => by rw [hs'] at hstr; exact Nat.eq_of_beq_eq_true hstr) hv
        obtain ⟨rfl, _⟩ := hr (by omega)
        obtain ⟨w', h4, h5, h6⟩ := storeC_good hR hlo h2 hst
        have h3 := h3 w fun _ _ => rfl
        refine .of_ok (v := goInt (Nat.min m k : Nat)) (W' := w') ?_ ⟨E, h5, .sc _ rfl .nil, h6⟩
        simp [execOp, ho, resolve, invoke, builtin, Builtin.copy_, run_underlying hu, hp, hlen, hsz, h3, h4]
    · cases he
  · cases he
noncomputable def evIx (P : Program) (sl : Slo) (A : AH) (t : TypeId) (x ix : Operand) : Rs :=
  match evO P sl ix with
  | .int _ (.ofNat i) => match evO P sl x, P.underlying t with
    | .string s, some .string => bnd (nthR s.data.toList i) fun b => forceN b.toNat fun c => some (.int .u8 (.ofNat c), A)
    | .agg cs, some (.array n e) => bnd (agO P e) fun g => bnd (szO P e) fun s => cond (Nat.blt i n) (cond g (some (.agg ((cs.toList.drop (i * s)).take s).toArray, A)) (bnd (nthR cs.toList (i * s)) fun v => some (v, A))) none
    | _, _ => none
  | _ => none
theorem good_ix {t : TypeId} {x ix : Operand} (ho : o.op = .index t x ix) : Good P base sl A o (evIx P sl A t x ix) := by
  intro v A' he E w T hR hS
  unfold evIx at he
  split at he
  · next k i hi =>
    have h2 := hS.at ix
    rw [hi] at h2
    have h2 := h2.int
    have h1 := hS.at x
    split at he
    · next s hx hu =>
      rw [hx] at h1
      have hp := h1.string
      obtain ⟨b, hb, he⟩ := bnd_of he
      rw [forceN_eq] at he
      cases he
      rw [nthR_eq] at hb
      refine .of_ok (v := .int .u8 b.toNat) (W' := w) ?_ (.here hR (.sc _ rfl .nil))
      have hb' : s[i]? = some b := by
        have hlt := (List.getElem?_eq_some_iff.1 hb).1
        have : i < s.size := hlt
        rw [getElem?_pos s i this]
        congr 1
        have h3 := (List.getElem?_eq_some_iff.1 hb).2
        rw [← h3]
        rfl
      simp [execOp, ho, hp, h2, Instr.index, asIntOf, run_underlying hu, hb']
    · next cs n e hx hu =>
      rw [hx] at h1
      obtain ⟨xs, hp, hv⟩ := h1.aggr
      obtain ⟨g, hg, he⟩ := bnd_of he
      obtain ⟨s, hs, he⟩ := bnd_of he
      obtain ⟨hlt, he⟩ := cond_of he
      have hlt := blt_of hlt
      have hagg := run_agg hg w
      cases g with
      | true =>
        cases he
        refine .of_ok (v := .agg ((xs.toList.drop (i * s)).take s).toArray) (W' := w) ?_ (.here hR (VL.aggOf ((hv.drop _).take _)))
        have : xs.extract (i * s) (i * s + s) = ((xs.toList.drop (i * s)).take s).toArray := by
          apply Array.ext'
          rw [Array.toList_extract, List.extract_eq_drop_take', List.take_drop]
        simp [execOp, ho, hp, h2, Instr.index, asIntOf, run_underlying hu, hlt, part, hagg, run_size hs, this]
      | false =>
        obtain ⟨y, h3, he⟩ := bnd_of (o := nthR cs.toList (i * s)) he
        cases he
        rw [nthR_eq] at h3
        obtain ⟨u, h4, h5⟩ := hv.get _ _ h3
        simp only [Array.getElem?_toList] at h4
        refine .of_ok (v := u) (W' := w) ?_ (.here hR h5)
        simp [execOp, ho, hp, h2, Instr.index, asIntOf, run_underlying hu, hlt, part, hagg, run_size hs, h4]
    · cases he
  · cases he
end
end Go.Proofs.YtpinhcdcnaaihaaGreatDoor
