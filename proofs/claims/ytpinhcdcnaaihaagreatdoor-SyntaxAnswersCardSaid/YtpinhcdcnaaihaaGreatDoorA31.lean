import Derived.Test.YtpinhcdcnaaihaaGreatDoorA30
namespace Go.Proofs.YtpinhcdcnaaihaaGreatDoor
section
variable {P : Program} {base : Nat} {sl : Slo} {A : AH} {o : Oper}
noncomputable def placesO (P : Program) (fs : List Field) : Option (List (Nat × Nat)) := List.rec (some []) (fun f _ ih => bnd (szO P f.type) fun s => bnd ih fun l => some ((f.offset, s) :: l)) fs
theorem run_placesO {w : World} : ∀ {l : List Field} {pl : List (Nat × Nat)}, placesO P l = some pl → (l.mapM (m := Sem) fun f => do pure (f.offset, ← sizeOf f.type)).run P w = .ok pl w
  | [], pl, h => by
    cases h
    rfl
  | f :: l, pl, h => by
    obtain ⟨s, h1, h⟩ := bnd_of (o := szO P f.type) h
    obtain ⟨ps, h2, h⟩ := bnd_of (o := placesO P l) h
    cases h
    have hs := run_size h1 w
    have ih := run_placesO (w := w) h2
    simp only [List.mapM_cons, Sem.run_bind, hs, Result.andThen_ok, Sem.run_pure]
    rw [ih]
    rfl
noncomputable def evBuild (P : Program) (sl : Slo) (A : AH) (t : TypeId) (ps : List (Nat × Operand)) : Rs := bnd (zrO P t) fun z => cond (z.all scV) (match P.underlying t with
  | some (.struct fs) => bnd (placesO P fs.toList) fun pl => bnd (fillV (nthR pl) z (mapR (fun p => (p.1, evO P sl p.2)) ps)) fun cs => some (.agg cs.toArray, A)
  | some (.array _ e) => bnd (szO P e) fun s => bnd (fillV (fun i => some (i * s, s)) z (mapR (fun p => (p.1, evO P sl p.2)) ps)) fun cs => some (.agg cs.toArray, A)
  | _ => none) none
theorem good_build {t : TypeId} {ps : Array (Nat × Operand)} (ho : o.op = .build t ps) : Good P base sl A o (evBuild P sl A t ps.toList) := by
  intro v A' he E w T hR hS
  unfold evBuild at he
  obtain ⟨z, hz, he⟩ := bnd_of he
  obtain ⟨hs, he⟩ := cond_of he
  obtain ⟨zv, hz1, hz2⟩ := run_zero hz w
  obtain ⟨hp1, hp2⟩ := hS.parts ps.toList
  have hzv : VL P E zv.cells.toList z := by rw [hz2]; exact VL.scs hs
  split at he
  · next fs hu =>
    obtain ⟨pl, h1, he⟩ := bnd_of he
    obtain ⟨cs, h2, he⟩ := bnd_of he
    cases he
    have h2' : fillV (pl[·]?) z (mapR (fun p => (p.1, evO P sl p.2)) ps.toList) = some cs := by
      have : (fun i => pl[i]?) = nthR pl := by funext i; exact (nthR_eq pl i).symm
      rw [this]; exact h2
    obtain ⟨us, h3, h4⟩ := fill_good hp1 hp2 hzv h2'
    have hpl := run_placesO (w := w) h1
    have hmm : (fs.mapM (m := Sem) fun f => do pure (f.offset, ← sizeOf f.type)).run P w = .ok pl.toArray w := by
      rw [Array.mapM_eq_mapM_toList, Sem.run_map, hpl]
      rfl
    have h3' : Instr.fill (fun x => pl.toArray[x]?) zv.cells (ps.map fun p => (p.1, evF T p.2)).toList = some us := by
      rw [← h3]; simp
    have hrun : (Instr.build t (ps.map fun p => (p.1, evF T p.2))).run P w = .ok (.agg us) w := by
      unfold Instr.build
      rw [Sem.run_bind, hz1, Result.andThen_ok, Sem.run_bind, run_underlying hu, Result.andThen_ok]
      simp only
      rw [Sem.run_bind, hmm, Result.andThen_ok]
      simp only [h3']
      rfl
    refine .of_ok (v := .agg us) (W' := w) (by simp [execOp, ho, hrun]) (.here hR ?_)
    have := VL.agg us.toList cs h4 (.nil (P := P) (E := E))
    simpa using this
  · next n e hu =>
    obtain ⟨s, h1, he⟩ := bnd_of he
    obtain ⟨cs, h2, he⟩ := bnd_of he
    cases he
    obtain ⟨us, h3, h4⟩ := fill_good hp1 hp2 hzv h2
    have h3' : Instr.fill (fun i => some (i * s, s)) zv.cells (ps.map fun p => (p.1, evF T p.2)).toList = some us := by
      rw [← h3]; simp
    have hrun : (Instr.build t (ps.map fun p => (p.1, evF T p.2))).run P w = .ok (.agg us) w := by
      unfold Instr.build
      rw [Sem.run_bind, hz1, Result.andThen_ok, Sem.run_bind, run_underlying hu, Result.andThen_ok]
      simp only
      rw [Sem.run_bind, run_size h1 w, Result.andThen_ok]
      simp only [h3']
      rfl
    refine .of_ok (v := .agg us) (W' := w) (by simp [execOp, ho, hrun]) (.here hR ?_)
    have := VL.agg us.toList cs h4 (.nil (P := P) (E := E))
    simpa using this
  · cases he
noncomputable def repL (z : List Value) (n : Nat) : List Value := Nat.rec [] (fun _ ih => z ++ ih) n
theorem repL_length (z : List Value) : ∀ n, (repL z n).length = n * z.length
  | 0 => by rw [Nat.zero_mul]; rfl
  | n + 1 => by
    show (z ++ repL z n).length = _
    rw [List.length_append, repL_length z n, Nat.add_mul]; omega
theorem repL_get (z : List Value) : ∀ (n i : Nat), i < n * z.length → (repL z n)[i]? = z[i % z.length]?
  | 0, i, h => by simp at h
  | n + 1, i, h => by
    show (z ++ repL z n)[i]? = _
    by_cases hi : i < z.length
    · rw [List.getElem?_append_left hi, Nat.mod_eq_of_lt hi]
    · rw [List.getElem?_append_right (by omega), repL_get z n (i - z.length) (by rw [Nat.add_mul] at h; omega), ← Nat.mod_eq_sub_mod (by omega)]
theorem repL_range (zv : Value) (n s : Nat) (hs : zv.cells.toList.length = s) : ((Array.range (n * s)).map (zv.cells[· % zv.cells.size]!)).toList = repL zv.cells.toList n := by
  have hs' : zv.cells.size = s := by simpa using hs
  refine List.ext_getElem? fun i => ?_
  simp only [Array.toList_map, Array.toList_range, List.getElem?_map]
  by_cases hi : i < n * s
  · rw [List.getElem?_range hi, Option.map_some, repL_get _ n i (by rw [hs]; exact hi), hs, hs']
    have hlt : i % s < zv.cells.size := by
      rw [hs']
      exact Nat.mod_lt _ (Nat.pos_of_ne_zero fun e => by rw [e] at hi; simp at hi)
    rw [getElem!_pos zv.cells _ hlt, Array.getElem?_toList, Array.getElem?_eq_getElem hlt]
  · rw [List.getElem?_eq_none (by simpa using hi), List.getElem?_eq_none (by rw [repL_length, hs]; omega)]
    rfl
noncomputable def elO (P : Program) (t : TypeId) : Option (TypeId × Nat) := match P.underlying t with | some (.slice e) => bnd (szO P e) fun s => some (e, s) | _ => none
theorem elO_of {t e : TypeId} {s : Nat} (h : elO P t = some (e, s)) : P.underlying t = some (.slice e) ∧ ∃ i, P.info? e = some i ∧ i.size = s := by
  unfold elO at h
  split at h
  · next e' hu =>
    obtain ⟨s', h1, h2⟩ := bnd_of h
    cases h2
    unfold szO at h1
    cases hi : P.info? e with
    | none => rw [hi] at h1; cases h1
    | some i =>
      rw [hi] at h1
      exact ⟨hu, i, rfl, by simpa using h1⟩
  · cases h
noncomputable def evBSl1 (P : Program) (sl : Slo) (A : AH) (t : TypeId) (len : Nat) (ps : List (Nat × Operand)) : Rs := bnd (elO P t) fun e => bnd (zrO P e.1) fun z => cond (z.all scV && Nat.beq z.length e.2 && Nat.blt 0 (len * e.2) && Nat.ble (len * e.2) 16777216) (bnd (fillV (fun i => some (i * e.2, e.2)) (repL z len) (mapR (fun p => (p.1, evO P sl p.2)) ps)) fun cs => evNew A cs fun k A => some (.slice (some ⟨k, 0, none⟩) len e.1, A)) none
theorem newer_bsl1 {t : TypeId} {len : Nat} {ps : Array (Nat × Operand)} (ho : o.op = .buildSlice t len ps) : Newer P sl A o (evBSl1 P sl A t len ps.toList) := by
  unfold evBSl1
  cases he : elO P t with
  | none => exact Newer.none
  | some es =>
    obtain ⟨e, s⟩ := es
    show Newer P sl A o (bnd (zrO P e) _)
    cases hz : zrO P e with
    | none => exact Newer.none
    | some z =>
      show Newer P sl A o (cond (z.all scV && Nat.beq z.length s && Nat.blt 0 (len * s) && Nat.ble (len * s) 16777216) _ none)
      cases hc : (z.all scV && Nat.beq z.length s && Nat.blt 0 (len * s) && Nat.ble (len * s) 16777216) with
      | false => exact Newer.none
      | true =>
        show Newer P sl A o (bnd (fillV (fun i => some (i * s, s)) (repL z len) (mapR (fun p => (p.1, evO P sl p.2)) ps.toList)) _)
        cases hf : fillV (fun i => some (i * s, s)) (repL z len) (mapR (fun p => (p.1, evO P sl p.2)) ps.toList) with
        | none => exact Newer.none
        | some cs =>
          simp only [Bool.and_eq_true, Nat.ble_eq] at hc
          obtain ⟨⟨⟨h1, h2⟩, h3⟩, h4⟩ := hc
          have h2 := Nat.eq_of_beq_eq_true h2
          have h3 := blt_of h3
          obtain ⟨hu, i, hi, rfl⟩ := elO_of he
          refine newer_new (f := fun k => .slice (some ⟨k, 0, none⟩) len e) fun E w T hS => ?_
          obtain ⟨zv, hz1, hz2⟩ := run_zero hz w
          obtain ⟨hp1, hp2⟩ := hS.parts ps.toList
          have hzl : zv.cells.toList.length = i.size := by rw [hz2]; exact h2
          have hcells : VL P E ((Array.range (len * i.size)).map (zv.cells[· % zv.cells.size]!)).toList (repL z len) := by
            rw [repL_range zv len i.size hzl, hz2]
            refine VL.of_get rfl fun j u t hu ht => ?_
            rw [hu] at ht; cases ht
            rw [repL_get z len j (by have := (List.getElem?_eq_some_iff.1 hu).1; rwa [repL_length] at this)] at hu
            exact .sc _ (List.all_eq_true.1 h1 _ (List.mem_of_getElem? hu)) .nil
          obtain ⟨us, h5, h6⟩ := fill_good hp1 hp2 hcells hf
          have h5' : Instr.fill (fun x => some (x * i.size, i.size)) ((Array.range (len * i.size)).map (zv.cells[· % zv.cells.size]!)) (ps.map fun p => (p.1, evF T p.2)).toList = some us := by
            rw [← h5]; simp
          have e1 : ¬ 2 ^ 24 < len * i.size := by omega
          have e2 : ¬ len * i.size = 0 := by omega
          have hsz : (sizeOf e).run P w = .ok i.size w := by simp [sizeOf, typeInfo, hi]
          have hrun : (Instr.buildSlice t len (ps.map fun p => (p.1, evF T p.2))).run P w = .ok (.slice (some ⟨w.heap.size, 0, none⟩) len len) (w.alloc (.cells us e)) := by
            simp only [Instr.buildSlice, Sem.run_bind, run_underlying hu, Result.andThen_ok, hsz, gt_iff_lt, if_neg e1, if_neg e2, hz1, Sem.run_pure, h5', newRow, newObj]
            rfl
          have hul : us.size = len * i.size := by
            have h7 := hcells.length
            have h8 : ∀ {ps : List (Nat × Value)} {c d : Array Value}, Instr.fill (fun i' => some (i' * i.size, i.size)) c ps = some d → d.size = c.size := fun {ps} => by
              induction ps with
              | nil => intro c d h; simp only [Instr.fill, Option.some.injEq] at h; rw [h]
              | cons p ps ih =>
                intro c d h
                obtain ⟨j, v⟩ := p
                simp only [Instr.fill] at h
                split at h
                · cases h
                · next hc' =>
                  simp only [Bool.or_eq_true, not_or, decide_eq_true_eq, Nat.not_lt] at hc'
                  have := foldl_putV v.cells.toList 0 (j * i.size) c (by simp; omega)
                  have hz' : v.cells.zipIdx.foldl (fun cs (x : Value × Nat) => cs.setIfInBounds (j * i.size + x.2) x.1) c = (c.toList.take (j * i.size + 0) ++ v.cells.toList ++ c.toList.drop (j * i.size + 0 + v.cells.toList.length)).toArray := by
                    rw [← Array.foldl_toList, Array.toList_zipIdx]
                    exact this
                  have := ih h
                  rw [this]
                  show (v.cells.zipIdx.foldl (fun cs (x : Value × Nat) => cs.setIfInBounds (j * i.size + x.2) x.1) c).size = c.size
                  rw [hz']
                  simp
                  omega
            rw [h8 h5']
            simp
          refine ⟨us, e, _, by simp [execOp, ho, hrun], h6, fun E' _ h7 h8 _ => .slc _ 0 e len len w.heap.size 0 0 h7 (Nat.le_refl _) ?_ (fun _ => ⟨rfl, _, i, h8, hi, by rw [hul]; omega⟩) .nil⟩
          have : len ≤ len * i.size := Nat.le_mul_of_pos_right len (Nat.pos_of_ne_zero fun e => by rw [e] at h3; omega)
          omega
noncomputable def evBSl (P : Program) (sl : Slo) (A : AH) (t : TypeId) (len : Nat) (ps : List (Nat × Operand)) : Rs := cond (Nat.beq len 0) (List.rec (bnd (elO P t) fun e => evNew A [] fun k A => some (.slice (some ⟨k, 0, none⟩) 0 e.1, A)) (fun _ _ _ => none) ps) (evBSl1 P sl A t len ps)
theorem newer_bsl {t : TypeId} {len : Nat} {ps : Array (Nat × Operand)} (ho : o.op = .buildSlice t len ps) : Newer P sl A o (evBSl P sl A t len ps.toList) := by
  unfold evBSl
  cases h0 : Nat.beq len 0 with
  | false => exact newer_bsl1 ho
  | true =>
    have h0 := Nat.eq_of_beq_eq_true h0
    subst h0
    obtain ⟨ps⟩ := ps
    cases ps with
    | cons _ _ => exact Newer.none
    | nil =>
      show Newer P sl A o (bnd (elO P t) _)
      cases he : elO P t with
      | none => exact Newer.none
      | some es =>
        obtain ⟨e, s⟩ := es
        obtain ⟨hu, i, hi, rfl⟩ := elO_of he
        refine newer_new (f := fun k => .slice (some ⟨k, 0, none⟩) 0 e) fun E w T hS => ?_
        have hsz : (sizeOf e).run P w = .ok i.size w := by simp [sizeOf, typeInfo, hi]
        have hrun : (Instr.buildSlice t 0 #[]).run P w = .ok (.slice (some ⟨w.heap.size, 0, none⟩) 0 0) (w.alloc (.cells #[] e)) := by
          have e0 : ∀ f : Nat → Value, Array.map f (Array.range 0) = #[] := fun f => Array.eq_empty_of_size_eq_zero (by simp)
          simp [Instr.buildSlice, run_underlying hu, hsz, Instr.fill, newRow, e0]
        exact ⟨#[], e, _, by simp [execOp, ho, hrun], .nil, fun E' _ h3 _ _ => .slc _ 0 e 0 0 w.heap.size 0 0 h3 (Nat.le_refl _) (by omega) (fun h => absurd h (Nat.lt_irrefl _)) .nil⟩
theorem good_bsl {t : TypeId} {len : Nat} {ps : Array (Nat × Operand)} (ho : o.op = .buildSlice t len ps) : Good P base sl A o (evBSl P sl A t len ps.toList) := (newer_bsl ho).good
noncomputable def evLd (P : Program) (sl : Slo) (A : AH) (t : TypeId) (a : Operand) : Rs := bnd (evLoad P A t (evO P sl a)) fun v => some (v, A)
theorem good_load {t : TypeId} {a : Operand} (ho : o.op = .load t a) : Good P base sl A o (evLd P sl A t a) := by
  unfold evLd
  cases h : evLoad P A t (evO P sl a) with
  | none => exact Good.none
  | some v =>
      refine Good.pure1 fun E w T hR hS => ?_
      obtain ⟨y, h1, h2⟩ := load_good hR (hS.at a) h
      exact ⟨y, by simp [execOp, ho, h1], h2⟩
noncomputable def evSt (P : Program) (sl : Slo) (A : AH) (t : TypeId) (a x : Operand) : Rs :=
  match evO P sl a with
  | .pointer (some ⟨n, c, none⟩) => bnd (szO P t) fun s => cond (noCh (evO P sl x) && Nat.beq (evO P sl x).cells.toList.length s) (bnd (evStoreC A n c (evO P sl x).cells.toList) fun A => some (undef, A)) none
  | _ => none
theorem good_store {t : TypeId} {a x : Operand} (ho : o.op = .store t a x) : Good P base sl A o (evSt P sl A t a x) := by
  intro v A' he E w T hR hS
  unfold evSt at he
  have h1 := hS.at a
  split at he
  · next n c hv =>
    rw [hv] at h1
    obtain ⟨b, q, hlo, hp⟩ := h1.pointer
    obtain ⟨s, hs, he⟩ := bnd_of he
    obtain ⟨hc, he⟩ := cond_of he
    simp only [Bool.and_eq_true] at hc
    obtain ⟨A1, h2, he⟩ := bnd_of he
    cases he
    have hcl := (hS.at x).cells' hc.1
    obtain ⟨w', h3, h4, h5⟩ := storeC_good hR hlo hcl h2
    have hl := hcl.length
    have hsz : (evF T x).cells.size = s := by
      have := Nat.eq_of_beq_eq_true hc.2
      have hl : (evF T x).cells.size = (evO P sl x).cells.toList.length := by simpa using hl
      omega
    refine .of_skip (W' := w') ?_ ⟨E, h4, .tup [] [] .nil .nil, h5⟩
    simp [execOp, ho, hp, Instr.storeAt, Instr.sureAddr, storeVar, run_size hs, hsz, h3]
  · cases he
noncomputable def evNilC (P : Program) (sl : Slo) (A : AH) (x : Operand) : Rs := match evO P sl x with | .pointer (some a) => some (.pointer (some a), A) | _ => none
theorem good_nilc {x : Operand} (ho : o.op = .nilCheck x) : Good P base sl A o (evNilC P sl A x) := by
  unfold evNilC
  split
  · next a h =>
      refine Good.pure1 fun E w T hR hS => ?_
      have h1 := hS.at x
      rw [h] at h1
      refine ⟨evF T x, ?_, h1⟩
      cases hv : evF T x with
      | pointer p =>
        rw [hv] at h1
        cases p with
        | none => cases h1
        | some p => simp [execOp, ho, hv]
      | _ => rw [hv] at h1; cases h1
  · exact Good.none
noncomputable def evExt (P : Program) (sl : Slo) (A : AH) (t : Operand) (i : Nat) : Rs := match evO P sl t with | .tuple vs => bnd (nthR vs.toList i) fun v => some (v, A) | _ => none
theorem good_ext {t : Operand} {i : Nat} (ho : o.op = .extract t i) : Good P base sl A o (evExt P sl A t i) := by
  unfold evExt
  split
  · next vs h =>
    cases hv : nthR vs.toList i with
    | none => exact Good.none
    | some v =>
        refine Good.pure1 fun E w T hR hS => ?_
        have h1 := hS.at t
        rw [h] at h1
        obtain ⟨xs, h2, h3⟩ := h1.tupl
        rw [nthR_eq] at hv
        obtain ⟨u, h4, h5⟩ := h3.get i v hv
        refine ⟨u, ?_, h5⟩
        simp only [Array.getElem?_toList] at h4
        simp [execOp, ho, h2, Instr.extract, h4]
  · exact Good.none
end
end Go.Proofs.YtpinhcdcnaaihaaGreatDoor
