import Derived.Test.YtpinhcdcnaaihaaGreatDoorA31
namespace Go.Proofs.YtpinhcdcnaaihaaGreatDoor
theorem ext_bytes (s : ByteArray) (l h : Nat) : s.extract l h = ⟨⟨(s.data.toList.take h).drop l⟩⟩ := by
  have : (s.extract l h).data.toList = (s.data.toList.take h).drop l := by
    rw [ByteArray.data_extract, Array.toList_extract, List.extract_eq_take_drop, List.drop_take]
  cases hs : s.extract l h with
  | mk d =>
    rw [hs] at this
    congr 1
    exact Array.ext' this
section
variable {P : Program} {base : Nat} {sl : Slo} {A : AH} {o : Oper}
theorem VL.ptrAt {E : EE} {n c b q k : Nat} (h : E.lo n = some (b, q)) : VL P E [.pointer (some ⟨b, q + c + k, none⟩)] [.pointer (some ⟨n, c + k, none⟩)] := by
  have := VL.ptr (P := P) n (c + k) b q h .nil
  rwa [← Nat.add_assoc] at this
noncomputable def unT (v : Value) : Value := match v with
  | .pointer (some ⟨n, c, some _⟩) => .pointer (some ⟨n, c, none⟩)
  | v => v
theorem VL.unT {E : EE} {u v : Value} (h : VL P E [u] [v]) : VL P E [u] [unT v] := by
  unfold Go.Proofs.YtpinhcdcnaaihaaGreatDoor.unT
  split
  · cases h with
    | sc v h _ => cases h
    | tpt m b t h _ _ _ => exact .ptr _ 0 b 0 h .nil
  · exact h
noncomputable def evFA (P : Program) (sl : Slo) (A : AH) (s : TypeId) (x : Operand) (f : Nat) : Rs :=
  match unT (evO P sl x), P.underlying s with
  | .pointer (some ⟨n, c, none⟩), some (.struct fs) => bnd (nthR fs.toList f) fun fd => bnd (szO P fd.type) fun z => cond (Nat.beq z 0) none (forceN (c + fd.offset) fun q => some (.pointer (some ⟨n, q, none⟩), A))
  | _, _ => none
theorem good_fa {s : TypeId} {x : Operand} {f : Nat} (ho : o.op = .fieldAddr s x f) : Good P base sl A o (evFA P sl A s x f) := by
  unfold evFA
  split
  · next n c fs hx hu =>
    cases hf : nthR fs.toList f with
    | none => exact Good.none
    | some fd =>
      show Good P base sl A o (bnd (szO P fd.type) _)
      cases hz : szO P fd.type with
      | none => exact Good.none
      | some z =>
        show Good P base sl A o (cond (Nat.beq z 0) none (forceN (c + fd.offset) _))
        rw [forceN_eq]
        cases h0 : Nat.beq z 0 with
        | true => exact Good.none
        | false =>
          refine Good.pure1 fun E w T hR hS => ?_
          have h1 := (hS.at x).unT
          rw [hx] at h1
          obtain ⟨b, q, hlo, hp⟩ := h1.pointer
          rw [nthR_eq] at hf
          simp only [Array.getElem?_toList] at hf
          have hz0 : z ≠ 0 := fun e => by subst e; cases h0
          refine ⟨_, ?_, VL.ptrAt hlo⟩
          simp [execOp, ho, hp, Instr.fieldAt, Instr.sureAddr, fieldPlace, run_underlying hu, hf, run_size hz, hz0, addr_add]
  · exact Good.none
noncomputable def evFld (P : Program) (sl : Slo) (A : AH) (t : TypeId) (x : Operand) (f : Nat) : Rs :=
  match evO P sl x, P.underlying t with
  | .agg cs, some (.struct fs) => bnd (nthR fs.toList f) fun fd => bnd (agO P fd.type) fun g => cond g (bnd (szO P fd.type) fun s => some (.agg ((cs.toList.drop fd.offset).take s).toArray, A)) (bnd (nthR cs.toList fd.offset) fun v => some (v, A))
  | _, _ => none
theorem VL.aggOf {E : EE} {xs cs : List Value} (h : VL P E xs cs) : VL P E [.agg xs.toArray] [.agg cs.toArray] := .agg xs cs h .nil
theorem good_fld {t : TypeId} {x : Operand} {f : Nat} (ho : o.op = .field t x f) : Good P base sl A o (evFld P sl A t x f) := by
  intro v A' he E w T hR hS
  unfold evFld at he
  split at he
  · next cs fs hx hu =>
    have h1 := hS.at x
    rw [hx] at h1
    obtain ⟨xs, hp, hv⟩ := h1.aggr
    obtain ⟨fd, hf, he⟩ := bnd_of he
    obtain ⟨g, hg, he⟩ := bnd_of he
    rw [nthR_eq] at hf
    simp only [Array.getElem?_toList] at hf
    have hagg := run_agg hg w
    cases g with
    | true =>
      obtain ⟨s, hs, he⟩ := bnd_of he
      cases he
      refine .of_ok (v := .agg ((xs.toList.drop fd.offset).take s).toArray) (W' := w) ?_ (.here hR (VL.aggOf ((hv.drop _).take _)))
      have : xs.extract fd.offset (fd.offset + s) = ((xs.toList.drop fd.offset).take s).toArray := by
        apply Array.ext'
        rw [Array.toList_extract, List.extract_eq_drop_take', List.take_drop]
      simp [execOp, ho, hp, Instr.field, run_underlying hu, hf, part, asAgg, hagg, run_size hs, this]
    | false =>
      obtain ⟨y, h2, he⟩ := bnd_of he
      cases he
      rw [nthR_eq] at h2
      obtain ⟨u, h3, h4⟩ := hv.get _ _ h2
      simp only [Array.getElem?_toList] at h3
      refine .of_ok (v := u) (W' := w) ?_ (.here hR h4)
      simp [execOp, ho, hp, Instr.field, run_underlying hu, hf, part, asAgg, hagg, h3]
  · cases he
noncomputable def evIA (P : Program) (sl : Slo) (A : AH) (t : TypeId) (x ix : Operand) : Rs :=
  match evO P sl ix with
  | .int _ (.ofNat i) => match evO P sl x with
    | .slice (some ⟨n, c, none⟩) len _ => bnd (elO P t) fun e => cond (Nat.blt i len) (forceN (c + i * e.2) fun q => some (.pointer (some ⟨n, q, none⟩), A)) none
    | .pointer (some ⟨n, c, none⟩) => match P.underlying t with
      | some (.array m e) => bnd (szO P e) fun s => cond (Nat.blt i m) (forceN (c + i * s) fun q => some (.pointer (some ⟨n, q, none⟩), A)) none
      | _ => none
    | _ => none
  | _ => none
theorem good_ia {t : TypeId} {x ix : Operand} (ho : o.op = .indexAddr t x ix) : Good P base sl A o (evIA P sl A t x ix) := by
  intro v A' he E w T hR hS
  unfold evIA at he
  split at he
  · next k i hi =>
    have h2 := hS.at ix
    rw [hi] at h2
    have h2 := h2.int
    split at he
    · next n c len ee hx =>
      have h1 := hS.at x
      rw [hx] at h1
      obtain ⟨b, q, q', cap, hlo, hp, hl, hm, hr⟩ := h1.slice
      obtain ⟨⟨e, s⟩, he1, he⟩ := bnd_of he
      obtain ⟨hlt, he⟩ := cond_of he
      rw [forceN_eq] at he
      cases he
      have hlt := blt_of hlt
      obtain ⟨hu, i', hi', rfl⟩ := elO_of he1
      obtain ⟨rfl, _⟩ := hr (by omega)
      refine .of_ok (W' := w) ?_ (.here hR (VL.ptrAt hlo))
      have e1 : (0 : Int) ≤ (i : Int) := by omega
      have e2 : (i : Int) < (len : Int) := by omega
      simp [execOp, ho, hp, h2, Instr.indexAt, asIntOf, run_underlying hu, sizeOf, typeInfo, hi', hlt, addr_add]
    · next n c hx =>
      split at he
      · next m e hu =>
        have h1 := hS.at x
        rw [hx] at h1
        obtain ⟨b, q, hlo, hp⟩ := h1.pointer
        obtain ⟨s, hs, he⟩ := bnd_of he
        obtain ⟨hlt, he⟩ := cond_of he
        rw [forceN_eq] at he
        cases he
        have hlt := blt_of hlt
        refine .of_ok (W' := w) ?_ (.here hR (VL.ptrAt hlo))
        simp [execOp, ho, hp, h2, Instr.indexAt, Instr.sureAddr, asIntOf, run_underlying hu, run_size hs, hlt, addr_add]
      · cases he
    · cases he
  · cases he
noncomputable def opN (P : Program) (sl : Slo) (d : Nat) (x : Option Operand) : Option Nat :=
  Option.rec (some d) (fun x => match evO P sl x with | .int _ (.ofNat n) => some n | _ => none) x
theorem opN_good {E : EE} {T : Nat → Value} {d n : Nat} {x : Option Operand} (hS : SlotV P E T sl) (h : opN P sl d x = some n) : (x = none ∧ n = d) ∨ ∃ y k, x = some y ∧ evF T y = .int k n := by
  cases x with
  | none => cases h; exact .inl ⟨rfl, rfl⟩
  | some y =>
    have h : (match evO P sl y with | .int _ (.ofNat n) => some n | _ => none) = some n := h
    split at h
    · next k m hy =>
      cases h
      have := hS.at y
      rw [hy] at this
      exact .inr ⟨y, k, rfl, this.int⟩
    · cases h
theorem run_bounds {T : Nat → Value} {w : World} {len cap l h : Nat} {lo hi : Option Operand} {b : Bool} (h1 : (lo = none ∧ l = 0) ∨ ∃ y k, lo = some y ∧ evF T y = .int k l) (h2 : (hi = none ∧ h = len) ∨ ∃ y k, hi = some y ∧ evF T y = .int k h) (hl : l ≤ h) (hh : h ≤ cap) :
    (Instr.sliceBounds b len cap (lo.map (evF T)) (hi.map (evF T)) none).run P w = .ok (l, h, cap) w := by
  have e1 : ∀ {m : Nat}, m ≤ cap → (0 : Int) ≤ (m : Int) ∧ (m : Int) ≤ (cap : Int) := fun hm => by omega
  rcases h1 with ⟨rfl, rfl⟩ | ⟨y, k, rfl, hy⟩ <;> rcases h2 with ⟨rfl, rfl⟩ | ⟨z, k', rfl, hz⟩ <;> simp [Instr.sliceBounds, Instr.sliceBound, asIntOf, *]
noncomputable def evSl (P : Program) (sl : Slo) (A : AH) (t : TypeId) (x : Operand) (lo hi mx : Option Operand) : Rs :=
  match mx with
  | some z => match evO P sl x with
    | .slice (some ⟨n, c, none⟩) len ee => bnd (opN P sl 0 lo) fun l => bnd (opN P sl len hi) fun h => bnd (opN P sl len (some z)) fun m => cond (Nat.ble l h && Nat.ble h m && Nat.ble m len && hi.isSome) (bnd (elO P t) fun e => cond (Nat.beq e.1 ee) (forceN (h - l) fun m => forceN (c + l * e.2) fun q => some (.slice (some ⟨n, q, none⟩) m ee, A)) none) none
    | .slice none len _ => bnd (opN P sl 0 lo) fun l => bnd (opN P sl len hi) fun h => bnd (opN P sl len (some z)) fun m => cond (Nat.ble l h && Nat.ble h m && Nat.ble m len && hi.isSome) (bnd (elO P t) fun _ => some (.slice none 0 0, A)) none
    | _ => none
  | none => match evO P sl x with
    | .slice a len ee => bnd (opN P sl 0 lo) fun l => bnd (opN P sl len hi) fun h => cond (Nat.ble l h && Nat.ble h len) (bnd (elO P t) fun e => match a with
      | none => some (.slice none 0 0, A)
      | some ⟨n, c, none⟩ => cond (Nat.beq e.1 ee) (forceN (h - l) fun m => forceN (c + l * e.2) fun q => some (.slice (some ⟨n, q, none⟩) m ee, A)) none
      | _ => none) none
    | .string s => match P.underlying t with
      | some .string => bnd (opN P sl 0 lo) fun l => bnd (opN P sl (lenR s.data.toList) hi) fun h => cond (Nat.ble l h && Nat.ble h (lenR s.data.toList)) (forceL (dropR l (takeR h s.data.toList)) fun m => some (.string ⟨⟨m⟩⟩, A)) none
      | _ => none
    | .pointer (some ⟨n, c, none⟩) => match P.underlying t with
      | some (.array k e) => bnd (opN P sl 0 lo) fun l => bnd (opN P sl k hi) fun h => cond (Nat.ble l h && Nat.ble h k) (bnd (P.info? e) fun i => bnd (A.get n) fun r => cond (!r.fro && Nat.ble (c + k * i.size) r.cs.length && Nat.ble k 1099511627776) (forceN (h - l) fun m => forceN (c + l * i.size) fun q => some (.slice (some ⟨n, q, none⟩) m e, A)) none) none
      | _ => none
    | _ => none
theorem good_sl {t : TypeId} {x : Operand} {lo hi mx : Option Operand} (ho : o.op = .slice t x lo hi mx) : Good P base sl A o (evSl P sl A t x lo hi mx) := by
  intro v A' he E w T hR hS
  unfold evSl at he
  simp only [lenR_eq, dropR_eq, takeR_eq, forceL_eq, forceN_eq] at he
  split at he
  · next z =>
    split at he
    · next n c len ee hx =>
      obtain ⟨l, hl, he⟩ := bnd_of he
      obtain ⟨h, hh, he⟩ := bnd_of he
      obtain ⟨m, hm', he⟩ := bnd_of he
      obtain ⟨hc, he⟩ := cond_of he
      simp only [Bool.and_eq_true, Nat.ble_eq] at hc
      obtain ⟨⟨⟨hc1, hc2⟩, hc3⟩, hc4⟩ := hc
      obtain ⟨⟨e, s⟩, he1, he⟩ := bnd_of he
      obtain ⟨hu, i, hi', rfl⟩ := elO_of he1
      obtain ⟨hee, he⟩ := cond_of he
      have := Nat.eq_of_beq_eq_true hee
      simp only at this
      subst this
      cases he
      have h1 := hS.at x
      rw [hx] at h1
      obtain ⟨b, q, q', cap, hlo, hp, hle, hm, hr⟩ := h1.slice
      have hsz : szO P e = some i.size := by unfold szO; rw [hi']; rfl
      have hb : (Instr.sliceBounds true len cap (lo.map (evF T)) (hi.map (evF T)) (some (evF T z))).run P w = .ok (l, h, m) w := by
        have g1 := opN_good hS hl
        have g2 := opN_good hS hh
        have g3 := opN_good hS hm'
        cases hi with
        | none => cases hc4
        | some y =>
          rcases g2 with ⟨g2, _⟩ | ⟨y', k2, g2, g2'⟩
          · cases g2
          cases g2
          rcases g3 with ⟨g3, _⟩ | ⟨z', k3, g3, g3'⟩
          · cases g3
          cases g3
          have e1 : m ≤ cap := by omega
          rcases g1 with ⟨rfl, rfl⟩ | ⟨x', k1, rfl, g1'⟩
          · simp [Instr.sliceBounds, Instr.sliceBound, asIntOf, g2', g3', e1, hc2]
          · simp [Instr.sliceBounds, Instr.sliceBound, asIntOf, g1', g2', g3', e1, hc1, hc2]
      by_cases hcl : m = l
      · subst hcl
        refine .of_ok (v := .slice (some ⟨b, q', none⟩) (h - m) (m - m)) (W' := w) ?_ (.here hR (.slc n (c + m * i.size) e (h - m) (m - m) b q q' hlo (by omega) (by omega) (fun hpos => by omega) .nil))
        simp [execOp, ho, hp, Instr.sliceAt, Instr.slice, run_underlying hu, hb, run_size hsz]
      · obtain ⟨rfl, sz, i2, hbl, hi2, hfit⟩ := hr (by omega)
        rw [hi'] at hi2; cases hi2
        have hmul : l * i.size + (m - l) * i.size = m * i.size := by rw [← Nat.add_mul]; congr 1; omega
        have hmul2 : m * i.size ≤ cap * i.size := Nat.mul_le_mul_right _ (by omega)
        refine .of_ok (v := .slice (some ⟨b, q + c + l * i.size, none⟩) (h - l) (m - l)) (W' := w) ?_ (.here hR (.slc n (c + l * i.size) e (h - l) (m - l) b q _ hlo (by omega) (by omega) (fun _ => ⟨by omega, sz, i, hbl, hi', by omega⟩) .nil))
        simp [execOp, ho, hp, Instr.sliceAt, Instr.slice, run_underlying hu, hb, run_size hsz, hcl, addr_add]
    · next len ee hx =>
      obtain ⟨l, hl, he⟩ := bnd_of he
      obtain ⟨h, hh, he⟩ := bnd_of he
      obtain ⟨m, hm', he⟩ := bnd_of he
      obtain ⟨hc, he⟩ := cond_of he
      simp only [Bool.and_eq_true, Nat.ble_eq] at hc
      obtain ⟨⟨⟨hc1, hc2⟩, hc3⟩, hc4⟩ := hc
      obtain ⟨⟨e, s⟩, he1, he⟩ := bnd_of he
      obtain ⟨hu, i, hi', rfl⟩ := elO_of he1
      cases he
      have h1 := hS.at x
      rw [hx] at h1
      obtain ⟨hp, rfl, rfl⟩ := h1.nilSlice
      have hm0 : m = 0 := by omega
      have hh0 : h = 0 := by omega
      have hl0 : l = 0 := by omega
      subst hm0 hh0 hl0
      have hsz : szO P e = some i.size := by unfold szO; rw [hi']; rfl
      have hb : (Instr.sliceBounds true 0 0 (lo.map (evF T)) (hi.map (evF T)) (some (evF T z))).run P w = .ok (0, 0, 0) w := by
        have g1 := opN_good hS hl
        have g2 := opN_good hS hh
        have g3 := opN_good hS hm'
        cases hi with
        | none => cases hc4
        | some y =>
          rcases g2 with ⟨g2, _⟩ | ⟨y', k2, g2, g2'⟩
          · cases g2
          cases g2
          rcases g3 with ⟨g3, _⟩ | ⟨z', k3, g3, g3'⟩
          · cases g3
          cases g3
          rcases g1 with ⟨rfl, _⟩ | ⟨x', k1, rfl, g1'⟩
          · simp [Instr.sliceBounds, Instr.sliceBound, asIntOf, g2', g3']
          · simp [Instr.sliceBounds, Instr.sliceBound, asIntOf, g1', g2', g3']
      refine .of_ok (v := .slice none 0 0) (W' := w) ?_ (.here hR (.sc _ rfl .nil))
      simp [execOp, ho, hp, Instr.sliceAt, Instr.slice, run_underlying hu, hb, run_size hsz]
    · cases he
  split at he
  · next a len ee hx =>
    obtain ⟨l, hl, he⟩ := bnd_of he
    obtain ⟨h, hh, he⟩ := bnd_of he
    obtain ⟨hc, he⟩ := cond_of he
    simp only [Bool.and_eq_true, Nat.ble_eq] at hc
    obtain ⟨⟨e, s⟩, he1, he⟩ := bnd_of he
    obtain ⟨hu, i, hi', rfl⟩ := elO_of he1
    have h1 := hS.at x
    rw [hx] at h1
    have g1 := opN_good hS hl
    have g2 := opN_good hS hh
    have hsz : szO P e = some i.size := by unfold szO; rw [hi']; rfl
    cases a with
    | none =>
      cases he
      obtain ⟨hp, rfl, rfl⟩ := h1.nilSlice
      have hb := run_bounds (P := P) (w := w) (b := true) (cap := 0) g1 g2 hc.1 hc.2
      obtain ⟨rfl⟩ : l = 0 := by omega
      obtain ⟨rfl⟩ : h = 0 := by omega
      refine .of_ok (v := .slice none 0 0) (W' := w) ?_ (.here hR (.sc _ rfl .nil))
      simp [execOp, ho, hp, Instr.sliceAt, Instr.slice, run_underlying hu, hb, run_size hsz]
    | some a =>
      obtain ⟨n, c, sp⟩ := a
      cases sp with
      | some _ => cases he
      | none =>
        obtain ⟨hee, he⟩ := cond_of he
        have := Nat.eq_of_beq_eq_true hee
        simp only at this
        subst this
        cases he
        obtain ⟨b, q, q', cap, hlo, hp, hle, hm, hr⟩ := h1.slice
        have hb := run_bounds (P := P) (w := w) (b := true) (cap := cap) g1 g2 hc.1 (by omega)
        by_cases hcl : cap = l
        · subst hcl
          refine .of_ok (v := .slice (some ⟨b, q', none⟩) (h - cap) (cap - cap)) (W' := w) ?_ (.here hR (.slc n (c + cap * i.size) e (h - cap) (cap - cap) b q q' hlo (by omega) (by omega) (fun hpos => by omega) .nil))
          simp [execOp, ho, hp, Instr.sliceAt, Instr.slice, run_underlying hu, hb, run_size hsz]
        · obtain ⟨rfl, sz, i2, hbl, hi2, hfit⟩ := hr (by omega)
          rw [hi'] at hi2; cases hi2
          have hmul : l * i.size + (cap - l) * i.size = cap * i.size := by rw [← Nat.add_mul]; congr 1; omega
          refine .of_ok (v := .slice (some ⟨b, q + c + l * i.size, none⟩) (h - l) (cap - l)) (W' := w) ?_ (.here hR (.slc n (c + l * i.size) e (h - l) (cap - l) b q _ hlo (by omega) (by omega) (fun _ => ⟨by omega, sz, i, hbl, hi', by omega⟩) .nil))
          simp [execOp, ho, hp, Instr.sliceAt, Instr.slice, run_underlying hu, hb, run_size hsz, hcl, addr_add]
  · next s hx =>
    split at he
    · next hu =>
      obtain ⟨l, hl, he⟩ := bnd_of he
      obtain ⟨h, hh, he⟩ := bnd_of he
      obtain ⟨hc, he⟩ := cond_of he
      simp only [Bool.and_eq_true, Nat.ble_eq] at hc
      cases he
      have h1 := hS.at x
      rw [hx] at h1
      have hp := h1.string
      have hb := run_bounds (P := P) (w := w) (b := false) (cap := s.data.toList.length) (opN_good hS hl) (opN_good hS hh) hc.1 hc.2
      have hsz : s.size = s.data.toList.length := rfl
      rw [← hsz] at hb
      refine .of_ok (v := .string (s.extract l h)) (W' := w) ?_ (.here hR (by rw [ext_bytes]; exact .sc _ rfl .nil))
      simp [execOp, ho, hp, Instr.sliceAt, Instr.slice, run_underlying hu, hb]
    · cases he
  · next n c hx =>
    split at he
    · next k e hu =>
      obtain ⟨l, hl, he⟩ := bnd_of he
      obtain ⟨h, hh, he⟩ := bnd_of he
      obtain ⟨hc, he⟩ := cond_of he
      simp only [Bool.and_eq_true, Nat.ble_eq] at hc
      obtain ⟨i, hi', he⟩ := bnd_of he
      obtain ⟨r, hr, he⟩ := bnd_of he
      obtain ⟨hc2, he⟩ := cond_of he
      simp only [Bool.and_eq_true, Bool.not_eq_true', Nat.ble_eq] at hc2
      cases he
      have h1 := hS.at x
      rw [hx] at h1
      obtain ⟨b, q, hlo, hp⟩ := h1.pointer
      have hsz : szO P e = some i.size := by unfold szO; rw [hi']; rfl
      have hb := run_bounds (P := P) (w := w) (b := false) (cap := k) (opN_good hS hl) (opN_good hS hh) hc.1 hc.2
      obtain ⟨b', q', g1, _, g3, _⟩ := hR.row n r hr
      rw [hlo] at g1; cases g1
      obtain ⟨s, hbl, hfit⟩ := g3.resolve_left fun h => by rw [hc2.1.1] at h; cases h.1
      have hmul : l * i.size + (k - l) * i.size = k * i.size := by rw [← Nat.add_mul]; congr 1; omega
      by_cases hcl : k = l
      · subst hcl
        refine .of_ok (v := .slice (some ⟨b, q + c, none⟩) (h - k) (k - k)) (W' := w) ?_ (.here hR (.slc n (c + k * i.size) e (h - k) (k - k) b q _ hlo (by omega) (by omega) (fun hpos => by omega) .nil))
        simp [execOp, ho, hp, Instr.sliceAt, Instr.sureAddr, run_underlying hu, hb, run_size hsz]
      · refine .of_ok (v := .slice (some ⟨b, q + c + l * i.size, none⟩) (h - l) (k - l)) (W' := w) ?_ (.here hR (.slc n (c + l * i.size) e (h - l) (k - l) b q _ hlo (by omega) (by omega) (fun _ => ⟨by omega, s, i, hbl, hi', by omega⟩) .nil))
        simp [execOp, ho, hp, Instr.sliceAt, Instr.sureAddr, run_underlying hu, hb, run_size hsz, hcl, addr_add]
    · cases he
  · cases he
end
end Go.Proofs.YtpinhcdcnaaihaaGreatDoor
