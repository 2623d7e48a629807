import Derived.Test.YtpinhcdcnaaihaaGreatDoorA28
namespace Go.Proofs.YtpinhcdcnaaihaaGreatDoor
noncomputable def putH (vs : List Value) : List Value → List Value := List.rec (fun l => l) (fun v _ ih l => List.rec [] (fun _ l' _ => v :: ih l') l) vs
noncomputable def putR (c : Nat) : List Value → List Value → List Value := Nat.rec (fun l vs => putH vs l) (fun _ ih l vs => List.rec [] (fun a l' _ => a :: ih l' vs) l) c
theorem putH_eq : ∀ (vs l : List Value), vs.length ≤ l.length → putH vs l = vs ++ l.drop vs.length
  | [], l, _ => rfl
  | v :: vs, [], h => by simp at h
  | v :: vs, a :: l, h => congrArg (v :: ·) (putH_eq vs l (by simpa using h))
theorem putR_eq : ∀ (c : Nat) (l vs : List Value), c + vs.length ≤ l.length → putR c l vs = l.take c ++ vs ++ l.drop (c + vs.length)
  | 0, l, vs, h => by rw [List.take_zero, List.nil_append, Nat.zero_add]; exact putH_eq vs l (by omega)
  | c + 1, [], vs, h => by simp at h
  | c + 1, a :: l, vs, h => by
    rw [show c + 1 + vs.length = (c + vs.length) + 1 by omega]
    exact congrArg (a :: ·) (putR_eq c l vs (by simp only [List.length_cons] at h; omega))
theorem putR_length {c : Nat} {l vs : List Value} (h : c + vs.length ≤ l.length) : (putR c l vs).length = l.length := by
  rw [putR_eq c l vs h]; simp; omega
noncomputable def agO (P : Program) (t : TypeId) : Option Bool := (P.underlying t).map fun d => match d with | .struct _ | .array _ _ => true | _ => false
noncomputable def szO (P : Program) (t : TypeId) : Option Nat := (P.info? t).map (·.size)
noncomputable def zrO (P : Program) (t : TypeId) : Option (List Value) := (P.info? t).bind fun i => i.zero.map fun z => z.cells.toList
noncomputable def evLoad (P : Program) (A : AH) (t : TypeId) (v : Value) : Option Value :=
  match v with
  | .pointer (some ⟨n, c, none⟩) => bnd (A.get n) fun r => bnd (agO P t) fun g => cond g (bnd (szO P t) fun s => cond (Nat.ble (c + s) (lenR r.cs)) (forceL (takeR s (dropR c r.cs)) fun l => some (.agg l.toArray)) none) (nthR r.cs c)
  | _ => none
noncomputable def evStoreC (A : AH) (n c : Nat) (vs : List Value) : Option AH := bnd (A.get n) fun r => cond r.fro none (cond (Nat.ble (c + lenR vs) (lenR r.cs) && allR oneV vs) (forceL (putR c r.cs vs) fun l => some ((A.kill n r.fam).put n (some ⟨l, r.fam, false, r.ty⟩))) none)
theorem cond_none {b : Bool} {α : Type} {x : Option α} {r : α} (h : cond b none x = some r) : b = false ∧ x = some r := by
  cases b with
  | false => exact ⟨rfl, h⟩
  | true => cases h
theorem run_agg {P : Program} {t : TypeId} {g : Bool} (h : agO P t = some g) (w : World) : (isAgg t).run P w = .ok g w := by
  unfold agO at h
  cases hu : P.underlying t with
  | none => rw [hu] at h; cases h
  | some d =>
    rw [hu] at h
    simp only [Option.map_some, Option.some.injEq] at h
    unfold isAgg
    rw [Sem.run_bind, run_underlying hu w]
    subst h
    cases d <;> simp
theorem run_size {P : Program} {t : TypeId} {s : Nat} (h : szO P t = some s) (w : World) : (sizeOf t).run P w = .ok s w := by
  unfold szO at h
  cases hi : P.info? t with
  | none => rw [hi] at h; cases h
  | some i =>
    rw [hi] at h
    simp only [Option.map_some, Option.some.injEq] at h
    simp [sizeOf, typeInfo, hi, h]
theorem run_zero {P : Program} {t : TypeId} {z : List Value} (h : zrO P t = some z) (w : World) : ∃ zv, (zeroValue t).run P w = .ok zv w ∧ zv.cells.toList = z := by
  unfold zrO at h
  cases hi : P.info? t with
  | none => rw [hi] at h; cases h
  | some i =>
    rw [hi] at h
    cases hz : i.zero with
    | none => simp [hz] at h
    | some zv =>
      simp only [Option.bind_some, hz, Option.map_some, Option.some.injEq] at h
      exact ⟨zv, by simp [zeroValue, typeInfo, hi, hz], h⟩
theorem addr_add (b o i : Nat) : (⟨b, o, none⟩ : Addr).add i = ⟨b, o + i, none⟩ := by unfold Addr.add; split <;> simp_all
section
variable {P : Program} {E : EE} {A A' : AH} {base : Nat} {w : World}
theorem load_good (h : RelA P E A base w) {t : TypeId} {u v x : Value} (hu : VL P E [u] [v]) (he : evLoad P A t v = some x) : ∃ y, (Instr.loadAt t u).run P w = .ok y w ∧ VL P E [y] [x] := by
  unfold evLoad at he
  simp only [lenR_eq, dropR_eq, takeR_eq, forceL_eq] at he
  split at he
  · next n c =>
    obtain ⟨b, o, hlo, rfl⟩ := hu.pointer
    obtain ⟨r, hr, he⟩ := bnd_of he
    obtain ⟨g, hg, he⟩ := bnd_of he
    have hagg := run_agg hg w
    cases g with
    | true =>
      obtain ⟨s, hs, he⟩ := bnd_of he
      obtain ⟨h1, h2⟩ := cond_of he
      cases h2
      obtain ⟨us, h3, h4, h5⟩ := h.reads hr hlo c s (by simpa using h1)
      have hl := run_loadCells_list (P := P) w ⟨b, o + c, none⟩ us (fun j v hv => by rw [addr_add]; exact h4 j v hv)
      rw [h3] at hl
      refine ⟨.agg us.toArray, ?_, .agg us _ h5 .nil⟩
      simp [Instr.loadAt, Instr.sureAddr, loadVar, hagg, run_size hs, hl]
    | false =>
      have he : nthR r.cs c = some x := he
      rw [nthR_eq] at he
      obtain ⟨b', o', h1, _, _, h4⟩ := h.row n r hr
      rw [hlo] at h1; cases h1
      obtain ⟨y, h5, h6⟩ := h4 c x he
      refine ⟨y, ?_, h6⟩
      simp [Instr.loadAt, Instr.sureAddr, loadVar, hagg, h5]
  · cases he
theorem storeC_good (h : RelA P E A base w) {n c b o : Nat} {us vs : List Value} (hlo : E.lo n = some (b, o)) (hu : VL P E us vs) (he : evStoreC A n c vs = some A') : ∃ w', (storeCells ⟨b, o + c, none⟩ us).run P w = .ok () w' ∧ RelA P E A' base w' ∧ Fr E E w w' := by
  unfold evStoreC at he
  simp only [lenR_eq, allR_eq, forceL_eq] at he
  obtain ⟨r, hr, he⟩ := bnd_of he
  obtain ⟨hfro, he⟩ := cond_none he
  obtain ⟨h1, h2⟩ := cond_of he
  cases h2
  simp only [Bool.and_eq_true] at h1
  have hle : c + vs.length ≤ r.cs.length := by simpa using h1.1
  have hk := h.kill hr
  have hkr := kill_self h hr
  obtain ⟨b', o', h3, h4, h5, h6⟩ := h.row n r hr
  rw [hlo] at h3; cases h3
  obtain ⟨s, h7, h8⟩ := h5.resolve_left fun h => by rw [hfro] at h; cases h.1
  obtain ⟨h9, cur, e, fz, h10, h11, h12'⟩ := h.blk b s h7
  have h12 : FzB s fz := h12' ⟨n, r, o, hr, hfro, hlo⟩
  clear h12'
  have hul := hu.length
  have hst := run_storeB P b (o + c) e fz us 0 cur w h10 (by rw [h11]; exact h12) (by rw [h11]; omega) (hu.ones h1.2)
  simp only [Nat.add_zero] at hst
  have hset := setRow_heap w b cur (cur.toList.take (o + c) ++ us ++ cur.toList.drop (o + c + us.length)).toArray e fz h10
  have hsize : (w.setRow b (cur.toList.take (o + c) ++ us ++ cur.toList.drop (o + c + us.length)).toArray).heap.size = w.heap.size := by simp [World.setRow]
  have hoth : ∀ b', b' ≠ b → (w.setRow b (cur.toList.take (o + c) ++ us ++ cur.toList.drop (o + c + us.length)).toArray).heap[b']? = w.heap[b']? := fun b' hb' => by
    simp only [World.setRow]
    rw [Array.getElem?_modify, if_neg (fun e => hb' e.symm)]
  refine ⟨_, hst, ?_, ⟨.refl E, rfl, rfl, rfl, by rw [hsize]; exact Nat.le_refl _, fun b' _ hn _ => hoth b' (fun e => by rw [e, h7] at hn; cases hn), fun _ _ => rfl, fun _ _ h => .inl h⟩⟩
  have hlen := putR_length hle
  have := hk.write (w' := w.setRow b (cur.toList.take (o + c) ++ us ++ cur.toList.drop (o + c + us.length)).toArray) (cs := putR c r.cs vs) hkr hlo hlen (fun m q hq hf => ?_) (by rw [hsize]; exact Nat.le_refl _) (fun b' s' hb' => ?_) (fun i v hv => ?_) (fun b' hb' _ => hoth b' hb') (fun b' es cl hb' => (hoth b' (fun e => by subst e; rw [h10] at hb'; cases hb')).trans hb') (fun b' t hb' => by
    obtain ⟨c1, fz1, g1⟩ := h.typ b' t hb'
    by_cases hbb : b' = b
    · subst hbb
      rw [h10] at g1
      cases g1
      exact ⟨_, _, hset⟩
    · exact ⟨c1, fz1, (hoth b' hbb).trans g1⟩) (fr := r.fro) id
  · rw [hfro] at this; exact this
  · rw [kill_get h hr] at hq
    cases hq' : A.get m with
    | none => rw [hq'] at hq; cases hq
    | some q' =>
      rw [hq'] at hq
      simp only at hq
      split at hq
      · cases hq
      · next hc =>
        cases hq
        exact Classical.byContradiction fun hne => hc ⟨hf, hne⟩
  · obtain ⟨g1, cur', e', fz', g2, g3, g4⟩ := hk.blk b' s' hb'
    by_cases hbb : b' = b
    · subst hbb
      rw [h7] at hb'; cases hb'
      exact ⟨g1, _, e, fz, hset, by simp; omega, fun _ => h12⟩
    · exact ⟨g1, cur', e', fz', (hoth b' hbb).trans g2, g3, g4⟩
  · have hcell := cell_of_row _ b (o + i) _ e fz hset
    rw [hcell]
    rw [putR_eq c r.cs vs hle] at hv
    have hidx : i < r.cs.length := by
      have := (List.getElem?_eq_some_iff.1 hv).1
      simp at this; omega
    simp only [List.getElem?_toArray]
    by_cases hi1 : i < c
    · rw [List.append_assoc, List.getElem?_append_left (by simp; omega), List.getElem?_take, if_pos hi1] at hv
      obtain ⟨u, g1, g2⟩ := h6 i v hv
      refine ⟨u, ?_, g2⟩
      rw [List.append_assoc, List.getElem?_append_left (by simp; omega), List.getElem?_take, if_pos (by omega)]
      rw [cell_of_row w b (o + i) cur e fz h10] at g1
      simpa using g1
    · by_cases hi2 : i < c + vs.length
      · rw [List.getElem?_append_left (by simp; omega), List.getElem?_append_right (by simp; omega)] at hv
        simp only [List.length_take] at hv
        obtain ⟨u, g1, g2⟩ := hu.get _ v hv
        refine ⟨u, ?_, g2⟩
        rw [List.getElem?_append_left (by simp; omega), List.getElem?_append_right (by simp; omega)]
        simp only [List.length_take, Array.length_toList]
        rw [← g1]
        congr 1
        omega
      · rw [List.getElem?_append_right (by simp; omega), List.getElem?_drop] at hv
        simp only [List.length_append, List.length_take] at hv
        have hv' : r.cs[i]? = some v := by rw [← hv]; congr 1; omega
        obtain ⟨u, g1, g2⟩ := h6 i v hv'
        refine ⟨u, ?_, g2⟩
        rw [List.getElem?_append_right (by simp; omega), List.getElem?_drop]
        simp only [List.length_append, List.length_take, Array.length_toList]
        rw [cell_of_row w b (o + i) cur e fz h10] at g1
        rw [← g1, Array.getElem?_toList]
        congr 1
        omega
end
end Go.Proofs.YtpinhcdcnaaihaaGreatDoor
namespace Go.Proofs.YtpinhcdcnaaihaaGreatDoor
noncomputable def AH.growN (A : AH) (n : Nat) (cs : List Value) (f : Nat) (l : List Nat) (ty : Nat := 0) : AH := ⟨A.t.set evD n (some ⟨cs, f, false, ty⟩), n + 1, A.fm.set evD f (some (n :: l)), A.nm, A.mp⟩
noncomputable def evNew {α : Type} (A : AH) (cs : List Value) (k : Nat → AH → Option α) (ty : Nat := 0) : Option α := cond (Nat.blt A.nx 16384) (forceN A.nx fun n => k n (A.growN n cs n [] ty)) none
theorem evNew_of {α : Type} {A : AH} {cs : List Value} {k : Nat → AH → Option α} {ty : Nat} {r : α} (h : evNew A cs k ty = some r) : A.nx < 16384 ∧ k A.nx (A.grow cs A.nx [] ty) = some r := by
  unfold evNew at h
  obtain ⟨h1, h2⟩ := cond_of h
  rw [forceN_eq] at h2
  exact ⟨blt_of h1, h2⟩
section
variable {P : Program} {E : EE} {A : AH} {base : Nat} {w w' : World}
theorem RelA.freshT (h : RelA P E A base w) {cs : List Value} {f : Nat} {l : List Nat} {ty : Nat} {arr : Array Value} {e : TypeId} {fz : Nat × Nat} (hx : A.nx < 16384) (hw : w'.heap = w.heap.push (.cells arr e fz)) (hos : w'.os = w.os) (htp : w'.tape = w.tape) (hou : w'.output = w.output) (hfz : FzB arr.size fz)
    (hle : cs.length ≤ arr.size) (hv : VL P E (arr.toList.take cs.length) cs) (hl : (f = A.nx ∧ l = []) ∨ A.fget f = some l) (hty : ty = 0 ∨ ty = e + 1) :
    ∃ E', RelA P E' (A.grow cs f l ty) base w' ∧ E'.lo A.nx = some (w.heap.size, 0) ∧ E'.bl w.heap.size = some arr.size ∧ Fr E E' w w' ∧ E'.tb w.heap.size = some e := by
  have hblt : ∀ b s, E.bl b = some s → b < w.heap.size := fun b s hb => by
    obtain ⟨_, c, e, fz, h2, _⟩ := h.blk b s hb
    exact (Array.getElem?_eq_some_iff.1 h2).1
  have hE : E.Le ⟨fun n => if n = A.nx then some (w.heap.size, 0) else E.lo n, fun b => if b = w.heap.size then some arr.size else E.bl b, E.ml, fun b => if b = w.heap.size then some e else E.tb b⟩ := ⟨fun n x hx => by
      show (if n = A.nx then _ else _) = _
      rw [if_neg (fun e => by rw [h.new n (by omega)] at hx; cases hx)]; exact hx, fun b s hb => by
      show (if b = w.heap.size then _ else _) = _
      rw [if_neg (fun e => by have := hblt b s hb; omega)]; exact hb, fun _ _ h => h, fun b t hb => by
      obtain ⟨c1, fz1, g1⟩ := h.typ b t hb
      have := (Array.getElem?_eq_some_iff.1 g1).1
      show (if b = w.heap.size then _ else _) = _
      rw [if_neg (by omega)]; exact hb⟩
  have hnew : w'.heap[w.heap.size]? = some (.cells arr e fz) := by rw [hw]; simp
  have hkeep : ∀ b, b < w.heap.size → w'.heap[b]? = w.heap[b]? := fun b hb => by rw [hw, Array.getElem?_push, if_neg (by omega)]
  have hsz : w'.heap.size = w.heap.size + 1 := by rw [hw]; simp
  refine ⟨_, h.grow (b := w.heap.size) (o := 0) (s := arr.size) hx hE (if_pos rfl) (fun n hn => if_neg hn) (if_pos rfl) (by omega) (fun b s hb => ?_) (by omega) (fun i v hv' => ?_) (fun n r b' o' hr hlo i v _ => ?_) (fun n r o' hr hlo => ?_) hl rfl (fun b es cl hb => (hkeep b (Array.getElem?_eq_some_iff.1 hb).1).trans hb) (fun b t hb => ?_) (fun t ht => (if_pos rfl).trans (congrArg some (by
    rcases hty with h0 | h0
    · rw [h0] at ht; cases ht
    · rw [h0] at ht; exact Nat.succ.inj ht))), if_pos rfl, if_pos rfl, ⟨hE, hos, htp, hou, by omega, fun b hb _ _ => hkeep b hb, fun b hb => if_neg (by omega), fun _ _ h => .inl h⟩, if_pos rfl⟩
  · have hb : (if b = w.heap.size then some arr.size else E.bl b) = some s := hb
    split at hb
    · next e1 =>
      cases hb
      subst e1
      exact ⟨h.base, arr, e, fz, hnew, rfl, fun _ => hfz⟩
    · next hne =>
      obtain ⟨h1, c, e', fz', h2, h3, h4⟩ := h.blk b s hb
      exact ⟨h1, c, e', fz', (hkeep b (hblt b s hb)).trans h2, h3, fun hh => h4 (hh.resolve_right hne)⟩
  · obtain ⟨u, h1, h2⟩ := hv.get i v hv'
    refine ⟨u, ?_, h2.mono hE⟩
    rw [cell_of_row w' w.heap.size (0 + i) arr e fz hnew]
    rw [List.getElem?_take] at h1
    split at h1
    · simpa using h1
    · cases h1
  · obtain ⟨b1, o1, g1, g2, _⟩ := h.row n r hr
    rw [hlo] at g1; cases g1
    exact World.cell?_of_block (hkeep b' g2)
  · obtain ⟨b1, o1, g1, g2, _⟩ := h.row n r hr
    rw [hlo] at g1; cases g1
    omega
  · have hb : (if b = w.heap.size then some e else E.tb b) = some t := hb
    split at hb
    · next e1 =>
      cases hb
      subst e1
      exact ⟨_, _, hnew⟩
    · obtain ⟨c1, fz1, g1⟩ := h.typ b t hb
      exact ⟨c1, fz1, (hkeep b (Array.getElem?_eq_some_iff.1 g1).1).trans g1⟩
theorem RelA.fresh (h : RelA P E A base w) {cs : List Value} {f : Nat} {l : List Nat} {arr : Array Value} {e : TypeId} {fz : Nat × Nat} (hx : A.nx < 16384) (hw : w'.heap = w.heap.push (.cells arr e fz)) (hos : w'.os = w.os) (htp : w'.tape = w.tape) (hou : w'.output = w.output) (hfz : FzB arr.size fz)
    (hle : cs.length ≤ arr.size) (hv : VL P E (arr.toList.take cs.length) cs) (hl : (f = A.nx ∧ l = []) ∨ A.fget f = some l) :
    ∃ E', RelA P E' (A.grow cs f l) base w' ∧ E'.lo A.nx = some (w.heap.size, 0) ∧ E'.bl w.heap.size = some arr.size ∧ Fr E E' w w' := by
  obtain ⟨E', h1, h2, h3, h4, _⟩ := h.freshT hx hw hos htp hou hfz hle hv hl (.inl rfl)
  exact ⟨E', h1, h2, h3, h4⟩
end
noncomputable def evLen (v : Value) : Option Nat :=
  match v with
  | .slice _ n _ => some n
  | .string s => some (lenR s.data.toList)
  | _ => none
noncomputable def evRead (A : AH) (es : Nat) (x : Value) (m : Nat) : Option (List Value) :=
  match x with
  | .slice none _ _ => some []
  | .slice (some ⟨n, c, none⟩) _ _ => bnd (A.get n) fun r => cond (Nat.ble (c + m * es) (lenR r.cs)) (forceL (takeR (m * es) (dropR c r.cs)) some) none
  | .string s => forceL (mapR (fun b => .int .u8 b.toNat) (takeR m s.data.toList)) some
  | _ => none
section
variable {P : Program} {E : EE} {A : AH} {base : Nat} {w : World}
theorem len_good {u v : Value} {m : Nat} (hu : VL P E [u] [v]) (he : evLen v = some m) (w : World) : (Builtin.lenOf u).run P w = .ok m w := by
  unfold evLen at he
  simp only [lenR_eq] at he
  split at he
  · next a n c =>
    cases he
    cases hu with
    | sc v h _ => simp [Builtin.lenOf]
    | slc n c e len cap b o q h hl hm hr _ => simp [Builtin.lenOf]
  · next s =>
    cases he
    rw [hu.string]
    rfl
  · cases he
theorem len_slice {u : Value} {a : Option Addr} {n c : Nat} (hu : VL P E [u] [.slice a n c]) : ∃ a' c', u = .slice a' n c' := by
  cases hu with
  | sc v h _ => exact ⟨_, _, rfl⟩
  | slc n c e len cap b o q h hl hm hr _ => exact ⟨_, _, rfl⟩
theorem read_good (h : RelA P E A base w) {u v : Value} {m es : Nat} {cs : List Value} (hu : VL P E [u] [v]) (hm : ∃ k, evLen v = some k ∧ m ≤ k) (hp : 0 < m) (hes : ∀ s, v = .string s → es = 1) (he : evRead A es v m = some cs) :
    ∃ us, us.length = m * es ∧ VL P E us cs ∧ ∀ W : World, (∀ b, b < w.heap.size → W.heap[b]? = w.heap[b]?) → (Builtin.firstCells es m u).run P W = .ok us.toArray W := by
  obtain ⟨k, hk, hmk⟩ := hm
  unfold evRead at he
  simp only [lenR_eq, dropR_eq, takeR_eq, forceL_eq, mapR_eq] at he
  split at he
  · next n c =>
    obtain ⟨_, h1, _⟩ := hu.nilSlice
    simp only [evLen, lenR_eq, Option.some.injEq] at hk
    omega
  · next n c len e =>
    simp only [evLen, lenR_eq, Option.some.injEq] at hk
    obtain ⟨b, o, q, cap, hlo, rfl, hl, _, hr⟩ := hu.slice
    obtain ⟨r, hr', he⟩ := bnd_of he
    obtain ⟨h1, h2⟩ := cond_of he
    cases h2
    obtain ⟨us, h3, h4, h5⟩ := h.reads hr' hlo c (m * es) (by simpa using h1)
    obtain ⟨hq, _⟩ := hr (by omega)
    subst hq
    obtain ⟨b1, o1, g1, g2, _⟩ := h.row _ r hr'
    rw [hlo] at g1; cases g1
    refine ⟨us, h3, h5, fun W hW => run_firstCells_some (P := P) W es m ⟨b, o + c, none⟩ len cap us h3 fun j x hx => ?_⟩
    rw [addr_add]
    exact (World.cell?_of_block (hW b g2)).trans (h4 j x hx)
  · next s =>
    cases he
    simp only [evLen, lenR_eq, Option.some.injEq] at hk
    rw [hu.string]
    have hes := hes s rfl
    subst hes
    have hsz : s.data.toList.length = s.size := rfl
    refine ⟨(s.data.toList.take m).map fun b => .int .u8 b.toNat, by simp; omega, ?_, fun W _ => ?_⟩
    · generalize s.data.toList.take m = l
      induction l with
      | nil => exact .nil
      | cons b l ih => exact .sc _ rfl ih
    · simp only [Builtin.firstCells, Sem.run_pure]
      congr 1
      apply Array.ext'
      simp
  · cases he
end
end Go.Proofs.YtpinhcdcnaaihaaGreatDoor
namespace Go.Proofs.YtpinhcdcnaaihaaGreatDoor
theorem run_app_fresh (P : Program) (w : World) (t u ty e : TypeId) (i : TypeInfo) (z : Value) (d : TypeDesc) (ht : P.underlying t = some (.slice e)) (hu : P.underlying u = some d) (hd : d = .string ∨ ∃ x, d = .slice x) (hi : P.info? e = some i) (hz : i.zero = some z)
    (ba : Option Addr) (n c : Nat) (olds news : List Value) (X : Value) (m : Nat) (hfo : (Builtin.firstCells i.size n (.slice ba n c)).run P w.drew = .ok olds.toArray w.drew) (hl : (Builtin.lenOf X).run P w = .ok m w) (hf : (Builtin.firstCells i.size m X).run P w.drew = .ok news.toArray w.drew)
    (hg : c < n + m) (h63 : ((n + m : Nat) : Int) ≤ 9223372036854775807) (hfit : Builtin.nextslicecap (n + m) c * i.bytes ≤ 281474976710656) :
    (Builtin.append_ #[t, u] ty #[.slice ba n c, X]).run P w = .ok (.slice (some ⟨w.heap.size, 0, none⟩) (n + m) (grownCap w (n + m) c e)) (w.drew.alloc (.cells (olds.toArray ++ news.toArray ++ Builtin.zeroCells z.cells (grownCap w (n + m) c e - (n + m))) e)) := by
  have hn : ¬ (n + m ≤ c) := by omega
  have h63' : ¬ (9223372036854775807 < ((n : Int) + (m : Int))) := by omega
  have h48' : ¬ (281474976710656 < Builtin.nextslicecap (n + m) c * i.bytes) := by omega
  rcases hd with rfl | ⟨x, rfl⟩ <;>
  · simp [Builtin.append_, run_underlying ht, run_underlying hu, sizeOf, typeInfo, zeroValue, hi, hz, hl, hn, h63', h48', Question.forced, hf, hfo, newRow, grownCap]
    congr 2
    apply Array.ext'
    simp [List.append_assoc]
theorem run_app_room (P : Program) (w w' : World) (t u ty e : TypeId) (i : TypeInfo) (d : TypeDesc) (ht : P.underlying t = some (.slice e)) (hu : P.underlying u = some d) (hd : d = .string ∨ ∃ x, d = .slice x) (hi : P.info? e = some i)
    (a : Addr) (n c : Nat) (news : List Value) (X : Value) (m : Nat) (hl : (Builtin.lenOf X).run P w = .ok m w) (hf : (Builtin.firstCells i.size m X).run P w = .ok news.toArray w) (hg : n + m ≤ c) (hst : (storeCells (a.add (n * i.size)) news).run P w = .ok () w') :
    (Builtin.append_ #[t, u] ty #[.slice (some a) n c, X]).run P w = .ok (.slice (some a) (n + m) c) w' := by
  rcases hd with rfl | ⟨x, rfl⟩ <;> simp [Builtin.append_, run_underlying ht, run_underlying hu, sizeOf, typeInfo, hi, hl, hg, hf, hst]
theorem run_app_nil (P : Program) (w : World) (t u ty e : TypeId) (i : TypeInfo) (d : TypeDesc) (ht : P.underlying t = some (.slice e)) (hu : P.underlying u = some d) (hd : d = .string ∨ ∃ x, d = .slice x) (hi : P.info? e = some i)
    (ba : Option Addr) (n c : Nat) (X : Value) (hl : (Builtin.lenOf X).run P w = .ok 0 w) (hf : (Builtin.firstCells i.size 0 X).run P w = .ok #[] w) (hg : n ≤ c) :
    (Builtin.append_ #[t, u] ty #[.slice ba n c, X]).run P w = .ok (.slice ba n c) w := by
  rcases hd with rfl | ⟨x, rfl⟩ <;> cases ba <;> simp [Builtin.append_, run_underlying ht, run_underlying hu, sizeOf, typeInfo, hi, hl, hg, hf, storeCells]
theorem firstCells_zero {P : Program} {E : EE} {u v : Value} (hu : VL P E [u] [v]) (he : evLen v = some 0) (es : Nat) (w : World) : (Builtin.firstCells es 0 u).run P w = .ok #[] w := by
  unfold evLen at he
  simp only [lenR_eq] at he
  split at he
  · obtain ⟨a, c, rfl⟩ := len_slice hu
    cases a <;> simp [Builtin.firstCells, loadCells, loadCellsFrom]
  · next s =>
    rw [hu.string]
    simp only [Builtin.firstCells, Sem.run_pure]
    congr 1
    apply Array.ext'
    simp
  · cases he
noncomputable def tyK (P : Program) (t u : TypeId) : Bool := match P.underlying u with | some .string => true | some (.slice _) => true | _ => false
theorem tyK_of {P : Program} {t u : TypeId} (h : tyK P t u = true) : ∃ d, P.underlying u = some d ∧ (d = .string ∨ ∃ x, d = .slice x) := by
  unfold tyK at h
  split at h
  · next h1 => exact ⟨_, h1, .inl rfl⟩
  · next h1 => exact ⟨_, h1, .inr ⟨_, rfl⟩⟩
  · cases h
theorem evApp_put_sub {P : Program} {E : EE} {A : AH} {base : Nat} {w : World} (h : RelA P E A base w) {n : Nat} {r : ARow} (hr : A.get n = some r) : RelA P E ((A.kill n r.fam).put n none) base w ∧ ((A.kill n r.fam).put n none).fget r.fam = some [n] ∧ ∀ m q, ((A.kill n r.fam).put n none).get m = some q → m ≠ n ∧ A.get m = some q ∧ q.fam ≠ r.fam := by
  have hk := h.kill hr
  have hn : n < 16384 := AH.get_lt hr
  have hfg : ∀ f, ((A.kill n r.fam).put n none).fget f = (A.kill n r.fam).fget f := fun _ => rfl
  have hg : ∀ m q, ((A.kill n r.fam).put n none).get m = some q → m ≠ n ∧ (A.kill n r.fam).get m = some q := fun m q hq => by
    rw [AH.get_put hn] at hq
    split at hq
    · cases hq
    · next e => exact ⟨e, hq⟩
  refine ⟨hk.sub rfl ⟨rfl, rfl⟩ (fun m q hq => (hg m q hq).2) (fun m q hq => by rw [hfg]; exact (hk.fam m q (hg m q hq).2).2.2) (fun f l hl => hk.mem f l hl) (fun f m l hl => .inl hl), by rw [hfg, kill_fget h hr, if_pos rfl], fun m q hq => ?_⟩
  obtain ⟨h1, h2⟩ := hg m q hq
  rw [kill_get h hr] at h2
  cases hq' : A.get m with
  | none => rw [hq'] at h2; cases h2
  | some q' =>
    rw [hq'] at h2
    simp only at h2
    split at h2
    · cases h2
    · next hc =>
      cases h2
      exact ⟨h1, rfl, fun e => hc ⟨e, h1⟩⟩
noncomputable def evApp (P : Program) (A : AH) (ts : List TypeId) (s x : Value) : Option (Value × AH) :=
  match ts with
  | [t, u] => match P.underlying t with
    | some (.slice e) => match s with
      | .slice b len ee => bnd (P.info? e) fun i => bnd i.zero fun zv => cond (Nat.beq (lenR zv.cells.toList) i.size && Nat.blt 0 i.size && tyK P t u && (match x with | .string _ => Nat.beq i.size 1 | _ => true)) (bnd (evLen x) fun m => cond (Nat.beq m 0) (some (s, A)) (cond (Nat.ble (len + m) 1099511627776 && Nat.ble ((len + m) * i.bytes) 140737488355328) (bnd (evRead A i.size x m) fun news => cond (allR oneV news) (match b with
        | none => evNew A news (fun k A => some (.slice (some ⟨k, 0, none⟩) m e, A)) (e + 1)
        | some ⟨n, c, none⟩ => bnd (A.get n) fun r => cond r.fro none (cond (Nat.beq ee e && Nat.ble (c + len * i.size) (lenR r.cs) && Nat.blt A.nx 16384) (bnd (A.fget r.fam) fun l => forceN A.nx fun k => forceN (len + m) fun lm => forceL (appR (takeR (len * i.size) (dropR c r.cs)) news) fun all => cond (Nat.beq (c + len * i.size) (lenR r.cs))
            (List.rec none (fun n' _ _ => cond (Nat.beq n n') (some (.slice (some ⟨k, 0, none⟩) lm e, A.growN k all r.fam l (cond (Nat.beq r.ty (e + 1)) (e + 1) 0))) (some (.slice (some ⟨k, 0, none⟩) lm e, (A.kill n r.fam).growN k all r.fam [n] (cond (Nat.beq r.ty (e + 1)) (e + 1) 0)))) l)
            (some (.slice (some ⟨k, 0, none⟩) lm e, ((A.kill n r.fam).put n none).growN k all r.fam [n] (cond (Nat.beq r.ty (e + 1)) (e + 1) 0)))) none)
        | _ => none) none) none)) none
      | _ => none
    | _ => none
  | _ => none
end Go.Proofs.YtpinhcdcnaaihaaGreatDoor
namespace Go.Proofs.YtpinhcdcnaaihaaGreatDoor
section
variable {P : Program} {E : EE} {A A1 : AH} {base : Nat} {w : World}
theorem app_core (h : RelA P E A base w) {n c e len cap m b o q : Nat} {r : ARow} {l : List Nat} {i : TypeInfo} {zv : Value} {t u ty : TypeId} {d : TypeDesc} {X : Value} {nr news : List Value} (hr : A.get n = some r) (hfro : r.fro = false) (h1 : RelA P E A1 base w) (hx : A1.nx < 16384) (hl : A1.fget r.fam = some l)
    (hal : ∀ m q, A1.get m = some q → ∀ o', E.lo m = some (b, o') → q.fam = r.fam ∧ o' + q.cs.length ≤ o + (c + len * i.size)) (hlo : E.lo n = some (b, o))
    (hlen : len ≤ cap) (hcm : cap ≤ 9223372036854775807) (hroom : 0 < cap → q = o + c ∧ ∃ s i', E.bl b = some s ∧ P.info? e = some i' ∧ o + c + cap * i'.size ≤ s)
    (ht : P.underlying t = some (.slice e)) (hu : P.underlying u = some d) (hd : d = .string ∨ ∃ x, d = .slice x) (hi : P.info? e = some i) (hz : i.zero = some zv) (hzl : zv.cells.toList.length = i.size) (hsp : 0 < i.size)
    (hlX : (Builtin.lenOf X).run P w = .ok m w) (hm : 0 < m) (hnl : nr.length = m * i.size) (hfX : ∀ W : World, (∀ b, b < w.heap.size → W.heap[b]? = w.heap[b]?) → (Builtin.firstCells i.size m X).run P W = .ok nr.toArray W) (hnv : VL P E nr news) (hone : news.all oneV = true)
    (hb1 : len + m ≤ 1099511627776) (hb2 : (len + m) * i.bytes ≤ 140737488355328) (hc : c + len * i.size ≤ r.cs.length) {tt : Nat} (htt : tt = 0 ∨ (tt = e + 1 ∧ r.ty = e + 1)) :
    ∃ y w' E', (Builtin.append_ #[t, u] ty #[.slice (some ⟨b, q, none⟩) len cap, X]).run P w = .ok y w' ∧ RelA P E' (A1.grow ((r.cs.drop c).take (len * i.size) ++ news) r.fam l tt) base w' ∧ VL P E' [y] [.slice (some ⟨A1.nx, 0, none⟩) (len + m) e] ∧ Fr E E' w w' := by
  have hnews : news.length = m * i.size := by rw [← hnv.length, hnl]
  have hcs : ((r.cs.drop c).take (len * i.size) ++ news).length = (len + m) * i.size := by
    rw [List.length_append, hnews, List.length_take, List.length_drop, Nat.add_mul]; omega
  obtain ⟨us, hu1, hu2, hu3⟩ := h.reads hr hlo c (len * i.size) hc
  obtain ⟨_, _, g1, hbw, g3, _⟩ := h.row n r hr
  rw [hlo] at g1; cases g1
  by_cases hg : len + m ≤ cap
  · obtain ⟨hq, s, i', hbl, hi', hfit⟩ := hroom (by omega)
    subst hq
    rw [hi] at hi'; cases hi'
    obtain ⟨hbase, cur, ty', fz, hcur, hsz, hfz'⟩ := h.blk b s hbl
    have hfz : FzB s fz := hfz' ⟨n, r, o, hr, hfro, hlo⟩
    clear hfz'
    have hmul : (len + m) * i.size ≤ cap * i.size := Nat.mul_le_mul_right _ hg
    rw [Nat.add_mul] at hmul
    have hst := run_storeB P b (o + c + len * i.size) ty' fz nr 0 cur w hcur (by rw [hsz]; exact hfz) (by rw [hsz]; omega) (hnv.ones hone)
    simp only [Nat.add_zero] at hst
    generalize hW : w.setRow b (cur.toList.take (o + c + len * i.size) ++ nr ++ cur.toList.drop (o + c + len * i.size + nr.length)).toArray = w' at hst
    have hset : w'.heap[b]? = some (.cells (cur.toList.take (o + c + len * i.size) ++ nr ++ cur.toList.drop (o + c + len * i.size + nr.length)).toArray ty' fz) := by
      rw [← hW]; exact setRow_heap w b cur _ ty' fz hcur
    have hsize : w'.heap.size = w.heap.size := by rw [← hW]; simp [World.setRow]
    have hoth : ∀ b', b' ≠ b → w'.heap[b']? = w.heap[b']? := fun b' hb' => by
      rw [← hW]
      simp only [World.setRow]
      rw [Array.getElem?_modify, if_neg (fun e => hb' e.symm)]
    have hE : E.Le ⟨fun k => if k = A1.nx then some (b, o + c) else E.lo k, E.bl, E.ml, E.tb⟩ := ⟨fun k x hx => by
      show (if k = A1.nx then _ else _) = _
      rw [if_neg (fun e => by rw [h1.new k (by omega)] at hx; cases hx)]; exact hx, fun _ _ hb => hb, fun _ _ hb => hb, fun _ _ hb => hb⟩
    have hcell : ∀ j, w'.cell? ⟨b, j, none⟩ = (cur.toList.take (o + c + len * i.size) ++ nr ++ cur.toList.drop (o + c + len * i.size + nr.length))[j]? := fun j => by
      rw [cell_of_row w' b j _ ty' fz hset]
      simp
    have hcellw : ∀ j, w.cell? ⟨b, j, none⟩ = cur.toList[j]? := fun j => by
      rw [cell_of_row w b j cur ty' fz hcur]
      simp
    have hlow : ∀ j, j < o + c + len * i.size → w'.cell? ⟨b, j, none⟩ = w.cell? ⟨b, j, none⟩ := fun j hj => by
      rw [hcell, hcellw, List.append_assoc, List.getElem?_append_left (by simp; omega), List.getElem?_take, if_pos hj]
    refine ⟨_, w', _, run_app_room P w w' t u ty e i d ht hu hd hi ⟨b, o + c, none⟩ len cap nr X m hlX (hfX w fun _ _ => rfl) hg (by rw [addr_add]; exact hst), h1.grow (b := b) (o := o + c) (s := s) hx hE (if_pos rfl) (fun k hk => if_neg hk) hbl (by rw [hcs, Nat.add_mul]; omega) (fun b' s' hb' => ?_) (by omega) (fun j v hv => ?_) (fun k q' b' o' hq' hlo' j v hv => ?_) (fun k q' o' hq' hlo' => ?_) (.inr hl) rfl (fun b' es cl hb' => (hoth b' (fun e => by subst e; rw [hcur] at hb'; cases hb')).trans hb') (fun b' t hb' => by
      obtain ⟨c1, fz1, g1⟩ := h.typ b' t hb'
      by_cases hbb : b' = b
      · subst hbb
        rw [hcur] at g1
        cases g1
        exact ⟨_, _, hset⟩
      · exact ⟨c1, fz1, (hoth b' hbb).trans g1⟩) (fun t ht => by
      rcases htt with h0 | ⟨h0, h2⟩
      · omega
      · obtain ⟨b2, o2, g1, g2⟩ := h.rty n r t hr (by omega)
        rw [hlo] at g1; cases g1
        exact g2), ?_, ⟨hE, by rw [← hW]; rfl, by rw [← hW]; rfl, by rw [← hW]; rfl, by omega, fun b' _ hn _ => hoth b' (fun e => by rw [e, hbl] at hn; cases hn), fun _ _ => rfl, fun _ _ h => .inl h⟩⟩
    · obtain ⟨f1, c', e', fz', f2, f3, f4⟩ := h1.blk b' s' hb'
      by_cases hbb : b' = b
      · subst hbb
        rw [hbl] at hb'; cases hb'
        exact ⟨f1, _, ty', fz, hset, by simp; omega, fun _ => hfz⟩
      · exact ⟨f1, c', e', fz', (hoth b' hbb).trans f2, f3, fun hh => f4 (hh.resolve_right hbb)⟩
    · by_cases hj : j < len * i.size
      · rw [List.getElem?_append_left (by rw [List.length_take, List.length_drop]; omega)] at hv
        obtain ⟨x, f1, f2⟩ := hu3.get j v hv
        refine ⟨x, ?_, f2.mono hE⟩
        rw [hlow (o + c + j) (by omega)]
        exact hu2 j x f1
      · have hlt : ((r.cs.drop c).take (len * i.size)).length = len * i.size := by rw [List.length_take, List.length_drop]; omega
        rw [List.getElem?_append_right (by omega), hlt] at hv
        obtain ⟨x, f1, f2⟩ := hnv.get _ v hv
        refine ⟨x, ?_, f2.mono hE⟩
        have hjn := (List.getElem?_eq_some_iff.1 f1).1
        rw [hcell, List.getElem?_append_left (by simp; omega), List.getElem?_append_right (by simp; omega), ← f1]
        congr 1
        simp only [List.length_take, Array.length_toList]
        omega
    · by_cases hbb : b' = b
      · subst hbb
        obtain ⟨_, f2⟩ := hal k q' hq' o' hlo'
        have := (List.getElem?_eq_some_iff.1 hv).1
        exact hlow _ (by omega)
      · exact World.cell?_of_block (hoth b' hbb)
    · obtain ⟨f1, f2⟩ := hal k q' hq' o' hlo'
      exact ⟨f1, by rw [hcs, Nat.add_mul]; omega⟩
    · exact .slc _ 0 e _ cap b (o + c) (o + c) (if_pos rfl) hg hcm (fun _ => ⟨rfl, s, i, hbl, hi, by omega⟩) .nil
  · have hfo : (Builtin.firstCells i.size len (.slice (some ⟨b, q, none⟩) len cap)).run P w.drew = .ok us.toArray w.drew := by
      rcases Nat.eq_zero_or_pos len with h0 | h0
      · subst h0
        have : us = [] := List.eq_nil_of_length_eq_zero (by rw [hu1]; simp)
        subst this
        simp [Builtin.firstCells, loadCells, loadCellsFrom]
      · obtain ⟨hq, _⟩ := hroom (by omega)
        subst hq
        refine run_firstCells_some (P := P) w.drew i.size len ⟨b, o + c, none⟩ len cap us hu1 fun j x hx => ?_
        rw [addr_add]
        exact hu2 j x hx
    have hrun := run_app_fresh P w t u ty e i zv d ht hu hd hi hz (some ⟨b, q, none⟩) len cap us nr X m hfo hlX (hfX w.drew fun _ _ => rfl) (by omega) (by omega) (growslice_fits (by omega) hb2)
    have hge := grownCap_ge w (len + m) cap e
    have hcap := grownCap_le_maxLen w (len + m) cap e (by unfold maxLen; omega)
    unfold maxLen at hcap
    have hzc := size_zeroCells zv.cells (grownCap w (len + m) cap e - (len + m))
    have hzl' : zv.cells.size = i.size := by simpa using hzl
    have hasz : (us.toArray ++ nr.toArray ++ Builtin.zeroCells zv.cells (grownCap w (len + m) cap e - (len + m))).size = grownCap w (len + m) cap e * i.size := by
      simp only [Array.size_append, List.size_toArray, hzc, hu1, hnl, hzl']
      rw [← Nat.add_mul, ← Nat.add_mul]
      congr 1
      omega
    have hmul : (len + m) * i.size ≤ grownCap w (len + m) cap e * i.size := Nat.mul_le_mul_right _ hge
    obtain ⟨E', f1, f2, f3, f4, _⟩ := h1.freshT (ty := tt) (w' := w.drew.alloc (.cells (us.toArray ++ nr.toArray ++ Builtin.zeroCells zv.cells (grownCap w (len + m) cap e - (len + m))) e)) (cs := (r.cs.drop c).take (len * i.size) ++ news) (f := r.fam) (l := l) (fz := (0, 0)) hx rfl rfl rfl rfl (.inl rfl) (by rw [hasz, hcs]; exact hmul) (by
      have hul : ((r.cs.drop c).take (len * i.size) ++ news).length = (us ++ nr).length := by rw [hcs, List.length_append, hu1, hnl, Nat.add_mul]
      rw [hul, Array.toList_append, Array.toList_append, List.take_left' (by simp)]
      exact hu3.append hnv) (.inr hl) (htt.imp id And.left)
    refine ⟨_, _, E', hrun, f1, .slc _ 0 e _ _ w.heap.size 0 0 f2 hge (by omega) (fun _ => ⟨rfl, _, i, f3, hi, ?_⟩) .nil, f4⟩
    rw [hasz]; omega
end
end Go.Proofs.YtpinhcdcnaaihaaGreatDoor
