import Derived.Test.YtpinhcdcnaaihaaGreatDoorA03
namespace Go.Proofs.YtpinhcdcnaaihaaGreatDoor
open Go.RowKit
def Ct (f : FuncId) (args : List Tree) (r : Tree) : Prop := (∃ fn, Tryz.prog.funcs[f]? = some fn ∧ (fn.name == "runtime.NumGoroutine") = false ∧ fn.body.isNone = false) ∧ ∀ (G : Nat → Prop) (w : World) (vs : List Value), Env w → (∀ g, G g → g < w.heap.size ∧ NoDigB w g) → PT w G vs args →
  Calls Tryz.prog f vs.toArray w fun e w' => ∃ v, e = .returned v ∧ PT w' G [v] [r] ∧ Below w.heap.size w w'
def zeroTree : Value → Tree
  | .slice none 0 0 => .sl []
  | v => .sc v
theorem zero_pt (W : World) (G : Nat → Prop) : ∀ zs : List Value, PT W G zs (zs.map zeroTree)
  | [] => .nil
  | z :: zs => by
    rw [List.map_cons]
    refine PT.cons ?_ (zero_pt W G zs)
    unfold zeroTree
    split
    · exact nil_pt W G
    · exact .sc _ .nil
def strT (P : Program) (t : TypeId) : Option (List (Nat × Nat) × List Value) :=
  match P.underlying t, P.info? t with
  | some (.struct fs), some i => i.zero.bind fun z => (fs.toList.mapM fun f => (P.info? f.type).map fun i => (f.offset, i.size)).map fun pl => (pl, z.cells.toList)
  | _, _ => none
def zerT (P : Program) (e : TypeId) : Option (List Value) := (P.info? e).bind fun i => i.zero.map fun z => z.cells.toList
theorem run_places {P : Program} {w : World} : ∀ {l : List Field} {pl : List (Nat × Nat)}, (l.mapM fun f => (P.info? f.type).map fun i => (f.offset, i.size)) = some pl → (l.mapM (m := Sem) fun f => do pure (f.offset, ← sizeOf f.type)).run P w = .ok pl w
  | [], pl, h => by
    simp at h
    subst h
    rfl
  | f :: l, pl, h => by
    simp only [List.mapM_cons, Option.bind_eq_bind, Option.bind_eq_some_iff, Option.map_eq_some_iff, Option.pure_def, Option.some.injEq] at h
    obtain ⟨_, ⟨i, hi, rfl⟩, ps, hp, rfl⟩ := h
    simp [List.mapM_cons, sizeOf, typeInfo, hi]
    have := run_places (P := P) (w := w) hp
    simp [sizeOf, typeInfo] at this
    simp [this]
section
variable {S : St} {o : Oper}
theorem parts_ft {E : En} {T : Nat → Value} {op : Op} (hT : ∀ s, (opSlots op).contains s = true → FT E [T s] [S.get s]) : ∀ (ps : List (Nat × Operand)), (∀ p ∈ ps, p.2 ∈ op.operands.toList) → FT E ((ps.map fun p => (p.1, evT T p.2)).map (·.2)) ((ps.map fun p => (p.1, S.ev p.2)).map (·.2))
  | [], _ => .nil
  | p :: ps, h => FT.cons (ev_ft hT (h p (List.mem_cons_self ..))) (parts_ft hT ps fun q hq => h q (List.mem_cons_of_mem _ hq))
theorem ok_build {t : TypeId} {parts : Array (Nat × Operand)} {pl : List (Nat × Nat)} {zs : List Value} {qs : List (Nat × Tree)} {rs : List Tree} (ho : o.op = .build t parts) (hl : strT Tryz.prog t = some (pl, zs)) (hq : parts.toList.map (fun p => (p.1, S.ev p.2)) = qs) (hone : (qs.all fun q => q.2.oneA) = true) (hr : fillT (pl[·]?) (zs.map zeroTree) qs = some rs) : OpOK o S (.agg rs) := by
  intro w0 G0 bx rv w T hm hT
  have hf := parts_ft (S := S) hT parts.toList (fun p hp => by rw [ho]; simp only [Op.operands, List.mem_map]; exact ⟨p, hp, rfl⟩)
  unfold strT at hl
  split at hl
  · next fs i hu hi =>
    cases hz : i.zero with
    | none => simp [hz] at hl
    | some z =>
      simp only [hz, Option.bind_some, Option.map_eq_some_iff, Prod.mk.injEq] at hl
      obtain ⟨pl', hpl, rfl, rfl⟩ := hl
      have hrp := run_places (w := w) hpl
      rw [hq] at hf
      obtain ⟨us, h1, h2⟩ := fill_ft (E := en w G0 bx rv S.rs) (place := (pl'[·]?)) (ps := parts.toList.map fun p => (p.1, evT T p.2)) (qs := qs) (cells := z.cells) (ts := z.cells.toList.map zeroTree) (by rw [← hq]; simp) hf hone (.of (zero_pt _ _ _)) hr
      refine OpRuns.of_ok (v := .agg us) (W' := w) ?_ ⟨?_, Below.refl _ _⟩
      · have hmm : (fs.mapM (m := Sem) fun f => do pure (f.offset, ← sizeOf f.type)).run Tryz.prog w = .ok pl'.toArray w := by
          rw [Array.mapM_eq_mapM_toList, Sem.run_map, hrp]
          rfl
        have h1' : Instr.fill (fun x => pl'.toArray[x]?) z.cells (parts.map fun p => (p.1, evT T p.2)).toList = some us := by
          rw [← h1]
          simp
        have hz' : (zeroValue t).run Tryz.prog w = .ok z w := by simp [zeroValue, typeInfo, hi, hz]
        have hrun : (Instr.build t (parts.map fun p => (p.1, evT T p.2))).run Tryz.prog w = .ok (.agg us) w := by
          unfold Instr.build
          rw [Sem.run_bind, hz', Result.andThen_ok, Sem.run_bind, run_underlying hu, Result.andThen_ok]
          simp only
          rw [Sem.run_bind, hmm, Result.andThen_ok]
          simp only [h1']
          rfl
        simp [execOp, ho, hrun]
      · have : FT (en w G0 bx rv S.rs) [.agg us.toList.toArray] [.agg rs] := .agg _ _ h2 .nil
        simpa using this
  · cases hl
theorem gg_new {w0 w : World} {G0 : Bse} {bs : List (TypeId × List Tree)} {rs : List (Option Row)} {bx : List Nat} {rv : List Value} (hm : Mem w0 G0 bs rs bx rv w) (b : Nat) (hb : w.heap.size ≤ b) : ¬ GG G0 bx rv rs b := fun h => by
  have := (hm.ok b h).1
  omega
theorem ok_buildSlice {t e : TypeId} {len m : Nat} {parts : Array (Nat × Operand)} {zs : List Value} {qs : List (Nat × Tree)} {es : List Tree} (ho : o.op = .buildSlice t len parts) (ht : elmT Tryz.prog t = some (e, m)) (hz : zerT Tryz.prog e = some zs) (hzl : zs.length = m) (h0 : 0 < len * m) (h24 : len * m ≤ 16777216)
    (hq : parts.toList.map (fun p => (p.1, S.ev p.2)) = qs) (hone : (qs.all fun q => q.2.oneA) = true) (hpl : (flat es).all Tree.plain0 = true) (hr : fillT (fun i => some (i * m, m)) (((List.range (len * m)).map fun i => zs[i % m]!).map zeroTree) qs = some (flat es)) (hl : es.length = len) : OpOK o S (.sl es) := by
  intro w0 G0 bx rv w T hm hT
  have hf := parts_ft (S := S) hT parts.toList (fun p hp => by rw [ho]; simp only [Op.operands, List.mem_map]; exact ⟨p, hp, rfl⟩)
  obtain ⟨hu, i, hi, rfl⟩ := elmT_of ht
  unfold zerT at hz
  simp only [hi, Option.bind_some, Option.map_eq_some_iff] at hz
  obtain ⟨z, hz, rfl⟩ := hz
  rw [hq] at hf
  have hzs : z.cells.size = i.size := by simpa using hzl
  have hcells : ((Array.range (len * i.size)).map fun x => z.cells[x % z.cells.size]!).toList = (List.range (len * i.size)).map fun x => z.cells.toList[x % i.size]! := by
    rw [hzs]
    simp only [Array.toList_map, Array.toList_range]
    refine List.map_congr_left fun a _ => ?_
    rw [Array.getElem!_eq_getD, Array.getD_eq_getD_getElem?, List.getElem!_eq_getElem?_getD, Array.getElem?_toList]
  obtain ⟨us, h1, h2⟩ := fill_ft (E := en w G0 bx rv S.rs) (place := fun x => some (x * i.size, i.size)) (ps := parts.toList.map fun p => (p.1, evT T p.2)) (qs := qs) (cells := (Array.range (len * i.size)).map fun x => z.cells[x % z.cells.size]!) (ts := ((List.range (len * i.size)).map fun x => z.cells.toList[x % i.size]!).map zeroTree) (by rw [← hq]; simp) hf hone (.of (by rw [hcells]; exact zero_pt _ _ _)) hr
  have hrun : (Instr.buildSlice t len (parts.map fun p => (p.1, evT T p.2))).run Tryz.prog w = .ok (.slice (some ⟨w.heap.size, 0, none⟩) len len) (w.alloc (.cells us e)) := by
    have hz' : (zeroValue e).run Tryz.prog w = .ok z w := by simp [zeroValue, typeInfo, hi, hz]
    have hs' : (sizeOf e).run Tryz.prog w = .ok i.size w := by simp [sizeOf, typeInfo, hi]
    have h1' : Instr.fill (fun x => some (x * i.size, i.size)) ((Array.range (len * i.size)).map fun x => z.cells[x % z.cells.size]!) (parts.map fun p => (p.1, evT T p.2)).toList = some us := by
      rw [← h1]; simp
    have e1 : ¬ 2 ^ 24 < len * i.size := by omega
    have e2 : ¬ len * i.size = 0 := by omega
    simp only [Instr.buildSlice, Sem.run_bind, run_underlying hu, Result.andThen_ok, hs', gt_iff_lt, if_neg e1, if_neg e2, hz', Sem.run_pure, h1', newRow, newObj]
    rfl
  have hlen : us.size = (flat es).length := by have := h2.length; simpa using this
  have hbk := IsBlk.made w e us
  have hmx : len ≤ 9223372036854775807 := by
    have h5 : 0 < i.size := Nat.pos_of_ne_zero fun h => by rw [h] at h0; omega
    have := Nat.le_mul_of_pos_right len h5
    omega
  have hb1 : Below w.heap.size w (w.alloc (.cells us e)) := (Below.refl _ _).alloc (Nat.le_refl _) _
  refine OpRuns.of_ok (v := .slice (some ⟨w.heap.size, 0, none⟩) len len) (W' := w.alloc (.cells us e)) (by simp [execOp, ho, hrun]) ⟨.pure (.sl w.heap.size 0 len len us.toList es (by simp [en]) (gg_new hm _ (Nat.le_refl _)) (fun j u hu => ?_) hl.symm (by omega) hmx ?_ .nil) .nil, hb1⟩
  · rw [Nat.zero_add]
    show (w.alloc (.cells us e)).cell? _ = _
    rw [hbk.cell]
    simpa using hu
  · have h3 : PT w (GG G0 bx rv S.rs) us.toList (flat es) := h2.plain0s hpl
    exact h3.later hb1
theorem args_ft {E : En} {T : Nat → Value} {op : Op} (hT : ∀ s, (opSlots op).contains s = true → FT E [T s] [S.get s]) : ∀ (xs : List Operand), (∀ x ∈ xs, x ∈ op.operands.toList) → FT E (xs.map (evT T)) (xs.map S.ev)
  | [], _ => .nil
  | x :: xs, h => FT.cons (ev_ft hT (h x (List.mem_cons_self ..))) (args_ft hT xs fun q hq => h q (List.mem_cons_of_mem _ hq))
theorem ok_call {f : FuncId} {xs : Array Operand} {ats : Array TypeId} {ts : List Tree} {r : Tree} (ho : o.op = .call { callee := .value (.func f), args := xs, argTypes := ats }) (hc : Ct f ts r) (ht : xs.toList.map S.ev = ts) (hp : ts.all Tree.plain = true) : OpOK o S r := by
  intro w0 G0 bx rv w T hm hT
  have hf := args_ft (S := S) hT xs.toList (fun x hx => by rw [ho]; simp only [Op.operands, Call.operands]; simp; exact .inr (by simpa using hx))
  rw [ht] at hf
  obtain ⟨⟨fn, h1, h2, h3⟩, hc⟩ := hc
  have hcc := hc (GG G0 bx rv S.rs) w _ hm.env hm.ok (hf.plains hp)
  refine OpRuns.of_call (f := f) (args := (xs.toList.map (evT T)).toArray) ?_ (hcc.mono ?_)
  · have e1 : ¬ fn.name = "runtime.NumGoroutine" := by simpa using h2
    have e2 : ¬ fn.body = none := fun e => by rw [e] at h3; cases h3
    have e3 : (xs.toList.map (evT T)).toArray = xs.map (evT T) := Array.ext' (by simp)
    rw [e3]
    simp [execOp, ho, resolve, evT, Deferred.ofValue, invoke, callFunc, h1, e1, e2]
  · rintro e w' ⟨v, rfl, hv, hb⟩
    exact ⟨v, rfl, .pure hv .nil, hb⟩
def bytesT (l : List UInt8) : List Tree := l.map fun c => .sc (.int .u8 c.toNat)
theorem flat_bytes : ∀ l, flat (bytesT l) = bytesT l
  | [] => rfl
  | c :: l => by
    have := flat_bytes l
    simp only [bytesT, List.map_cons, flat_cons, Tree.cells] at this ⊢
    rw [this]; rfl
theorem bytes_sized (l : List UInt8) : Sized 1 (bytesT l) := Sized.map _ l fun _ => rfl
theorem bytes_length (l : List UInt8) : (bytesT l).length = l.length := by simp [bytesT]
end
end Go.Proofs.YtpinhcdcnaaihaaGreatDoor
namespace Go.Proofs.YtpinhcdcnaaihaaGreatDoor
open Go.RowKit
def Tree.noDig : Tree → Bool
  | .sc v => noDigV v
  | .sl _ | .tl _ | .ref _ | .box _ _ | .own _ | .elp _ _ => true
  | _ => false
theorem FT.noDig {E : En} {v : Value} {t : Tree} (h : FT E [v] [t]) (ho : t.noDig = true) : noDigV v = true := by
  cases h with
  | pure h _ =>
    cases h with
    | sc => exact ho
    | sl0 => rfl
    | sl => rfl
    | tl => rfl
    | agg => simp [Tree.noDig] at ho
    | tup => simp [Tree.noDig] at ho
    | ref => rfl
  | any => simp [Tree.noDig] at ho
  | box => rfl
  | own => rfl
  | elp => rfl
  | agg => simp [Tree.noDig] at ho
  | tup => simp [Tree.noDig] at ho
theorem FT.noDigs {E : En} : ∀ {us : List Value} {ts : List Tree}, FT E us ts → ts.all Tree.noDig = true → us.all noDigV = true
  | [], [], _, _ => rfl
  | [], _ :: _, h, _ => by cases h
  | _ :: _, [], h, _ => by cases h
  | x :: us, t :: ts, h, hp => by
    simp only [List.all_cons, Bool.and_eq_true] at hp ⊢
    exact ⟨h.head.noDig hp.1, FT.noDigs h.tail hp.2⟩
section
variable {w0 w w' : World} {G0 : Bse} {bs : List (TypeId × List Tree)} {rs : List (Option Row)} {bx : List Nat} {rv : List Value}
theorem blocks_snoc (g : Nat) : ∀ b, b ∈ blocks (bx ++ [g]) rv rs ↔ b ∈ blocks bx rv rs ∨ b = g := fun b => by
  simp only [blocks, List.mem_append, List.mem_singleton]
  constructor
  · rintro ((h | h) | h)
    · exact .inl (.inl h)
    · exact .inr h
    · exact .inl (.inr h)
  · rintro ((h | h) | h)
    · exact .inl (.inl h)
    · exact .inr h
    · exact .inl (.inr h)
theorem Apart.addBox (g : Nat) (h : Apart bx rv rs) (hg : g ∉ blocks bx rv rs) : Apart (bx ++ [g]) rv rs := by
  refine ⟨?_, fun k v R b h1 h2 h3 hm => ?_, h.rr⟩
  · rw [List.nodup_append]
    exact ⟨h.bb, by simp, fun a ha b hb e => by
      rw [List.mem_singleton] at hb
      subst hb e
      exact hg (mem_blocks.2 (.inl ha))⟩
  · rcases List.mem_append.1 hm with h4 | h4
    · exact h.br k v R b h1 h2 h3 h4
    · rw [List.mem_singleton] at h4
      subst h4
      exact hg (mem_blocks.2 (.inr ⟨k, v, R, h1, h2, h3⟩))
theorem ft_addBox (ob : Obj) {us : List Value} {ts : List Tree} (hf : FT (en w G0 bx rv rs) us ts) : FT (en (w.alloc ob) G0 (bx ++ [w.heap.size]) rv rs) us ts := by
  refine hf.mono (by simp [en]) (fun b hb hG => ⟨Below.heap_alloc w ob b hb, ?_⟩) (fun i g hi => ?_) (fun _ _ h => h)
  · rintro (h1 | h1)
    · exact hG (.inl h1)
    · rcases (blocks_snoc (rv := rv) (rs := rs) _ b).1 h1 with h2 | h2
      · exact hG (.inr h2)
      · simp only [en] at hb; omega
  · show (bx ++ [w.heap.size])[i]? = some g
    have hi : bx[i]? = some g := hi
    rw [List.getElem?_append_left (List.getElem?_eq_some_iff.1 hi).1]
    exact hi
theorem pt_addBox (ob : Obj) {us : List Value} {ts : List Tree} (hf : PT w (GG G0 bx rv rs) us ts) : PT (w.alloc ob) (GG G0 (bx ++ [w.heap.size]) rv rs) us ts := by
  refine hf.mono (by simp) (fun b hb hG => ⟨Below.heap_alloc w ob b hb, ?_⟩)
  rintro (h1 | h1)
  · exact hG (.inl h1)
  · rcases (blocks_snoc (rv := rv) (rs := rs) _ b).1 h1 with h2 | h2
    · exact hG (.inr h2)
    · omega
theorem Mem.addBox (h : Mem w0 G0 bs rs bx rv w) {us : List Value} {cs : List Tree} {ty : TypeId} (hf : FT (en w G0 bx rv rs) us cs) (hd : us.all noDigV = true) :
    Mem w0 G0 (bs ++ [(ty, cs)]) rs (bx ++ [w.heap.size]) rv (w.alloc (.cells us.toArray ty)) := by
  have hb1 : Below w.heap.size w (w.alloc (.cells us.toArray ty)) := (Below.refl _ _).alloc (Nat.le_refl _) _
  refine ⟨h.below.then hb1, h.env0, h.g0, by simp [h.nb], h.nr, fun i g hi => ?_, fun k v R hv hR => ?_, h.nodup.addBox _ fun hm => ?_, fun b hb => ?_, fun i hi => by have := h.pin i hi; rw [List.getElem?_append_left (List.getElem?_eq_some_iff.1 this).1]; exact this⟩
  · by_cases hlt : i < bx.length
    · rw [List.getElem?_append_left hlt] at hi
      obtain ⟨ty', cs', us', h1, h2, h3, h4⟩ := h.box i g hi
      exact ⟨ty', cs', us', by rw [List.getElem?_append_left (by rw [← h.nb]; exact hlt)]; exact h1, h2.below hb1 h2.lt, ft_addBox _ h3, h4⟩
    · have hlen := (List.getElem?_eq_some_iff.1 hi).1
      simp only [List.length_append, List.length_singleton] at hlen
      obtain rfl : i = bx.length := by omega
      rw [List.getElem?_append_right (Nat.le_refl _), Nat.sub_self] at hi
      simp only [List.getElem?_cons_zero, Option.some.injEq] at hi
      subst hi
      exact ⟨ty, cs, us, by rw [h.nb, List.getElem?_append_right (Nat.le_refl _), Nat.sub_self]; rfl, IsBlk.made _ _ _, ft_addBox _ hf, hd⟩
  · obtain ⟨xs, h1, h2, h3, h4⟩ := h.row k v R hv hR
    exact ⟨xs, own_below h1 hb1, pt_addBox _ h2, h3, fun g hg => (h4 g hg).of (hb1.block g (h1.lt g hg).2)⟩
  · have := (h.ok _ (.inr hm)).1
    omega
  · rcases (blocks_snoc (rv := rv) (rs := rs) _ b).1 hb with h1 | h1
    · exact h.ge b h1
    · have := h.below.size; exact .inl (by omega)
theorem ft_write {g : Nat} (hg : g ∈ blocks bx rv rs) (hw : w.grownBy w' (some g)) {us : List Value} {ts : List Tree} (hf : FT (en w G0 bx rv rs) us ts) : FT (en w' G0 bx rv rs) us ts :=
  hf.mono hw.size (fun b hb hG => ⟨hw.block b hb fun e => hG (by injection e with e; subst e; exact .inr hg), hG⟩) (fun _ _ h => h) (fun _ _ h => h)
theorem pt_write {g : Nat} (hg : g ∈ blocks bx rv rs) (hw : w.grownBy w' (some g)) {us : List Value} {ts : List Tree} (hf : PT w (GG G0 bx rv rs) us ts) : PT w' (GG G0 bx rv rs) us ts :=
  hf.mono hw.size (fun b hb hG => ⟨hw.block b hb fun e => hG (by injection e with e; subst e; exact .inr hg), hG⟩)
theorem Mem.setBox (h : Mem w0 G0 bs rs bx rv w) {b g : Nat} {ty : TypeId} {us : List Value} {cs : List Tree} (hb : bx[b]? = some g) (hw : w.grownBy w' (some g)) (hbk : IsBlk w' g ty us.toArray) (hf : FT (en w' G0 bx rv rs) us cs) (hd : us.all noDigV = true) : Mem w0 G0 (bs.set b (ty, cs)) rs bx rv w' := by
  have hgm : g ∈ blocks bx rv rs := mem_blocks.2 (.inl (List.mem_of_getElem? hb))
  have hbl := (List.getElem?_eq_some_iff.1 hb).1
  refine ⟨h.below.grown hw (fun k e => by injection e with e; subst e; exact h.ge _ hgm), h.env0, h.g0, by simp [h.nb], h.nr, fun i g' hi => ?_, fun k v R hv hR => ?_, h.nodup, h.ge, h.pin⟩
  · by_cases hib : i = b
    · subst hib
      rw [hb] at hi
      cases hi
      exact ⟨ty, cs, us, by rw [List.getElem?_set_self (by rw [← h.nb]; exact hbl)], hbk, hf, hd⟩
    · obtain ⟨ty', cs', us', h1, h2, h3, h4⟩ := h.box i g' hi
      have hne : g' ≠ g := fun e => by
        subst e
        have hnd := h.nodup.bb
        obtain ⟨l1, e1⟩ := List.getElem?_eq_some_iff.1 hi
        obtain ⟨l2, e2⟩ := List.getElem?_eq_some_iff.1 hb
        have hpw := List.pairwise_iff_getElem.1 hnd
        rcases Nat.lt_trichotomy i b with hc | hc | hc
        · exact hpw i b l1 l2 hc (e1.trans e2.symm)
        · exact hib hc
        · exact hpw b i l2 l1 hc (e2.trans e1.symm)
      exact ⟨ty', cs', us', by rw [List.getElem?_set_ne (fun e => hib e.symm)]; exact h1, (hw.block g' h2.lt fun e => hne (by injection e)).trans h2, ft_write hgm hw h3, h4⟩
  · obtain ⟨xs, h1, h2, h3, h4⟩ := h.row k v R hv hR
    have hne : v.ownBlock ≠ some g := fun e => h.nodup.br k v R g hv hR e (List.mem_of_getElem? hb)
    refine ⟨xs, h1.kept hw (.inr hne), pt_write hgm hw h2, h3, fun g' hg' => (h4 g' hg').of (hw.block g' (h1.lt g' hg').2 fun e => hne (by rw [hg']; injection e with e; rw [e]))⟩
end
def OpDo (w0 : World) (G0 : Bse) (o : Oper) (S S' : St) : Prop := ∀ a w, Sim w0 G0 S a w → OpRuns Tryz.prog o (fun s => a.tmps.getD s undef) w fun v w' => Sim w0 G0 S' (a.put o.dst v) w'
section
variable {w0 : World} {G0 : Bse} {ops : Array Oper} {rest : List Oper} {Q : Exit → St → Prop} {S S' : St} {o : Oper}
theorem AOps.turn (hg : o.guard = none) (h : OpDo w0 G0 o S S') (k : AOps w0 G0 ops rest Q S') : AOps w0 G0 ops (o :: rest) Q S := by
  intro a w hs
  refine wpList_wanted (by simp [Region.wanted, hg]) fun K hK => ?_
  refine Oper.wp_mono ?_ ((h a w hs).wp (Q := lift w0 G0 Q))
  rintro a' w' ⟨v, rfl, hv⟩
  exact hK _ _ (k _ _ hv)
theorem do_box {ty : TypeId} {x : Operand} {t : Tree} (ho : o.op = .box ty x) (hd : dstOk S.n o.dst = true) (ht : S.ev x = t) (h1 : t.oneA = true) (hn : t.cells.all Tree.noDig = true) : OpDo w0 G0 o S ({ S with bs := S.bs ++ [(ty, t.cells)] }.put o.dst (.box S.bs.length 0)) := by
  rintro a w ⟨bx, rv, hm, hsz, hdf, hsl⟩
  have hv := ev_ft' (op := o.op) (T := fun s => a.tmps.getD s undef) (S := S) (fun s _ => hsl s) ht (by rw [ho]; simp [Op.operands])
  have hc := cells_ft hv h1
  have hmm := hm.addBox (ty := ty) hc (hc.noDigs hn)
  refine OpRuns.of_ok (v := .pointer (some ⟨w.heap.size, 0, none⟩)) (W' := w.alloc (.cells (evT (fun s => a.tmps.getD s undef) x).cells ty)) ?_ ⟨bx ++ [w.heap.size], rv, ?_, by rw [put_size, St.put_n, hsz], by rw [put_defers, hdf], ?_⟩
  · simp [execOp, ho, Instr.box, newVar, newRow, newObj, Sem.run]
  · rw [St.put_bs, St.put_rs]
    simpa using hmm
  · rw [St.put_rs]
    have hput : ∀ i, FT (en (w.alloc (.cells (evT (fun s => a.tmps.getD s undef) x).cells ty)) G0 (bx ++ [w.heap.size]) rv S.rs) [a.tmps.getD i undef] [S.get i] := fun i => ft_addBox _ (hsl i)
    intro i
    rw [put_getD a o.dst _ S.n hsz hd, St.put_get]
    split
    · exact .box _ _ _ (by show (bx ++ [w.heap.size])[S.bs.length]? = _; rw [← hm.nb]; simp) .nil
    · exact hput i
end
end Go.Proofs.YtpinhcdcnaaihaaGreatDoor
namespace Go.Proofs.YtpinhcdcnaaihaaGreatDoor
open Go.RowKit
section
variable {w0 : World} {G0 : Bse} {S : St} {o : Oper}
theorem do_alloc {ty : TypeId} {zs : List Value} (ho : o.op = .alloc ty) (hd : dstOk S.n o.dst = true) (hz : zerT Tryz.prog ty = some zs) (hn : zs.all noDigV = true) : OpDo w0 G0 o S ({ S with bs := S.bs ++ [(ty, zs.map zeroTree)] }.put o.dst (.box S.bs.length 0)) := by
  rintro a w ⟨bx, rv, hm, hsz, hdf, hsl⟩
  unfold zerT at hz
  simp only [Option.bind_eq_some_iff, Option.map_eq_some_iff] at hz
  obtain ⟨i, hi, z, hz, rfl⟩ := hz
  have hmm := hm.addBox (ty := ty) (us := z.cells.toList) (cs := z.cells.toList.map zeroTree) (.of (zero_pt _ _ _)) hn
  refine OpRuns.of_ok (v := .pointer (some ⟨w.heap.size, 0, none⟩)) (W' := w.alloc (.cells z.cells ty)) ?_ ⟨bx ++ [w.heap.size], rv, ?_, by rw [put_size, St.put_n, hsz], by rw [put_defers, hdf], ?_⟩
  · have hz' : (zeroValue ty).run Tryz.prog w = .ok z w := by simp [zeroValue, typeInfo, hi, hz]
    simp [execOp, ho, Instr.alloc, newVar, newRow, newObj, Sem.run, hz']
  · rw [St.put_bs, St.put_rs]
    simpa using hmm
  · rw [St.put_rs]
    intro i
    rw [put_getD a o.dst _ S.n hsz hd, St.put_get]
    split
    · exact .box _ _ _ (by show (bx ++ [w.heap.size])[S.bs.length]? = _; rw [← hm.nb]; simp) .nil
    · exact ft_addBox _ (hsl i)
theorem run_store_row {P : Program} {w : World} {g off : Nat} {ty t : TypeId} {cur : List Value} {v : Value} (hg : w.heap[g]? = some (.cells cur.toArray t (0, 0))) (hi : (P.info? ty).map (·.size) = some v.cells.size) (hle : off + v.cells.size ≤ cur.length) (h1 : ∀ u ∈ v.cells.toList, u.oneCell' = true) :
    (Instr.storeAt ty (.pointer (some ⟨g, off, none⟩)) v).run P w = .ok () (w.setRow g (cur.take off ++ v.cells.toList ++ cur.drop (off + v.cells.size)).toArray) := by
  have hst := run_storeCells_at P g off t v.cells.toList 0 cur.toArray w hg (by simpa using hle) h1
  simp only [Nat.add_zero, Array.length_toList] at hst
  cases hq : P.info? ty with
  | none => simp [hq] at hi
  | some i =>
    have hs : v.cells.size = i.size := by simp [hq] at hi; omega
    simp [Instr.storeAt, Instr.sureAddr, storeVar, sizeOf, typeInfo, hq, hs] at hst ⊢
    rw [← hs] at hst ⊢
    exact hst
theorem grown_setRow (w : World) (g : Nat) (cs : Array Value) : w.grownBy (w.setRow g cs) (some g) := ⟨rfl, rfl, rfl, by simp [World.setRow], fun k _ hk => setRow_other w g k cs (fun e => hk (by rw [e]))⟩
def putC (cs : List Tree) (off : Nat) (t : Tree) : List Tree := cs.take off ++ t.cells ++ cs.drop (off + t.cells.length)
theorem all_putV {us vs : List Value} {off n : Nat} (h : us.all noDigV = true) (h' : vs.all noDigV = true) : (us.take off ++ vs ++ us.drop n).all noDigV = true := by
  simp only [List.all_append, Bool.and_eq_true]
  exact ⟨⟨List.all_eq_true.2 fun x hx => List.all_eq_true.1 h x (List.mem_of_mem_take hx), h'⟩, List.all_eq_true.2 fun x hx => List.all_eq_true.1 h x (List.mem_of_mem_drop hx)⟩
theorem do_store_box {ty bt : TypeId} {x y : Operand} {b off : Nat} {cs : List Tree} {t : Tree} {n : Nat} (ho : o.op = .store ty x y) (hdst : o.dst = none) (hx : S.ev x = .box b off) (hb : S.bs[b]? = some (bt, cs)) (ht : S.ev y = t) (h1 : t.oneA = true) (h2 : t.cells.all Tree.one = true) (hn : t.cells.all Tree.noDig = true) (hs : (Tryz.prog.info? ty).map (·.size) = some n) (hl : t.cells.length = n) (hle : off + n ≤ cs.length) : OpDo w0 G0 o S { S with bs := S.bs.set b (bt, putC cs off t) } := by
  rintro a w ⟨bx, rv, hm, hsz, hdf, hsl⟩
  have hv := ev_ft' (op := o.op) (T := fun s => a.tmps.getD s undef) (S := S) (fun s _ => hsl s) ht (by rw [ho]; simp [Op.operands])
  have hp := ev_ft' (op := o.op) (T := fun s => a.tmps.getD s undef) (S := S) (fun s _ => hsl s) hx (by rw [ho]; simp [Op.operands])
  generalize (fun s => a.tmps.getD s undef) = T at hv hp ⊢
  obtain ⟨g, us, hbx, e1, hbk, hf, hd⟩ := box_of hm hb hp
  have hc := cells_ft hv h1
  have hcl := hc.length
  rw [Array.length_toList] at hcl
  have hfl := hf.length
  have hrun := run_store_row (P := Tryz.prog) (w := w) (g := g) (off := off) (ty := ty) (t := bt) (cur := us) (v := evT T y) hbk (by rw [hs, hcl, hl]) (by rw [hcl, hl, hfl]; exact hle) (hc.ones h2)
  have hgm : g ∈ blocks bx rv S.rs := mem_blocks.2 (.inl (List.mem_of_getElem? hbx))
  have hgr := grown_setRow w g (us.take off ++ (evT T y).cells.toList ++ us.drop (off + (evT T y).cells.size)).toArray
  refine OpRuns.of_skip (W' := w.setRow g (us.take off ++ (evT T y).cells.toList ++ us.drop (off + (evT T y).cells.size)).toArray) (by simp only [execOp, ho, e1, Sem.run_bind, hrun, Result.andThen_ok]; rfl) ⟨bx, rv, ?_, by rw [put_size]; exact hsz, by rw [put_defers, hdf], ?_⟩
  · refine hm.setBox (ty := bt) hbx hgr (setRow_heap w g us.toArray _ bt (0, 0) hbk) ?_ (all_putV hd (hc.noDigs hn))
    unfold putC
    rw [← hcl]
    exact ft_write hgm hgr (((hf.take off).append hc).append (hf.drop _))
  · intro i
    rw [hdst]
    exact ft_write hgm hgr (hsl i)
def killT0 (k : Nat) : Tree → Tree
  | .own j => if j = k then .any else .own j
  | .elp j off => if j = k then .any else .elp j off
  | .agg _ => .any
  | .tup _ => .any
  | t => t
def killT (k : Nat) : Tree → Tree
  | .agg cs => .agg (cs.map (killT0 k))
  | t => killT0 k t
theorem FT.kill0 {E E' : En} {k : Nat} {v : Value} {t : Tree} (h : FT E [v] [t]) (hs : E.W.heap.size ≤ E'.W.heap.size) (hk : ∀ b, b < E.W.heap.size → ¬ E.G b → E'.W.heap[b]? = E.W.heap[b]? ∧ ¬ E'.G b) (hb : ∀ b g, E.bx b = some g → E'.bx b = some g) (hr : ∀ j v, j ≠ k → E.rv j = some v → E'.rv j = some v) : FT E' [v] [killT0 k t] := by
  cases h with
  | pure h _ =>
    cases t <;> first
      | exact .pure (h.mono hs hk) .nil
      | (simp only [killT0]; exact .any _ .nil)
      | (cases h)
  | any => exact .any _ .nil
  | box b off g h _ => exact .box b off g (hb b g h) .nil
  | own j n c A hv _ =>
    simp only [killT0]
    split
    · exact .any _ .nil
    · exact .own j n c A (hr j _ (by assumption) hv) .nil
  | elp j off g n c hv _ =>
    simp only [killT0]
    split
    · exact .any _ .nil
    · exact .elp j off g n c (hr j _ (by assumption) hv) .nil
  | agg => exact .any _ .nil
  | tup => exact .any _ .nil
theorem FT.kill0s {E E' : En} {k : Nat} (hs : E.W.heap.size ≤ E'.W.heap.size) (hk : ∀ b, b < E.W.heap.size → ¬ E.G b → E'.W.heap[b]? = E.W.heap[b]? ∧ ¬ E'.G b) (hb : ∀ b g, E.bx b = some g → E'.bx b = some g) (hr : ∀ j v, j ≠ k → E.rv j = some v → E'.rv j = some v) : ∀ {us : List Value} {ts : List Tree}, FT E us ts → FT E' us (ts.map (killT0 k))
  | [], [], _ => .nil
  | [], _ :: _, h => by cases h
  | _ :: _, [], h => by cases h
  | u :: us, t :: ts, h => FT.cons (h.head.kill0 hs hk hb hr) (FT.kill0s hs hk hb hr h.tail)
theorem FT.kill {E E' : En} {k : Nat} {v : Value} {t : Tree} (h : FT E [v] [t]) (hs : E.W.heap.size ≤ E'.W.heap.size) (hk : ∀ b, b < E.W.heap.size → ¬ E.G b → E'.W.heap[b]? = E.W.heap[b]? ∧ ¬ E'.G b) (hb : ∀ b g, E.bx b = some g → E'.bx b = some g) (hr : ∀ j v, j ≠ k → E.rv j = some v → E'.rv j = some v) : FT E' [v] [killT k t] := by
  cases t with
  | agg cs =>
    obtain ⟨xs, rfl, hx⟩ := h.isAgg
    exact .agg xs _ (FT.kill0s hs hk hb hr hx) .nil
  | _ => exact h.kill0 hs hk hb hr
def St.kill (S : St) (k : Nat) : St := { S with sl := S.sl.map fun p => (p.1, killT k p.2), bs := S.bs.map fun p => (p.1, p.2.map (killT0 k)) }
theorem look_map (f : Tree → Tree) (hf : f .any = .any) : ∀ (l : List (Nat × Tree)) (i : Nat), look (l.map fun p => (p.1, f p.2)) i = f (look l i)
  | [], i => hf.symm
  | (j, t) :: l, i => by
    simp only [List.map_cons, look_cons]
    split
    · rfl
    · exact look_map f hf l i
theorem St.kill_get (S : St) (k i : Nat) : (S.kill k).get i = killT k (S.get i) := look_map (killT k) rfl S.sl i
section
variable {w w' : World} {bs : List (TypeId × List Tree)} {rs : List (Option Row)} {bx : List Nat} {rv : List Value} {k : Nat} {v v' : Value} {R R' : Row}
theorem row_get (hk : k < rv.length) (j : Nat) (u : Value) (X : Row) : (rv.set k v')[j]? = some u → (rs.set k (some R'))[j]? = some (some X) → (j = k ∧ u = v' ∧ X = R') ∨ (j ≠ k ∧ rv[j]? = some u ∧ rs[j]? = some (some X)) := fun h1 h2 => by
  by_cases hj : j = k
  · subst hj
    left
    have hl := (List.getElem?_eq_some_iff.1 h2).1
    rw [List.length_set] at hl
    rw [List.getElem?_set_self hk] at h1
    rw [List.getElem?_set_self hl] at h2
    cases h1
    cases h2
    exact ⟨rfl, rfl, rfl⟩
  · right
    rw [List.getElem?_set_ne (fun e => hj e.symm)] at h1 h2
    exact ⟨hj, h1, h2⟩
theorem gg_row (hv : rv[k]? = some v) (hR : rs[k]? = some (some R)) (hbk : ∀ g, v'.ownBlock = some g → v.ownBlock = some g ∨ w.heap.size ≤ g) {b : Nat} (hb : b < w.heap.size) (h : GG G0 bx (rv.set k v') (rs.set k (some R')) b) : GG G0 bx rv rs b := by
  rcases h with h | h
  · exact .inl h
  · refine .inr (mem_blocks.2 ?_)
    rcases mem_blocks.1 h with h1 | ⟨j, u, X, h1, h2, h3⟩
    · exact .inl h1
    · rcases row_get (List.getElem?_eq_some_iff.1 hv).1 j u X h1 h2 with ⟨rfl, rfl, rfl⟩ | ⟨_, h4, h5⟩
      · rcases hbk b h3 with h6 | h6
        · exact .inr ⟨j, v, R, hv, hR, h6⟩
        · omega
      · exact .inr ⟨j, u, X, h4, h5, h3⟩
theorem mono_row (hv : rv[k]? = some v) (hR : rs[k]? = some (some R)) (hw : w.grownBy w' v.ownBlock) (hbk : ∀ g, v'.ownBlock = some g → v.ownBlock = some g ∨ w.heap.size ≤ g) : ∀ b, b < w.heap.size → ¬ GG G0 bx rv rs b → w'.heap[b]? = w.heap[b]? ∧ ¬ GG G0 bx (rv.set k v') (rs.set k (some R')) b := fun b hb hG =>
  ⟨hw.block b hb fun e => hG (.inr (mem_blocks.2 (.inr ⟨k, v, R, hv, hR, e.symm⟩))), fun h => hG (gg_row hv hR hbk hb h)⟩
theorem rv_row (j : Nat) (u : Value) (hj : j ≠ k) (h : rvOf rv rs j = some u) : rvOf (rv.set k v') (rs.set k (some R')) j = some u := by
  unfold rvOf at h ⊢
  rw [List.getElem?_set_ne (fun e => hj e.symm), List.getElem?_set_ne (fun e => hj e.symm)]
  exact h
theorem Mem.setRowV (h : Mem w0 G0 bs rs bx rv w) {xs : List Value} (hv : rv[k]? = some v) (hR : rs[k]? = some (some R)) (hw : w.grownBy w' v.ownBlock) (hbk : ∀ g, v'.ownBlock = some g → v.ownBlock = some g ∨ w.heap.size ≤ g) (ho : w'.ownsRow 0 R'.e R'.sz v' R'.es.length xs) (hx : PT w' (GG G0 bx (rv.set k v') (rs.set k (some R'))) xs (flat R'.es)) (hsz : Sized R'.sz R'.es ∧ (R'.tt = true → TightV v')) (hd : ∀ g, v'.ownBlock = some g → NoDigB w' g) :
    Mem w0 G0 (bs.map fun p => (p.1, p.2.map (killT0 k))) (rs.set k (some R')) bx (rv.set k v') w' := by
  have hkl := (List.getElem?_eq_some_iff.1 hv).1
  have hmono := mono_row (R' := R') (G0 := G0) (bx := bx) hv hR hw hbk
  have hge : ∀ b, v.ownBlock = some b → w0.heap.size ≤ b ∨ G0.X b := fun b hb => h.ge b (mem_blocks.2 (.inr ⟨k, v, R, hv, hR, hb⟩))
  have hrows : ∀ b, b ∈ blocks bx (rv.set k v') (rs.set k (some R')) → b ∈ blocks bx rv rs ∨ (v'.ownBlock = some b ∧ w.heap.size ≤ b) := fun b hb => by
    rcases mem_blocks.1 hb with h1 | ⟨j, u, X, h1, h2, h3⟩
    · exact .inl (mem_blocks.2 (.inl h1))
    · rcases row_get hkl j u X h1 h2 with ⟨rfl, rfl, rfl⟩ | ⟨_, h4, h5⟩
      · rcases hbk b h3 with h6 | h6
        · exact .inl (mem_blocks.2 (.inr ⟨j, v, R, hv, hR, h6⟩))
        · exact .inr ⟨h3, h6⟩
      · exact .inl (mem_blocks.2 (.inr ⟨j, u, X, h4, h5, h3⟩))
  refine ⟨h.below.grown hw (fun b e => hge b e), h.env0, h.g0, by simp [h.nb], by simp [h.nr], fun i g hi => ?_, fun j u X h1 h2 => ?_, ?_, fun b hb => ?_, h.pin⟩
  · obtain ⟨ty, cs, us, h1, h2, h3, h4⟩ := h.box i g hi
    refine ⟨ty, cs.map (killT0 k), us, by rw [List.getElem?_map, h1]; rfl, (hw.block g h2.lt fun e => ?_).trans h2, FT.kill0s (E := en w G0 bx rv rs) (E' := en w' G0 bx (rv.set k v') (rs.set k (some R'))) hw.size hmono (fun _ _ h => h) (fun j u hj hh => rv_row j u hj hh) h3, h4⟩
    exact h.nodup.br k v R g hv hR e.symm (List.mem_of_getElem? hi)
  · rcases row_get hkl j u X h1 h2 with ⟨rfl, rfl, rfl⟩ | ⟨hj, h4, h5⟩
    · exact ⟨xs, ho, hx, hsz, hd⟩
    · obtain ⟨ys, h6, h7, h8, h9⟩ := h.row j u X h4 h5
      have hne : ∀ b, u.ownBlock = some b → v.ownBlock ≠ some b := fun b e1 e2 => h.nodup.rr j k u v X R b hj h4 h5 hv hR e1 e2
      refine ⟨ys, h6.kept hw ?_, h7.mono hw.size hmono, h8, fun g hg => (h9 g hg).of (hw.block g (h6.lt g hg).2 fun e => hne g hg e.symm)⟩
      cases hu : u.ownBlock with
      | none => exact .inl rfl
      | some b => exact .inr fun e => hne b hu e.symm
  · refine ⟨h.nodup.bb, fun j u X b h1 h2 h3 hm => ?_, fun i j u t X Y b hij h1 h2 h3 h4 h5 h6 => ?_⟩
    · rcases row_get hkl j u X h1 h2 with ⟨rfl, rfl, rfl⟩ | ⟨_, h4, h5⟩
      · rcases hbk b h3 with h6 | h6
        · exact h.nodup.br j v R b hv hR h6 hm
        · have := (h.ok b (.inr (mem_blocks.2 (.inl hm)))).1
          omega
      · exact h.nodup.br j u X b h4 h5 h3 hm
    · rcases row_get hkl i u X h1 h2 with ⟨rfl, rfl, rfl⟩ | ⟨hi, a1, a2⟩
      · rcases row_get hkl j t Y h3 h4 with ⟨rfl, _, _⟩ | ⟨hj, b1, b2⟩
        · exact hij rfl
        · rcases hbk b h5 with h7 | h7
          · exact h.nodup.rr i j v t R Y b hij hv hR b1 b2 h7 h6
          · have := (h.ok b (.inr (mem_blocks.2 (.inr ⟨j, t, Y, b1, b2, h6⟩)))).1
            omega
      · rcases row_get hkl j t Y h3 h4 with ⟨rfl, rfl, rfl⟩ | ⟨hj, b1, b2⟩
        · rcases hbk b h6 with h7 | h7
          · exact h.nodup.rr i j u v X R b hij a1 a2 hv hR h5 h7
          · have := (h.ok b (.inr (mem_blocks.2 (.inr ⟨i, u, X, a1, a2, h5⟩)))).1
            omega
        · exact h.nodup.rr i j u t X Y b hij a1 a2 b1 b2 h5 h6
  · rcases hrows b hb with h1 | ⟨_, h1⟩
    · exact h.ge b h1
    · have := h.below.size; exact .inl (by omega)
end
end
end Go.Proofs.YtpinhcdcnaaihaaGreatDoor
