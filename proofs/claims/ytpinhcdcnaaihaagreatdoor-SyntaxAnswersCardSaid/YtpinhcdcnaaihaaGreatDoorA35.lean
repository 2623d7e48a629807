import Derived.Test.YtpinhcdcnaaihaaGreatDoorA34
import Derived.Laws.StructEq
import Derived.Lib.UnsafeStr
namespace Go.Proofs.YtpinhcdcnaaihaaGreatDoor
section
variable {P : Program} {E : EE} {A : AH} {base : Nat} {w : World} {sl : Slo} {o : Oper}
noncomputable def AH.newM (A : AH) : AH := ⟨A.t, A.nx, A.fm, A.nm + 1, A.mp.set evD A.nm (some [])⟩
noncomputable def AH.putM (A : AH) (n : Nat) (l : List (Value × Value)) : AH := ⟨A.t, A.nx, A.fm, A.nm, A.mp.set evD n (some l)⟩
theorem mget_lt {n : Nat} {l : List (Value × Value)} (h : A.mget n = some l) : n < 16384 := blt_of (cond_of h).1
theorem mget_set {t : Tri ARow} {f : Tri (List Nat)} {x y n : Nat} {l : List (Value × Value)} (hn : n < 16384) (m : Nat) : (⟨t, x, f, y, A.mp.set evD n (some l)⟩ : AH).mget m = if m = n then some l else A.mget m := by
  unfold AH.mget
  by_cases hm : m < 16384
  · rw [blt_lt hm]
    exact Tri.get_set (some l) evD A.mp n m hn hm
  · have : Nat.blt m 16384 = false := by cases hb : Nat.blt m 16384 with | false => rfl | true => exact absurd (blt_of hb) hm
    rw [this, if_neg (by omega)]
    rfl
theorem RelA.mapNew (h : RelA P E A base w) (hx : A.nm < 16384) : ∃ E', RelA P E' A.newM base (w.alloc (.map #[] 0)) ∧ E'.ml A.nm = some w.heap.size ∧ Fr E E' w (w.alloc (.map #[] 0)) := by
  have hkeep : ∀ b, b < w.heap.size → (w.alloc (.map #[] 0)).heap[b]? = w.heap[b]? := fun b hb => by
    show (w.heap.push _)[b]? = _
    rw [Array.getElem?_push, if_neg (by omega)]
  have hsz : (w.alloc (.map #[] 0)).heap.size = w.heap.size + 1 := by simp
  have hE : E.Le ⟨E.lo, E.bl, fun n => if n = A.nm then some w.heap.size else E.ml n, E.tb⟩ := ⟨fun _ _ h => h, fun _ _ h => h, fun n b hb => by
    show (if n = A.nm then _ else _) = _
    rw [if_neg (fun e => by rw [h.mnew n (by omega)] at hb; cases hb)]; exact hb, fun _ _ h => h⟩
  have h' := h.later (w' := w.alloc (.map #[] 0)) (by omega) hkeep
  refine ⟨⟨E.lo, E.bl, fun n => if n = A.nm then some w.heap.size else E.ml n, E.tb⟩, ⟨fun n r hr => ?_, h'.blk, h'.sep, h'.fam, h'.top, h'.mem, h'.new, h'.nxb, fun n cs hm => ?_, fun n m b h1 h2 => ?_, fun n hn => ?_, fun n b hb => ?_, h'.base, h'.typ, h'.rty⟩, if_pos rfl, ⟨hE, rfl, rfl, rfl, by omega, fun b hb _ _ => hkeep b hb, fun _ _ => rfl, fun n b hb => ?_⟩⟩
  · obtain ⟨b, q, g1, g2, g3, g4⟩ := h'.row n r hr
    exact ⟨b, q, g1, g2, g3, fun i v hv => (g4 i v hv).imp fun u g => ⟨g.1, g.2.mono hE⟩⟩
  · unfold AH.newM at hm
    rw [mget_set hx] at hm
    split at hm
    · next e =>
      cases hm
      exact ⟨w.heap.size, #[], 0, if_pos e, by show (w.heap.push _)[w.heap.size]? = _; simp, h.base, .nil, .nil⟩
    · next e =>
      obtain ⟨b, es, cl, g1, g2, g3, g4, g5⟩ := h'.map n cs hm
      exact ⟨b, es, cl, (if_neg e).trans g1, g2, g3, g4.mono hE, g5.mono hE⟩
  · have h1 : (if n = A.nm then some w.heap.size else E.ml n) = some b := h1
    have h2 : (if m = A.nm then some w.heap.size else E.ml m) = some b := h2
    split at h1
    · next e1 =>
      cases h1
      split at h2
      · next e2 => rw [e1, e2]
      · have := h.mlt m _ h2; omega
    · split at h2
      · cases h2
        have := h.mlt n _ h1; omega
      · exact h.minj n m b h1 h2
  · have hn : A.nm + 1 ≤ n := hn
    show (if n = A.nm then _ else _) = _
    rw [if_neg (by omega)]
    exact h.mnew n (by omega)
  · have hb : (if n = A.nm then some w.heap.size else E.ml n) = some b := hb
    rw [hsz]
    split at hb
    · cases hb; omega
    · have := h.mlt n b hb; omega
  · have hb : (if n = A.nm then some w.heap.size else E.ml n) = some b := hb
    split at hb
    · cases hb; exact .inr (Nat.le_refl _)
    · exact .inl hb
theorem RelA.mapPut (h : RelA P E A base w) {n b : Nat} {cs cs' : List (Value × Value)} {es es' : Array MapEntry} {cl cl' : Nat} (hn : A.mget n = some cs) (hb : E.ml n = some b) (hw : w.heap[b]? = some (.map es cl)) (hk : VL P E (es'.toList.map (·.key)) (cs'.map (·.1))) (hv : VL P E (es'.toList.map (·.val)) (cs'.map (·.2))) :
    RelA P E (A.putM n cs') base { w with heap := w.heap.setIfInBounds b (.map es' cl') } ∧ Fr E E w { w with heap := w.heap.setIfInBounds b (.map es' cl') } := by
  have hlt := h.mlt n b hb
  have hoth : ∀ b', b' ≠ b → (w.heap.setIfInBounds b (.map es' cl'))[b']? = w.heap[b']? := fun b' hne => by rw [Array.getElem?_setIfInBounds, if_neg (fun e => hne e.symm)]
  have hself : (w.heap.setIfInBounds b (.map es' cl'))[b]? = some (.map es' cl') := by rw [Array.getElem?_setIfInBounds, if_pos rfl, if_pos hlt]
  have hcell : ∀ b' j, ({ w with heap := w.heap.setIfInBounds b (.map es' cl') } : World).cell? ⟨b', j, none⟩ = w.cell? ⟨b', j, none⟩ := fun b' j => by
    by_cases e : b' = b
    · subst e
      simp [World.cell?, hself, hw]
    · exact World.cell?_of_block (hoth b' e)
  refine ⟨⟨fun m r hr => ?_, fun b' s hb' => ?_, h.sep, h.fam, h.top, h.mem, h.new, h.nxb, fun m c hm => ?_, h.minj, h.mnew, fun m b' hb' => by simpa using h.mlt m b' hb', by simpa using h.base, fun b' t hb' => by
    obtain ⟨c1, fz1, g1⟩ := h.typ b' t hb'
    exact ⟨c1, fz1, (hoth b' fun e => by subst e; rw [hw] at g1; cases g1).trans g1⟩, h.rty⟩, ⟨.refl _, rfl, rfl, rfl, by simp, fun b' _ _ hml => hoth b' fun e => hml n (by rw [e]; exact hb), fun _ _ => rfl, fun _ _ h => .inl h⟩⟩
  · obtain ⟨b', q, g1, g2, g3, g4⟩ := h.row m r hr
    exact ⟨b', q, g1, by simpa using g2, g3, fun i v hv => (g4 i v hv).imp fun u g => ⟨(hcell b' _).trans g.1, g.2⟩⟩
  · obtain ⟨g1, c, e, fz, g2, g3⟩ := h.blk b' s hb'
    exact ⟨g1, c, e, fz, (hoth b' fun e => by subst e; rw [hw] at g2; cases g2).trans g2, g3⟩
  · unfold AH.putM at hm
    rw [mget_set (mget_lt hn)] at hm
    split at hm
    · next e =>
      cases hm
      subst e
      obtain ⟨b1, _, _, g1, _, g3, _⟩ := h.map m cs hn
      rw [hb] at g1; cases g1
      exact ⟨b, es', cl', hb, hself, g3, hk, hv⟩
    · next e =>
      obtain ⟨b1, e1, c1, g1, g2, g3, g4⟩ := h.map m c hm
      exact ⟨b1, e1, c1, g1, (hoth b1 fun e2 => by subst e2; exact e (h.minj _ _ _ g1 hb)).trans g2, g3, g4⟩
noncomputable def evMk (A : AH) (r : Option Operand) : Rs := match r with
  | some _ => none
  | none => cond (Nat.blt A.nm 16384) (forceN A.nm fun n => some (.map (some n), ⟨A.t, A.nx, A.fm, n + 1, A.mp.set evD n (some [])⟩)) none
theorem good_mk {t : TypeId} {r : Option Operand} (ho : o.op = .makeMap t r) : Good P base sl A o (evMk A r) := by
  intro v A' he E w T hR hS
  unfold evMk at he
  split at he
  · cases he
  · obtain ⟨hx, he⟩ := cond_of he
    rw [forceN_eq] at he
    cases he
    obtain ⟨E', g1, g2, g3⟩ := hR.mapNew (blt_of hx)
    refine .of_ok (v := .map (some w.heap.size)) (W' := w.alloc (.map #[] 0)) ?_ ⟨E', g1, .mp _ _ g2 .nil, g3⟩
    simp [execOp, ho, Instr.makeMap, newObj]
    rfl
noncomputable def kyEq (a b : Value) : Option Bool :=
  match a, b with
  | .string a, .string b => some (bEq a.data.toList b.data.toList)
  | .int k (.ofNat a), .int k' (.ofNat b) => cond (kEq k k') (some (Nat.beq a b)) none
  | _, _ => none
noncomputable def fndM (key : Value) (l : List (Value × Value)) : Option (Option (Nat × Value)) := List.rec (some none) (fun p _ ih => bnd (kyEq key p.1) fun b => cond b (some (some (0, p.2))) (bnd ih fun r => Option.rec (some none) (fun q => some (some (q.1 + 1, q.2))) r)) l
noncomputable def kyOK (d : TypeDesc) (key : Value) : Bool := match d, key with
  | .string, .string _ => true
  | .int _, .int _ (.ofNat _) => true
  | _, _ => false
theorem ky_good {d : TypeDesc} {key a : Value} {b : Bool} (h : kyOK d key = true) (hk : kyEq key a = some b) : Instr.sameNow d key a = some b := by
  unfold kyEq at hk
  split at hk
  · next x y =>
    cases hk
    unfold kyOK at h
    split at h
    · rw [bEq_eq]
      simp only [Instr.sameNow]
      rw [beq_toListBytes, ByteArray.toList_eq, ByteArray.toList_eq]
    · next he => cases he
    · cases h
  · next k x k' y =>
    obtain ⟨h1, h2⟩ := cond_of hk
    cases h2
    have := kEq_of h1
    subst this
    unfold kyOK at h
    split at h
    · next he => cases he
    · simp only [Instr.sameNow, if_true]
      congr 1
      exact nat_beq x y
    · cases h
  · cases hk
theorem ky_eq {key a : Value} (h : kyEq key a = some true) : key = a := by
  unfold kyEq at h
  split at h
  · next x y =>
    simp only [Option.some.injEq] at h
    rw [bEq_eq] at h
    exact congrArg Value.string (bytes_eq (eq_of_beq h))
  · next k x k' y =>
    obtain ⟨h1, h2⟩ := cond_of h
    simp only [Option.some.injEq] at h2
    rw [kEq_of h1, Nat.eq_of_beq_eq_true h2]
  · cases h
theorem fnd_good {d : TypeDesc} {key : Value} (hd : kyOK d key = true) : ∀ {l : List (Value × Value)} {es : List MapEntry} {i : Nat} {r : Option (Nat × Value)}, VL P E (es.map (·.key)) (l.map (·.1)) → VL P E (es.map (·.val)) (l.map (·.2)) → fndM key l = some r →
    match r with
    | none => Instr.findNow d key es i = some none
    | some (j, v) => ∃ e, es[j]? = some e ∧ Instr.findNow d key es i = some (some (i + j, e.val)) ∧ VL P E [e.val] [v] ∧ e.key = key ∧ l[j]? = some (key, v)
  | [], [], i, r, _, _, h => by
    cases h
    rfl
  | [], _ :: _, _, _, h, _, _ => by have := h.length; simp at this
  | _ :: _, [], _, _, h, _, _ => by have := h.length; simp at this
  | p :: l, e :: es, i, r, hk, hv, h => by
    obtain ⟨b, h1, h⟩ := bnd_of (o := kyEq key p.1) h
    have hkk := hk.head
    have hvv := hv.head
    have hkey : e.key = p.1 := by
      have hkk : VL P E [e.key] [p.1] := hkk
      have hsc : (∃ s, p.1 = .string s) ∨ ∃ k n, p.1 = .int k n := by
        cases hp : p.1 with
        | string s => exact .inl ⟨s, rfl⟩
        | int k n => exact .inr ⟨k, n, rfl⟩
        | _ =>
          rw [hp] at h1
          cases key with
          | int k n => cases n <;> cases h1
          | _ => cases h1
      rcases hsc with ⟨s, hs⟩ | ⟨k, n, hs⟩
      · rw [hs] at hkk ⊢; exact hkk.string
      · rw [hs] at hkk ⊢; exact hkk.int
    have hs := ky_good hd h1
    cases b with
    | true =>
      cases h
      have hke := ky_eq h1
      refine ⟨e, rfl, ?_, hvv, by rw [hkey, ← hke], by rw [hke]; rfl⟩
      simp only [Instr.findNow, hkey, hs, Nat.add_zero]
    | false =>
      obtain ⟨r', h2, h⟩ := bnd_of (o := fndM key l) h
      have ih := fnd_good hd (i := i + 1) hk.tail hv.tail h2
      cases r' with
      | none =>
        cases h
        show Instr.findNow d key (e :: es) i = some none
        simp only [Instr.findNow, hkey, hs]
        exact ih
      | some q =>
        obtain ⟨j, v⟩ := q
        cases h
        obtain ⟨e', g1, g2, g3, g4, g5⟩ := ih
        refine ⟨e', by simpa using g1, ?_, g3, g4, by simpa using g5⟩
        simp only [Instr.findNow, hkey, hs]
        rw [g2, show i + (j + 1) = i + 1 + j by omega]
theorem run_check (d : Bool) {t : TypeId} {td : TypeDesc} {key : Value} (hu : P.underlying t = some td) (hk : kyOK td key = true) (w : World) : (Instr.checkKey d 10000 t key).run P w = .ok () w := by
  have : ∀ n : Nat, (Instr.checkKey d (n + 1) t key).run P w = .ok () w := fun n => by
    unfold kyOK at hk
    split at hk
    · simp [Instr.checkKey, run_underlying hu]
    · simp [Instr.checkKey, run_underlying hu]
    · cases hk
  exact this 9999
theorem ky_val {td : TypeDesc} {u key : Value} (h : VL P E [u] [key]) (hk : kyOK td key = true) : u = key := by
  unfold kyOK at hk
  split at hk
  · exact h.string
  · exact h.int
  · cases hk
theorem run_getMap {b : Nat} {es : Array MapEntry} {cl : Nat} (h : w.heap[b]? = some (.map es cl)) : (getObj b).run P w = .ok (.map es cl) w := by
  simp only [getObj, Sem.run, h]
noncomputable def evLk (P : Program) (sl : Slo) (A : AH) (t : TypeId) (x ix : Operand) (ok : Bool) : Rs :=
  match P.underlying t with
  | some (.map kt et) => bnd (P.underlying kt) fun td => cond (kyOK td (evO P sl ix)) (match evO P sl x with
    | .map m => bnd (Option.rec (some []) (fun n => A.mget n) m) fun l => bnd (fndM (evO P sl ix) l) fun r => match r with
      | some q => cond ok (some (.tuple #[q.2, .bool true], A)) (some (q.2, A))
      | none => bnd (P.info? et) fun i => bnd i.zero fun z => cond (scV z) (cond ok (some (.tuple #[z, .bool false], A)) (some (z, A))) none
    | _ => none) none
  | _ => none
theorem good_lk {t : TypeId} {x ix : Operand} {ok : Bool} (ho : o.op = .lookup t x ix ok) : Good P base sl A o (evLk P sl A t x ix ok) := by
  intro v A' he E w T hR hS
  unfold evLk at he
  split at he
  · next kt et hu =>
    obtain ⟨td, htd, he⟩ := bnd_of he
    obtain ⟨hk, he⟩ := cond_of he
    have hix := ky_val (hS.at ix) hk
    split at he
    · next m hx =>
      obtain ⟨l, hl, he⟩ := bnd_of he
      obtain ⟨r, hr, he⟩ := bnd_of he
      have hxv := hS.at x
      rw [hx] at hxv
      have hch := fun d => run_check d htd hk w
      have hent : ∃ (es : Array MapEntry), VL P E (es.toList.map (·.key)) (l.map (·.1)) ∧ VL P E (es.toList.map (·.val)) (l.map (·.2)) ∧ ∀ fo : Option (Nat × Value), (Instr.findKey kt (evO P sl ix) es.toList).run P w = .ok fo w → (Instr.lookup t (evF T x) (evF T ix) ok).run P w = match fo with
          | some (_, y) => .ok (if ok then .tuple #[y, .bool true] else y) w
          | none => ((zeroValue et).run P w).andThen fun z w => .ok (if ok then .tuple #[z, .bool false] else z) w := by
        cases m with
        | none =>
          cases hl
          have : evF T x = .map none := by
            generalize evF T x = u at hxv
            cases hxv
            rfl
          refine ⟨#[], .nil, .nil, fun fo hfo => ?_⟩
          cases fo with
          | none => simp [Instr.lookup, run_underlying hu, this, hix, hch, hfo]
          | some q => simp [Instr.lookup, run_underlying hu, this, hix, hch, hfo]
        | some n =>
          have hl : A.mget n = some l := hl
          obtain ⟨b, es, cl, g1, g2, _, g4, g5⟩ := hR.map n l hl
          have : evF T x = .map (some b) := by
            generalize evF T x = u at hxv
            cases hxv with
            | sc v h _ => cases h
            | mp n b' h _ => rw [g1] at h; cases h; rfl
          have hgo := run_getMap (P := P) g2
          refine ⟨es, g4, g5, fun fo hfo => ?_⟩
          cases fo with
          | none => simp [Instr.lookup, run_underlying hu, this, hgo, hix, hch, hfo]
          | some q => simp [Instr.lookup, run_underlying hu, this, hgo, hix, hch, hfo]
      obtain ⟨es, hks, hvs, hrun⟩ := hent
      have hf := fnd_good (i := 0) hk hks hvs hr
      have hfk : ∀ fo, Instr.findNow td (evO P sl ix) es.toList 0 = some fo → (Instr.findKey kt (evO P sl ix) es.toList).run P w = .ok fo w := fun fo h1 => by
        unfold Instr.findKey
        rw [Sem.run_bind, run_underlying htd, Result.andThen_ok, h1]
        rfl
      cases r with
      | some q =>
        obtain ⟨j, y⟩ := q
        obtain ⟨e, g1, g2, g3, _⟩ := hf
        have h4 := hrun _ (hfk _ g2)
        simp only at h4
        cases ok with
        | true =>
          cases he
          refine .of_ok (v := .tuple #[e.val, .bool true]) (W' := w) (by simp [execOp, ho, h4]) (.here hR ?_)
          exact .tup [e.val, .bool true] [_, _] (g3.cons (.sc _ rfl .nil)) .nil
        | false =>
          cases he
          exact .of_ok (v := e.val) (W' := w) (by simp [execOp, ho, h4]) (.here hR g3)
      | none =>
        obtain ⟨i, hi, he⟩ := bnd_of he
        obtain ⟨z, hz, he⟩ := bnd_of he
        obtain ⟨hs, he⟩ := cond_of he
        have hf : Instr.findNow td (evO P sl ix) es.toList 0 = some none := hf
        have h4 := hrun _ (hfk _ hf)
        have hzz : (zeroValue et).run P w = .ok z w := by simp [zeroValue, typeInfo, hi, hz]
        simp only [hzz, Result.andThen_ok] at h4
        cases ok with
        | true =>
          cases he
          refine .of_ok (v := .tuple #[z, .bool false]) (W' := w) (by simp [execOp, ho, h4]) (.here hR ?_)
          exact .tup [z, .bool false] [z, .bool false] (.sc _ hs (.sc _ rfl .nil)) .nil
        | false =>
          cases he
          exact .of_ok (W' := w) (by simp [execOp, ho, h4]) (.here hR (.sc _ hs .nil))
    · cases he
  · cases he
noncomputable def evMU (P : Program) (sl : Slo) (A : AH) (t : TypeId) (m k x : Operand) : Rs :=
  match P.underlying t with
  | some (.map kt _) => bnd (P.underlying kt) fun td => cond (kyOK td (evO P sl k)) (match evO P sl m with
    | .map (some n) => bnd (A.mget n) fun l => bnd (fndM (evO P sl k) l) fun r => match r with
      | some q => forceL (l.set q.1 (evO P sl k, evO P sl x)) fun l => some (undef, A.putM n l)
      | none => forceL (appR l [(evO P sl k, evO P sl x)]) fun l => some (undef, A.putM n l)
    | _ => none) none
  | _ => none
theorem good_mu {t : TypeId} {m k x : Operand} (ho : o.op = .mapUpdate t m k x ∨ o.op = .insert t m k x) : Good P base sl A o (evMU P sl A t m k x) := by
  intro v A' he E w T hR hS
  unfold evMU at he
  simp only [forceL_eq, appR_eq] at he
  split at he
  · next kt et hu =>
    obtain ⟨td, htd, he⟩ := bnd_of he
    obtain ⟨hk, he⟩ := cond_of he
    have hix := ky_val (hS.at k) hk
    have hxv := hS.at x
    split at he
    · next n hm =>
      obtain ⟨l, hl, he⟩ := bnd_of he
      obtain ⟨r, hr, he⟩ := bnd_of he
      have hmv := hS.at m
      rw [hm] at hmv
      obtain ⟨b, es, cl, g1, g2, _, g4, g5⟩ := hR.map n l hl
      have hme : evF T m = .map (some b) := by
        generalize evF T m = u at hmv
        cases hmv with
        | sc v h _ => cases h
        | mp n b' h _ => rw [g1] at h; cases h; rfl
      have hgo := run_getMap (P := P) g2
      have hch := run_check (P := P) false htd hk w
      have hf := fnd_good (i := 0) hk g4 g5 hr
      have hfk : ∀ fo, Instr.findNow td (evO P sl k) es.toList 0 = some fo → (Instr.findKey kt (evO P sl k) es.toList).run P w = .ok fo w := fun fo h1 => by
        unfold Instr.findKey
        rw [Sem.run_bind, run_underlying htd, Result.andThen_ok, h1]
        rfl
      have hset : ∀ ob : Obj, (setObj b ob).run P w = .ok () { w with heap := w.heap.setIfInBounds b ob } := fun ob => by
        simp only [setObj, Sem.run, g2]
      have fin : ∀ (es' : Array MapEntry) (cl' : Nat) (l' : List (Value × Value)), VL P E (es'.toList.map (·.key)) (l'.map (·.1)) → VL P E (es'.toList.map (·.val)) (l'.map (·.2)) → (Instr.mapUpdate t (evF T m) (evF T k) (evF T x)).run P w = .ok () { w with heap := w.heap.setIfInBounds b (.map es' cl') } → some (undef, A.putM n l') = some (v, A') → OpY P o T w (Aft P E A' base w v) := fun es' cl' l' h1 h2 h3 h4 => by
        cases h4
        obtain ⟨h5, h6⟩ := hR.mapPut (cl' := cl') hl g1 g2 h1 h2
        refine .of_skip (W' := { w with heap := w.heap.setIfInBounds b (.map es' cl') }) ?_ ⟨E, h5, .tup [] [] .nil .nil, h6⟩
        rcases ho with ho | ho <;> simp [execOp, ho, h3]
      cases r with
      | some q =>
        obtain ⟨j, y⟩ := q
        obtain ⟨e, f1, f2, f3, f4, f5⟩ := hf
        rw [Nat.zero_add] at f2
        have f1' : es[j]? = some e := by simpa using f1
        have hbits : ∀ d : Nat, Instr.sameBits d (evO P sl k) (evO P sl k) = true := fun d => by
          unfold kyOK at hk
          split at hk
          · next hh => rw [hh]; cases d <;> simp [Instr.sameBits, beq_toListBytes]
          · next hh => rw [hh]; cases d <;> simp [Instr.sameBits]
          · cases hk
        refine fin (es.modify j fun e => { e with key := evO P sl k, val := evF T x }) cl (l.set j (evO P sl k, evO P sl x)) ?_ ?_ ?_ he
        · refine VL.of_get (by have := g4.length; simpa using this) fun i u t hu ht => ?_
          rw [List.getElem?_map, Array.getElem?_toList, Array.getElem?_modify] at hu
          rw [List.getElem?_map, List.getElem?_set] at ht
          by_cases hij : j = i
          · subst hij
            rw [if_pos rfl, f1'] at hu
            rw [if_pos rfl, if_pos (List.getElem?_eq_some_iff.1 f5).1] at ht
            cases hu
            cases ht
            have := hS.at k
            rw [hix] at this
            exact this
          · rw [if_neg hij] at hu
            rw [if_neg hij] at ht
            obtain ⟨u', h1, h2⟩ := g4.get i t (by rw [List.getElem?_map]; exact ht)
            rw [List.getElem?_map, Array.getElem?_toList] at h1
            rw [hu] at h1; cases h1
            exact h2
        · refine VL.of_get (by have := g5.length; simpa using this) fun i u t hu ht => ?_
          rw [List.getElem?_map, Array.getElem?_toList, Array.getElem?_modify] at hu
          rw [List.getElem?_map, List.getElem?_set] at ht
          by_cases hij : j = i
          · subst hij
            rw [if_pos rfl, f1'] at hu
            rw [if_pos rfl, if_pos (List.getElem?_eq_some_iff.1 f5).1] at ht
            cases hu
            cases ht
            exact hxv
          · rw [if_neg hij] at hu
            rw [if_neg hij] at ht
            obtain ⟨u', h1, h2⟩ := g5.get i t (by rw [List.getElem?_map]; exact ht)
            rw [List.getElem?_map, Array.getElem?_toList] at h1
            rw [hu] at h1; cases h1
            exact h2
        · have h7 : (Instr.keyThatStays e.key (evO P sl k)).run P w = .ok (evO P sl k) w := by
            unfold Instr.keyThatStays
            rw [f4, hbits]
            rfl
          have h8 := hfk _ f2
          simp [Instr.mapUpdate, run_underlying hu, hme, hgo, hix, hch, h8, f1', h7, hset]
      | none =>
        have hf : Instr.findNow td (evO P sl k) es.toList 0 = some none := hf
        have h8 := hfk _ hf
        refine fin (es.push { key := evO P sl k, val := evF T x, born := cl }) (cl + 1) (l ++ [(evO P sl k, evO P sl x)]) ?_ ?_ ?_ he
        · rw [Array.toList_push, List.map_append, List.map_append]
          refine g4.append ?_
          have := hS.at k
          rw [hix] at this
          exact this
        · rw [Array.toList_push, List.map_append, List.map_append]
          exact g5.append hxv
        · simp [Instr.mapUpdate, run_underlying hu, hme, hgo, hix, hch, h8, hset]
    · cases he
  · cases he
end
end Go.Proofs.YtpinhcdcnaaihaaGreatDoor
namespace Go.Proofs.YtpinhcdcnaaihaaGreatDoor
section
variable {P : Program} {E : EE} {A : AH} {base : Nat} {w w' : World} {sl : Slo} {o : Oper}
theorem RelA.frz (h : RelA P E A base w) {b : Nat} {c : Array Value} {e : TypeId} {fz fz' : Nat × Nat} (hcold : ¬ Hot E A b) (hg : w.heap[b]? = some (.cells c e fz)) (hg' : w'.heap[b]? = some (.cells c e fz')) (hsz : w'.heap.size = w.heap.size) (hoth : ∀ b', b' ≠ b → w'.heap[b']? = w.heap[b']?) : RelA P E A base w' := by
  have hcell : ∀ b' j, w'.cell? ⟨b', j, none⟩ = w.cell? ⟨b', j, none⟩ := fun b' j => by
    by_cases e1 : b' = b
    · subst e1
      simp [World.cell?, hg, hg']
    · exact World.cell?_of_block (hoth b' e1)
  refine ⟨fun n r hr => ?_, fun b' s hb => ?_, h.sep, h.fam, h.top, h.mem, h.new, h.nxb, fun n cs hm => ?_, h.minj, h.mnew, fun n b' hb => by rw [hsz]; exact h.mlt n b' hb, by rw [hsz]; exact h.base, fun b' t hb => ?_, h.rty⟩
  · obtain ⟨b', q, g1, g2, g3, g4⟩ := h.row n r hr
    exact ⟨b', q, g1, by rw [hsz]; exact g2, g3, fun i v hv => (g4 i v hv).imp fun u g => ⟨(hcell b' _).trans g.1, g.2⟩⟩
  · obtain ⟨g1, c1, e1, fz1, g2, g3, g4⟩ := h.blk b' s hb
    by_cases hbb : b' = b
    · subst hbb
      rw [hg] at g2; cases g2
      exact ⟨g1, c, e, fz', hg', g3, fun hh => absurd hh hcold⟩
    · exact ⟨g1, c1, e1, fz1, (hoth b' hbb).trans g2, g3, g4⟩
  · obtain ⟨b', es, cl, g1, g2, g3⟩ := h.map n cs hm
    exact ⟨b', es, cl, g1, (hoth b' fun e1 => by subst e1; rw [hg] at g2; cases g2).trans g2, g3⟩
  · obtain ⟨c1, fz1, g1⟩ := h.typ b' t hb
    by_cases hbb : b' = b
    · subst hbb
      rw [hg] at g1; cases g1
      exact ⟨c, fz', hg'⟩
    · exact ⟨c1, fz1, (hoth b' hbb).trans g1⟩
theorem lies_at {e : TypeId} (hc : P.cellsOf e = 1) (count off n : Nat) (hn : off + n ≤ count) : liesAt P P.depth e count off e n = true := by
  have hd : P.depth = (2 * (P.types.size + Made.depth) + 1) + 1 := rfl
  rw [hd]
  simp only [liesAt, Bool.or_eq_true]
  left
  rw [hd]
  simp only [rowAt, hc, Nat.div_one, Nat.mod_one, beq_self_eq_true, Bool.true_and, Bool.or_eq_true, Bool.and_eq_true, decide_eq_true_eq]
  simp [hn, sameLayout]
theorem run_unsafeString_at (w : World) (pt it ty e : TypeId) (hp : P.underlying pt = some (.pointer e)) (hc : P.cellsOf e = 1) (g q cells : Nat) (hsh : w.shape? g = some (e, cells)) (l : List UInt8) (h0 : l ≠ []) (hn : q + l.length ≤ cells) (h63 : l.length ≤ 9223372036854775807)
    (hcell : ∀ j x, l[j]? = some x → w.cell? ((⟨g, q, none⟩ : Addr).add j) = some (.int .u8 x.toNat)) :
    (Builtin.unsafeString_ #[pt, it] ty #[.pointer (some ⟨g, q, none⟩), .int .i64 l.length]).run P w = .ok (.string ⟨l.toArray⟩) (w.freeze ⟨g, q, none⟩ l.length) := by
  have hl : l.length ≠ 0 := by simpa using h0
  have hlb := Lib.run_loadBytes (P := P) w l ⟨g, q, none⟩ .empty hcell
  have hlies := lies_at (P := P) hc (cells / P.cellsOf e) q l.length (by rw [hc]; simpa using hn)
  have h63' : ¬ (9223372036854775807 : Int) < (l.length : Int) := by omega
  have hmax : IntKind.i64.max = 9223372036854775807 := rfl
  have hneg : ¬ (l.length : Int) < 0 := by omega
  have hdef : Builtin.unsafeString_ #[pt, it] ty #[.pointer (some ⟨g, q, none⟩), .int .i64 l.length] =
      (asInt (.int .i64 l.length) >>= fun n => do
        if n < 0 then runtimePanic (.error "unsafe.String: len out of range")
        if n > IntKind.i64.max then unsupported (.unsafePointer "String: a length above the largest int")
        if n = 0 then pure (.string .empty)
        else if ← variablesAt ⟨g, q, none⟩ (← elemOf pt) n.toNat then do
          let s ← loadBytes ⟨g, q, none⟩ .empty n.toNat
          freeze ⟨g, q, none⟩ n.toNat
          pure (.string s)
        else unsupported (.unsafePointer "String: not so many bytes at ptr")) := rfl
  rw [hdef]
  simp [asInt, asIntOf, hmax, h63', hneg, hl, variablesAt, hsh, elemOf, run_underlying hp, hlies, hlb]
theorem freeze_facts {w : World} {b q m : Nat} {c : Array Value} {e : TypeId} {fz : Nat × Nat} (hm : 0 < m) (hg : w.heap[b]? = some (.cells c e fz)) : (∃ fz', (w.freeze ⟨b, q, none⟩ m).heap[b]? = some (.cells c e fz')) ∧ (∀ b', b' ≠ b → (w.freeze ⟨b, q, none⟩ m).heap[b']? = w.heap[b']?) ∧ (w.freeze ⟨b, q, none⟩ m).heap.size = w.heap.size ∧ (w.freeze ⟨b, q, none⟩ m).os = w.os ∧ (w.freeze ⟨b, q, none⟩ m).tape = w.tape ∧ (w.freeze ⟨b, q, none⟩ m).output = w.output := by
  obtain ⟨lo, hi⟩ := fz
  unfold World.freeze
  rw [if_neg (by omega)]
  refine ⟨⟨if lo == hi then (q, q + m) else (min lo q, max hi (q + m)), ?_⟩, fun b' hb' => ?_, ?_, rfl, rfl, rfl⟩
  · show (w.heap.modify b _)[b]? = _
    rw [Array.getElem?_modify, if_pos rfl, hg]
    rfl
  · show (w.heap.modify b _)[b']? = _
    rw [Array.getElem?_modify, if_neg (fun e => hb' e.symm)]
  · show (w.heap.modify b _).size = _
    rw [Array.size_modify]
noncomputable def evUSD (P : Program) (sl : Slo) (A : AH) (xs : List Operand) : Rs := match xs with
  | [x] => match evO P sl x with
    | .slice (some ⟨n, c, none⟩) len _ => cond (Nat.blt 0 len) (some (.pointer (some ⟨n, c, none⟩), A)) none
    | .slice none _ _ => some (.pointer none, A)
    | _ => none
  | _ => none
theorem good_usd {xs : Array Operand} {ts : Array TypeId} (ho : o.op = .call { callee := .builtin .unsafeSliceData, args := xs, argTypes := ts }) : Good P base sl A o (evUSD P sl A xs.toList) := by
  intro v A' he E w T hR hS
  obtain ⟨xs⟩ := xs
  simp only at he
  unfold evUSD at he
  split at he
  · next x =>
    have h1 := hS.at x
    split at he
    · next n c len e hx =>
      obtain ⟨h2, he⟩ := cond_of he
      cases he
      have h2 := blt_of h2
      rw [hx] at h1
      obtain ⟨b, q, q', cap, hlo, hp, hl, _, hroom⟩ := h1.slice
      obtain ⟨rfl, _⟩ := hroom (by omega)
      refine .of_ok (v := .pointer (some ⟨b, q + c, none⟩)) (W' := w) ?_ (.here hR (.ptr n c b q hlo .nil))
      have := Lib.run_unsafeSliceData_row (P := P) w ts o.type ⟨b, q + c, none⟩ len cap (by omega)
      simp [execOp, ho, resolve, invoke, builtin, hp, this]
    · next m c hx =>
      cases he
      rw [hx] at h1
      obtain ⟨hp, _⟩ := h1.nilSlice
      refine .of_ok (v := .pointer none) (W' := w) ?_ (.here hR (.sc _ rfl .nil))
      have := Lib.run_unsafeSliceData_nil (P := P) w ts o.type m c
      simp [execOp, ho, resolve, invoke, builtin, hp, this]
    · cases he
  · cases he
noncomputable def evUSt (P : Program) (sl : Slo) (A : AH) (ts : List TypeId) (xs : List Operand) : Rs := match ts, xs with
  | [pt, _], [x, y] => match evO P sl x, evO P sl y with
    | .pointer none, .int .i64 (.ofNat 0) => some (.string ⟨#[]⟩, A)
    | .pointer (some ⟨n, c, none⟩), .int .i64 (.ofNat m) => match P.underlying pt with
      | some (.pointer e) => bnd (A.get n) fun r => cond (Nat.beq (P.cellsOf e) 1 && Nat.beq r.ty (e + 1) && !r.fro && Nat.blt 0 m && Nat.ble m 1099511627776 && Nat.ble (c + m) (lenR r.cs)) (bnd (bytesOf (takeR m (dropR c r.cs))) fun l => forceL l fun l => some (.string ⟨⟨l⟩⟩, (A.kill n r.fam).put n (some ⟨r.cs, r.fam, true, r.ty⟩))) none
      | _ => none
    | _, _ => none
  | _, _ => none
theorem good_ust {xs : Array Operand} {ts : Array TypeId} (ho : o.op = .call { callee := .builtin .unsafeString, args := xs, argTypes := ts }) : Good P base sl A o (evUSt P sl A ts.toList xs.toList) := by
  intro v A' he E w T hR hS
  obtain ⟨xs⟩ := xs
  obtain ⟨ts⟩ := ts
  simp only at he
  unfold evUSt at he
  simp only [lenR_eq, takeR_eq, dropR_eq, forceL_eq] at he
  split at he
  · next pt it x y =>
    have h1 := hS.at x
    have h2 := hS.at y
    split at he
    · next hx hy =>
      cases he
      rw [hx] at h1
      rw [hy] at h2
      have hp : evF T x = .pointer none := by
        generalize evF T x = u at h1
        cases h1; rfl
      have hq := h2.int
      refine .of_ok (v := .string .empty) (W' := w) ?_ (.here hR (.sc _ rfl .nil))
      have := Lib.run_unsafeString_none (P := P) w pt it o.type none
      have hq' : evF T y = .int .i64 0 := hq
      simp [execOp, ho, resolve, invoke, builtin, hp, hq', this]
    · next n c m hx hy =>
      split at he
      · next e hu =>
        obtain ⟨r, hr, he⟩ := bnd_of he
        obtain ⟨h3, he⟩ := cond_of he
        simp only [Bool.and_eq_true, Nat.ble_eq, Bool.not_eq_true'] at h3
        obtain ⟨⟨⟨⟨⟨hce, hty⟩, hfro⟩, hm0⟩, hm1⟩, hm2⟩ := h3
        have hce := Nat.eq_of_beq_eq_true hce
        have hty := Nat.eq_of_beq_eq_true hty
        have hm0 := blt_of hm0
        obtain ⟨l, hl, he⟩ := bnd_of he
        cases he
        rw [hx] at h1
        rw [hy] at h2
        have hq := h2.int
        obtain ⟨b, q, hlo, hp⟩ := h1.pointer
        obtain ⟨b', q', g1, _, g3, _⟩ := hR.row n r hr
        rw [hlo] at g1; cases g1
        obtain ⟨s, hbl, hfit⟩ := g3.resolve_left fun h => by rw [hfro] at h; cases h.1
        obtain ⟨hbase, cur, e1, fz, hcur, hsz, _⟩ := hR.blk b s hbl
        obtain ⟨b2, q2, g4, g5⟩ := hR.rty n r e hr hty
        rw [hlo] at g4; cases g4
        obtain ⟨c1, fz1, g6⟩ := hR.typ b e g5
        rw [hcur] at g6; cases g6
        have h4 := bytesOf_eq hl
        have hll : l.length = m := by
          have := congrArg List.length h4
          rw [List.length_take, List.length_drop, List.length_map] at this
          omega
        obtain ⟨us, k1, k2, k3⟩ := hR.reads hr hlo c m hm2
        rw [h4] at k3
        have hus := bytesVL k3
        have hrun := run_unsafeString_at (P := P) w pt it o.type e hu hce b (q + c) cur.size (by simp [World.shape?, hcur]) l (fun e => by subst e; simp at hll; omega) (by omega) (by omega) fun j x' hj => by
          rw [addr_add]
          exact k2 j _ (by rw [hus]; simp [hj])
        rw [hll] at hrun
        -- the family's other rows given up, the row marked, the block frozen
        have hk := hR.kill hr
        have hkr := kill_self hR hr
        have hone : ∀ k q, (A.kill n r.fam).get k = some q → q.fam = r.fam → k = n := fun k q hq hf => by
          rw [kill_get hR hr] at hq
          cases hq' : A.get k with
          | none => rw [hq'] at hq; cases hq
          | some q' =>
            rw [hq'] at hq
            simp only at hq
            split at hq
            · cases hq
            · next hc =>
              cases hq
              exact Classical.byContradiction fun hne => hc ⟨hf, hne⟩
        obtain ⟨_, _, f1, _, _, f4⟩ := hk.row n r hkr
        rw [hlo] at f1; cases f1
        have hw := hk.write (w' := w) (cs := r.cs) (fr := true) hkr hlo rfl hone (Nat.le_refl _) hk.blk f4 (fun _ _ _ => rfl) (fun _ _ _ h => h) hk.typ fun _ => rfl
        have hnx := hR.fam n r hr
        have hnb := hR.nxb
        have hcold : ¬ Hot E ((A.kill n r.fam).put n (some ⟨r.cs, r.fam, true, r.ty⟩)) b := fun ⟨k, q1, o1, z1, z2, z3⟩ => by
          rw [AH.get_put (by omega)] at z1
          split at z1
          · cases z1; cases z2
          · next hne =>
            rcases hk.sep k n q1 r b o1 q z1 hkr z3 hlo with e3 | e3
            · exact hne e3
            · exact hne (hone k q1 z1 e3)
        obtain ⟨⟨fz', hself⟩, hoth, hsize, z1, z2, z3⟩ := freeze_facts (w := w) (q := q + c) hm0 hcur
        refine .of_ok (v := .string ⟨l.toArray⟩) (W' := w.freeze ⟨b, q + c, none⟩ m) ?_ ⟨E, hw.frz hcold hcur hself hsize hoth, .sc _ rfl .nil, ⟨.refl _, z1, z2, z3, by omega, fun b' _ hn _ => hoth b' (fun e => by rw [e, hbl] at hn; cases hn), fun _ _ => rfl, fun _ _ h => .inl h⟩⟩
        have hq' : evF T y = .int .i64 (m : Int) := hq
        simp [execOp, ho, resolve, invoke, builtin, hp, hq', hrun]
      · cases he
    · cases he
  · cases he
end
end Go.Proofs.YtpinhcdcnaaihaaGreatDoor
