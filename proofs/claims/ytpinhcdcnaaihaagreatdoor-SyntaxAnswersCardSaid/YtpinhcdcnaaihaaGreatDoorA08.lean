import Derived.Test.YtpinhcdcnaaihaaGreatDoorA07
namespace Go.Proofs.YtpinhcdcnaaihaaGreatDoor
open Go.RowKit
theorem wp_monoQ {P : Program} {o : Oper} {a : Act} {w : World} {K K' : Act → World → Prop} {Q Q' : Exit → Act → World → Prop} (h : ∀ a w, K a w → K' a w) (hq : ∀ e a w, Q e a w → Q' e a w) (hh : o.wp P a w K Q) : o.wp P a w K' Q' := by
  unfold Oper.wp at *
  generalize (execOp a.eval o).run P w = r at *
  cases r with
  | ok n w' =>
    cases n <;> simp only [Oper.upon] at hh ⊢ <;>
      first
        | exact h _ _ hh
        | exact Calls.mono hh (fun e w'' he => by
            cases e with
            | returned v => exact h _ _ he
            | panicked c => exact hq _ _ _ he
            | outgrown => obtain ⟨a, w, ho⟩ := he; exact ⟨a, w, hq _ _ _ ho⟩)
        | exact Rows.mono hh (fun _ _ he => h _ _ he)
  | halt x w' => cases x <;> simp only [Oper.upon] at hh ⊢ <;> first | exact hq _ _ _ hh | exact hh
theorem wpOne_mono {P : Program} {ops : Array Oper} {o : Oper} {a : Act} {w : World} {Q Q' : Exit → Act → World → Prop} (hq : ∀ e a w, Q e a w → Q' e a w) (hh : wpList P ops Q [o] a w) : wpList P ops Q' [o] a w := by
  simp only [wpList] at hh ⊢
  split
  · next hw =>
    rw [if_pos hw] at hh
    rcases hh with hh | ⟨h1, a', w', h2⟩
    · exact .inl (wp_monoQ (fun a w => hq .normal a w) hq hh)
    · exact .inr ⟨h1, a', w', hq _ _ _ h2⟩
  · next hw =>
    rw [if_neg hw] at hh
    exact hq _ _ _ hh
def upL (L : Nat → Bool) (i : Nat) : Nat → Bool := fun j => cond (Nat.beq j i) true (L j)
structure Kn (ops : Array Oper) (L : Nat → Bool) (i : Nat) : Prop where
  self : L i = false
  up : ∀ n j, (!Nat.beq j i && reach ops n i j) = true → L j = true
  down : ∀ n j, reach ops n j i = true → L j = false
def KeepsP (S : St) : List (Nat × Tree) → Prop
  | [] => True
  | (i, t) :: l => S.get i = t ∧ KeepsP S l
theorem KeepsP.get {S : St} : ∀ {l : List (Nat × Tree)}, KeepsP S l → ∀ i, look l i = .any ∨ look l i = S.get i
  | [], _, _ => .inl rfl
  | (j, t) :: l, h, i => by
    rw [look_cons]
    split
    · next e => subst e; exact .inr h.1.symm
    · exact h.2.get i
structure LeP (S S' : St) : Prop where
  n : S'.n = S.n
  bs : S'.bs = S.bs
  rs : S'.rs = S.rs
  sl : KeepsP S S'.sl
section
variable {w0 : World} {G0 : Bse} {Q : Exit → St → Prop} {S : St}
theorem Sim.leP {S' : St} {a : Act} {w : World} (h : Sim w0 G0 S a w) (hl : LeP S S') : Sim w0 G0 S' a w := by
  obtain ⟨bx, rv, hm, hn, hdf, hsl⟩ := h
  refine ⟨bx, rv, by rw [hl.bs, hl.rs]; exact hm, by rw [hl.n]; exact hn, hdf, fun i => ?_⟩
  rw [hl.rs]
  show FT _ _ [look S'.sl i]
  rcases hl.sl.get i with h1 | h1
  · rw [h1]; exact .any _ .nil
  · rw [h1]; exact hsl i
theorem Sim.drew {a : Act} {w : World} (h : Sim w0 G0 S a w) : Sim w0 G0 S a w.drew := by
  obtain ⟨bx, rv, hm, hn, hdf, hsl⟩ := h
  exact ⟨bx, rv, hm.later (Below.refl _ _).drew, hn, hdf, fun i => (hsl i).later (Below.refl _ _).drew⟩
inductive StepsD (w0 : World) (G0 : Bse) (ops : Array Oper) (SS : (Nat → Bool) → St → Prop) : Nat → List Oper → Prop
  | nil {i : Nat} : StepsD w0 G0 ops SS i []
  | op {i : Nat} {o : Oper} {os : List Oper} (h : ∀ L, Kn ops L i → ∀ S, SS L S → AOps w0 G0 ops [o] (fun e S' => e = .normal ∧ ∃ Sx, SS (upL L i) Sx ∧ LeP S' Sx) S) (hs : StepsD w0 G0 ops SS (i + 1) os) : StepsD w0 G0 ops SS i (o :: os)
end
theorem sc_pt (W : World) (G : Nat → Prop) : ∀ zs : List Value, PT W G zs (zs.map Tree.sc)
  | [] => .nil
  | z :: zs => .sc z (sc_pt W G zs)
theorem ok_buildN {S : St} {o : Oper} {t : TypeId} {parts : Array (Nat × Operand)} {pl : List (Nat × Nat)} {zs : List Value} {qs : List (Nat × Tree)} {rs : List Tree} (ho : o.op = .build t parts) (hl : strT Tryz.prog t = some (pl, zs)) (hq : parts.toList.map (fun p => (p.1, S.ev p.2)) = qs) (hone : (qs.all fun q => q.2.oneA) = true) (hr : fillT (pl[·]?) (zs.map Tree.sc) qs = some rs) : OpOK o S (.agg rs) := by
  intro w0 G0 bx rv w T hm hT
  have hf := parts_ft (S := S) hT parts.toList (fun p hp => by rw [ho]; simp only [Op.operands, List.mem_map]; exact ⟨p, hp, rfl⟩)
  unfold strT at hl
  split at hl
  · next fs i hu hi =>
    cases hz : i.zero with
    | none => simp [hz] at hl
    | some z =>
      simp only [hz, Option.bind_some, Option.map_eq_some_iff, Prod.mk.injEq] at hl
      obtain ⟨pl', hpl, rfl, rfl⟩ := hl
      have hrp := run_places (w := w) hpl
      rw [hq] at hf
      obtain ⟨us, h1, h2⟩ := fill_ft (E := en w G0 bx rv S.rs) (place := (pl'[·]?)) (ps := parts.toList.map fun p => (p.1, evT T p.2)) (qs := qs) (cells := z.cells) (ts := z.cells.toList.map Tree.sc) (by rw [← hq]; simp) hf hone (.of (sc_pt _ _ _)) hr
      refine OpRuns.of_ok (v := .agg us) (W' := w) ?_ ⟨?_, Below.refl _ _⟩
      · have hmm : (fs.mapM (m := Sem) fun f => do pure (f.offset, ← sizeOf f.type)).run Tryz.prog w = .ok pl'.toArray w := by
          rw [Array.mapM_eq_mapM_toList, Sem.run_map, hrp]
          rfl
        have h1' : Instr.fill (fun x => pl'.toArray[x]?) z.cells (parts.map fun p => (p.1, evT T p.2)).toList = some us := by
          rw [← h1]
          simp
        have hz' : (zeroValue t).run Tryz.prog w = .ok z w := by simp [zeroValue, typeInfo, hi, hz]
        have hrun : (Instr.build t (parts.map fun p => (p.1, evT T p.2))).run Tryz.prog w = .ok (.agg us) w := by
          unfold Instr.build
          rw [Sem.run_bind, hz', Result.andThen_ok, Sem.run_bind, run_underlying hu, Result.andThen_ok]
          simp only
          rw [Sem.run_bind, hmm, Result.andThen_ok]
          simp only [h1']
          rfl
        simp [execOp, ho, hrun]
      · have : FT (en w G0 bx rv S.rs) [.agg us.toList.toArray] [.agg rs] := .agg _ _ h2 .nil
        simpa using this
  · cases hl
section
variable {w0 w : World} {G0 : Bse} {bs : List (TypeId × List Tree)} {rs : List (Option Row)} {bx : List Nat} {rv : List Value} {e sz : Nat}
theorem nil_blocks (hnr : rv.length = rs.length) (b : Nat) (hb : b ∈ blocks bx (rv ++ [.slice none 0 0]) (rs ++ [some ⟨e, sz, [], false⟩])) : b ∈ blocks bx rv rs := by
  rcases mem_blocks.1 hb with h1 | ⟨j, u, X, h1, h2, h3⟩
  · exact mem_blocks.2 (.inl h1)
  · rcases addRow_get hnr j u X h1 h2 with ⟨_, rfl, _⟩ | ⟨_, h4, h5⟩
    · simp [Value.ownBlock] at h3
    · exact mem_blocks.2 (.inr ⟨j, u, X, h4, h5, h3⟩)
theorem nil_mono (hnr : rv.length = rs.length) : ∀ b, b < w.heap.size → ¬ GG G0 bx rv rs b → w.heap[b]? = w.heap[b]? ∧ ¬ GG G0 bx (rv ++ [.slice none 0 0]) (rs ++ [some ⟨e, sz, [], false⟩]) b := fun b _ hG => ⟨rfl, fun h => hG (h.imp id (nil_blocks hnr b))⟩
theorem nil_ft (hnr : rv.length = rs.length) {us : List Value} {ts : List Tree} (h : FT (en w G0 bx rv rs) us ts) : FT (en w G0 bx (rv ++ [.slice none 0 0]) (rs ++ [some ⟨e, sz, [], false⟩])) us ts := h.mono (Nat.le_refl _) (nil_mono hnr) (fun _ _ h => h) fun j u h => by
  have h : rvOf rv rs j = some u := h
  show rvOf (rv ++ [.slice none 0 0]) (rs ++ [some ⟨e, sz, [], false⟩]) j = some u
  unfold rvOf at h ⊢
  cases hj : rs[j]? with
  | none => simp [hj] at h
  | some r =>
    have hl := (List.getElem?_eq_some_iff.1 hj).1
    rw [List.getElem?_append_left hl, List.getElem?_append_left (by omega)]
    exact h
theorem Mem.addNil (hm : Mem w0 G0 bs rs bx rv w) : Mem w0 G0 bs (rs ++ [some ⟨e, sz, [], false⟩]) bx (rv ++ [.slice none 0 0]) w := by
  have hnr := hm.nr
  refine ⟨hm.below, hm.env0, hm.g0, hm.nb, by simp [hnr], fun i g hi => ?_, fun j u X h1 h2 => ?_, ⟨hm.nodup.bb, fun j u X b h1 h2 h3 => ?_, fun i j u v X Y b hij h1 h2 h3 h4 h5 h6 => ?_⟩, fun b hb => hm.ge b (nil_blocks hnr b hb), hm.pin⟩
  · obtain ⟨ty, cs, us, h1, h2, h3, h4⟩ := hm.box i g hi
    exact ⟨ty, cs, us, h1, h2, nil_ft hnr h3, h4⟩
  · rcases addRow_get hnr j u X h1 h2 with ⟨_, rfl, rfl⟩ | ⟨_, h4, h5⟩
    · exact ⟨[], World.ownsRow_nil _ _ _ _, .nil, ⟨(fun _ h => by cases h), fun h => by cases h⟩, (fun g hg => by cases hg)⟩
    · obtain ⟨xs, h6, h7, h8, h9⟩ := hm.row j u X h4 h5
      exact ⟨xs, h6, h7.mono (Nat.le_refl _) (nil_mono hnr), h8, h9⟩
  · rcases addRow_get hnr j u X h1 h2 with ⟨_, rfl, _⟩ | ⟨_, h4, h5⟩
    · simp [Value.ownBlock] at h3
    · exact hm.nodup.br j u X b h4 h5 h3
  · rcases addRow_get hnr i u X h1 h2 with ⟨_, rfl, _⟩ | ⟨_, a1, a2⟩
    · simp [Value.ownBlock] at h5
    · rcases addRow_get hnr j v Y h3 h4 with ⟨_, rfl, _⟩ | ⟨_, b1, b2⟩
      · simp [Value.ownBlock] at h6
      · exact hm.nodup.rr i j u v X Y b hij a1 a2 b1 b2 h5 h6
theorem ft_retype {E : En} {t' : Tree} (h : ∀ v, FT E [v] [.sc (.slice none 0 0)] → FT E [v] [t']) : ∀ {us : List Value} {ts : List Tree} (off : Nat), FT E us ts → ts[off]? = some (.sc (.slice none 0 0)) → FT E us (ts.set off t')
  | [], [], _, _, ht => by simp at ht
  | [], _ :: _, _, h', _ => by cases h'
  | _ :: _, [], _, h', _ => by cases h'
  | u :: us, t :: ts, 0, h', ht => by
    simp only [List.getElem?_cons_zero, Option.some.injEq] at ht
    subst ht
    exact FT.cons (h u h'.head) h'.tail
  | u :: us, t :: ts, off + 1, h', ht => FT.cons h'.head (ft_retype h off h'.tail (by simpa using ht))
end
section
variable {w0 : World} {G0 : Bse} {Q : Exit → St → Prop} {n : Nat} {sl : List (Nat × Tree)} {bs : List (TypeId × List Tree)} {rs : List (Option Row)}
theorem AWP.begin {c : Code} (b off e sz : Nat) {ty : TypeId} {cs : List Tree} (hb : bs[b]? = some (ty, cs)) (hc : cs[off]? = some (.sc (.slice none 0 0))) {bs' : List (TypeId × List Tree)} {rs' : List (Option Row)} (hbs : bs.set b (ty, cs.set off (.own rs.length)) = bs') (hrs : rs ++ [some ⟨e, sz, [], false⟩] = rs') (h : AWP w0 G0 c Q ⟨n, sl, bs', rs'⟩) : AWP w0 G0 c Q ⟨n, sl, bs, rs⟩ := by
  subst hbs hrs
  rintro a w ⟨bx, rv, hm, hsz, hdf, hsl⟩
  have hnr : rv.length = rs.length := hm.nr
  have hm2 : Mem w0 G0 bs (rs ++ [some ⟨e, sz, [], false⟩]) bx (rv ++ [.slice none 0 0]) w := hm.addNil
  refine h a w ⟨bx, rv ++ [.slice none 0 0], ⟨hm2.below, hm2.env0, hm2.g0, by simp [hm2.nb], hm2.nr, fun i g hi => ?_, hm2.row, hm2.nodup, hm2.ge, hm2.pin⟩, hsz, hdf, fun i => nil_ft hnr (hsl i)⟩
  obtain ⟨ty', cs', us, h1, h2, h3, h4⟩ := hm2.box i g hi
  by_cases hib : i = b
  · subst hib
    rw [hb] at h1
    cases h1
    refine ⟨ty, cs.set off (.own rs.length), us, by rw [List.getElem?_set_self (List.getElem?_eq_some_iff.1 hb).1], h2, ft_retype (fun v hv => ?_) off h3 hc, h4⟩
    obtain rfl := hv.isSc
    refine .own _ 0 0 none ?_ .nil
    show rvOf (rv ++ [.slice none 0 0]) (rs ++ [some ⟨e, sz, [], false⟩]) rs.length = _
    unfold rvOf
    rw [List.getElem?_append_right (Nat.le_refl _), Nat.sub_self, List.getElem?_append_right (by omega), show rs.length - rv.length = 0 by omega]
    rfl
  · exact ⟨ty', cs', us, by rw [List.getElem?_set_ne (fun e => hib e.symm)]; exact h1, h2, h3, h4⟩
end
end Go.Proofs.YtpinhcdcnaaihaaGreatDoor
