import Derived.Test.YtpinhcdcnaaihaaGreatDoorA02
import Derived.Deep.MidRow
import Derived.Laws.IdiomStrings
import Derived.Lib.BufferRead
namespace Go.Proofs.YtpinhcdcnaaihaaGreatDoor
open Go.RowKit
structure Row where
  e : TypeId
  sz : Nat
  es : List Tree
  tt : Bool
structure St where
  n : Nat
  sl : List (Nat × Tree)
  bs : List (TypeId × List Tree)
  rs : List (Option Row)
def look : List (Nat × Tree) → Nat → Tree
  | [], _ => .any
  | (i, t) :: l, j => cond (Nat.beq i j) t (look l j)
theorem look_cons (i : Nat) (t : Tree) (l : List (Nat × Tree)) (j : Nat) : look ((i, t) :: l) j = if i = j then t else look l j := by
  simp only [look]
  by_cases h : i = j
  · subst h; simp
  · rw [if_neg h]
    have : Nat.beq i j = false := by
      cases hb : Nat.beq i j with
      | false => rfl
      | true => exact absurd (Nat.eq_of_beq_eq_true hb) h
    rw [this]; rfl
def St.get (S : St) (i : Nat) : Tree := look S.sl i
def St.put (S : St) (d : Option Nat) (t : Tree) : St :=
  match d with
  | some d => { S with sl := (d, t) :: S.sl }
  | none => S
def St.ev (S : St) : Operand → Tree
  | .tmp s => S.get s
  | .const v => .sc v
  | .global g => .sc (.pointer (some ⟨g, 0, none⟩))
  | .func f => .sc (.func (.func f) #[] #[])
def dstOk (n : Nat) : Option Nat → Bool
  | some d => decide (d < n)
  | none => true
def noDigV : Value → Bool
  | .int .u32 _ => false
  | _ => true
def NoDigB (w : World) (g : Nat) : Prop := ∀ i u, w.cell? ⟨g, i, none⟩ = some u → noDigV u = true
theorem NoDigB.of {w w' : World} {g : Nat} (h : NoDigB w g) (hk : w'.heap[g]? = w.heap[g]?) : NoDigB w' g := fun i u hu => h i u (by rw [← hu]; exact (World.cell?_of_block hk).symm)
def TightV (v : Value) : Prop := ∀ A m c, v = .slice A m c → c = m
def blocks (bx : List Nat) (rv : List Value) (rs : List (Option Row)) : List Nat := bx ++ (rv.zip rs).filterMap fun p => p.2.bind fun _ => p.1.ownBlock
structure Bse where
  G : Nat → Prop
  X : Nat → Prop
  pn : Nat
  P : Nat → Nat
def pln (G : Nat → Prop) : Bse := ⟨G, fun _ => False, 0, fun _ => 0⟩
structure Kept (w0 : World) (X : Nat → Prop) (w : World) : Prop where
  os : w.os = w0.os
  tape : w.tape = w0.tape
  output : w.output = w0.output
  size : w0.heap.size ≤ w.heap.size
  block : ∀ k, k < w0.heap.size → ¬ X k → w.heap[k]? = w0.heap[k]?
theorem Kept.refl (w : World) (X : Nat → Prop) : Kept w X w := ⟨rfl, rfl, rfl, Nat.le_refl _, fun _ _ _ => rfl⟩
theorem Kept.then {w0 w w' : World} {X : Nat → Prop} (h : Kept w0 X w) (hb : Below w.heap.size w w') : Kept w0 X w' := ⟨hb.os.trans h.os, hb.tape.trans h.tape, hb.output.trans h.output, Nat.le_trans h.size hb.size, fun k hk hX => (hb.block k (Nat.lt_of_lt_of_le hk h.size)).trans (h.block k hk hX)⟩
theorem Kept.grown {w0 w w' : World} {X : Nat → Prop} {row : Option Nat} (h : Kept w0 X w) (hg : w.grownBy w' row) (hr : ∀ k, row = some k → w0.heap.size ≤ k ∨ X k) : Kept w0 X w' := ⟨hg.os.trans h.os, hg.tape.trans h.tape, hg.output.trans h.output, Nat.le_trans h.size hg.size, fun k hk hX => (hg.block k (Nat.lt_of_lt_of_le hk h.size) (fun e => by rcases hr k e.symm with h1 | h1; (· omega); exact hX h1)).trans (h.block k hk hX)⟩
theorem Kept.below {w0 w : World} (h : Kept w0 (fun _ => False) w) : Below w0.heap.size w0 w := ⟨h.os, h.tape, h.output, h.size, fun k hk => h.block k hk id⟩
def EnvX (w0 : World) (X : Nat → Prop) : Prop := ∃ wE, Env wE ∧ Below wE.heap.size wE w0 ∧ ∀ b, X b → wE.heap.size ≤ b
theorem EnvX.pln {w : World} (h : Env w) : EnvX w (fun _ => False) := ⟨w, h, Below.refl _ _, fun _ h => h.elim⟩
theorem EnvX.at {w0 w : World} {X : Nat → Prop} (h : EnvX w0 X) (hk : Kept w0 X w) : ∃ wE, Env wE ∧ Below wE.heap.size wE w ∧ wE.heap.size ≤ w0.heap.size ∧ ∀ b, X b → wE.heap.size ≤ b := by
  obtain ⟨wE, h1, h2, h3⟩ := h
  exact ⟨wE, h1, ⟨hk.os.trans h2.os, hk.tape.trans h2.tape, hk.output.trans h2.output, Nat.le_trans h2.size hk.size, fun k hlt => (hk.block k (Nat.lt_of_lt_of_le hlt h2.size) fun hx => by have := h3 k hx; omega).trans (h2.block k hlt)⟩, h2.size, h3⟩
theorem EnvX.env {w0 w : World} {X : Nat → Prop} (h : EnvX w0 X) (hk : Kept w0 X w) : Env w := by
  obtain ⟨wE, h1, h2, _⟩ := h.at hk
  exact h1.below h2 (Nat.le_refl _)
theorem EnvX.env0 {w0 : World} {X : Nat → Prop} (h : EnvX w0 X) : Env w0 := h.env (Kept.refl _ _)
def GG (G0 : Bse) (bx : List Nat) (rv : List Value) (rs : List (Option Row)) : Nat → Prop := fun b => G0.G b ∨ b ∈ blocks bx rv rs
def rvOf (rv : List Value) (rs : List (Option Row)) (k : Nat) : Option Value := ((rs[k]?).bind id).bind fun _ => rv[k]?
def en (w : World) (G0 : Bse) (bx : List Nat) (rv : List Value) (rs : List (Option Row)) : En := ⟨w, GG G0 bx rv rs, fun i => bx[i]?, rvOf rv rs⟩
structure Apart (bx : List Nat) (rv : List Value) (rs : List (Option Row)) : Prop where
  bb : bx.Nodup
  br : ∀ (k : Nat) (v : Value) (R : Row) (b : Nat), rv[k]? = some v → rs[k]? = some (some R) → v.ownBlock = some b → b ∉ bx
  rr : ∀ (j k : Nat) (u v : Value) (X R : Row) (b : Nat), j ≠ k → rv[j]? = some u → rs[j]? = some (some X) → rv[k]? = some v → rs[k]? = some (some R) → u.ownBlock = some b → v.ownBlock = some b → False
structure Mem (w0 : World) (G0 : Bse) (bs : List (TypeId × List Tree)) (rs : List (Option Row)) (bx : List Nat) (rv : List Value) (w : World) : Prop where
  below : Kept w0 G0.X w
  env0 : EnvX w0 G0.X
  g0 : ∀ g, G0.G g → g < w0.heap.size ∧ NoDigB w0 g ∧ ¬ G0.X g
  nb : bx.length = bs.length
  nr : rv.length = rs.length
  box : ∀ (i g : Nat), bx[i]? = some g → ∃ ty cs us, bs[i]? = some (ty, cs) ∧ IsBlk w g ty us.toArray ∧ FT (en w G0 bx rv rs) us cs ∧ us.all noDigV = true
  row : ∀ (k : Nat) (v : Value) (R : Row), rv[k]? = some v → rs[k]? = some (some R) → ∃ xs, w.ownsRow 0 R.e R.sz v R.es.length xs ∧ PT w (GG G0 bx rv rs) xs (flat R.es) ∧ (Sized R.sz R.es ∧ (R.tt = true → TightV v)) ∧ ∀ g, v.ownBlock = some g → NoDigB w g
  nodup : Apart bx rv rs
  ge : ∀ b ∈ blocks bx rv rs, w0.heap.size ≤ b ∨ G0.X b
  pin : ∀ i, i < G0.pn → bx[i]? = some (G0.P i)
section
variable {w0 w w' : World} {G0 : Bse} {bs : List (TypeId × List Tree)} {rs : List (Option Row)} {bx : List Nat} {rv : List Value}
theorem FT.later {us : List Value} {ts : List Tree} (h : FT (en w G0 bx rv rs) us ts) (hb : Below w.heap.size w w') : FT (en w' G0 bx rv rs) us ts :=
  h.mono hb.size (fun b hlt hG => ⟨hb.block b hlt, hG⟩) (fun _ _ h => h) (fun _ _ h => h)
theorem Mem.later (h : Mem w0 G0 bs rs bx rv w) (hb : Below w.heap.size w w') : Mem w0 G0 bs rs bx rv w' := by
  refine ⟨h.below.then hb, h.env0, h.g0, h.nb, h.nr, fun i g hi => ?_, fun k v R hv hR => ?_, h.nodup, h.ge, h.pin⟩
  · obtain ⟨ty, cs, us, h1, h2, h3, h4⟩ := h.box i g hi
    exact ⟨ty, cs, us, h1, h2.below hb h2.lt, h3.later hb, h4⟩
  · obtain ⟨xs, h1, h2, h3, h4⟩ := h.row k v R hv hR
    exact ⟨xs, own_below h1 hb, h2.later hb, h3, fun g hg => (h4 g hg).of (hb.block g (h1.lt g hg).2)⟩
theorem Mem.env (h : Mem w0 G0 bs rs bx rv w) : Env w := h.env0.env h.below
theorem mem_blocks {b : Nat} : b ∈ blocks bx rv rs ↔ b ∈ bx ∨ ∃ (k : Nat) (v : Value) (R : Row), rv[k]? = some v ∧ rs[k]? = some (some R) ∧ v.ownBlock = some b := by
  simp only [blocks, List.mem_append, List.mem_filterMap]
  refine or_congr Iff.rfl ⟨?_, ?_⟩
  · rintro ⟨⟨v, r⟩, hm, hb⟩
    obtain ⟨k, hk, he⟩ := List.getElem_of_mem hm
    simp only [List.getElem_zip, Prod.mk.injEq] at he
    have hk' : k < rv.length ∧ k < rs.length := by rw [List.length_zip] at hk; omega
    cases r with
    | none => simp at hb
    | some R =>
      refine ⟨k, v, R, ?_, ?_, by simpa using hb⟩
      · rw [List.getElem?_eq_getElem hk'.1, he.1]
      · rw [List.getElem?_eq_getElem hk'.2, he.2]
  · rintro ⟨k, v, R, hv, hR, hb⟩
    refine ⟨(v, some R), ?_, by simpa using hb⟩
    refine List.mem_of_getElem? (i := k) ?_
    rw [List.getElem?_zip_eq_some]
    exact ⟨hv, hR⟩
theorem Mem.ok (h : Mem w0 G0 bs rs bx rv w) : ∀ g, GG G0 bx rv rs g → g < w.heap.size ∧ NoDigB w g := by
  rintro g (hg | hg)
  · have h1 := h.g0 g hg
    exact ⟨Nat.lt_of_lt_of_le h1.1 h.below.size, h1.2.1.of (h.below.block g h1.1 h1.2.2)⟩
  · rcases mem_blocks.1 hg with h1 | ⟨k, v, R, hv, hR, hb⟩
    · obtain ⟨i, hi, rfl⟩ := List.getElem_of_mem h1
      obtain ⟨ty, cs, us, _, h2, _, h4⟩ := h.box i _ (List.getElem?_eq_getElem hi)
      refine ⟨h2.lt, fun j u hu => ?_⟩
      rw [h2.cell j] at hu
      exact List.all_eq_true.1 h4 u (List.mem_of_getElem? (by simpa using hu))
    · obtain ⟨xs, h1, _, _, h4⟩ := h.row k v R hv hR
      exact ⟨(h1.lt g hb).2, h4 g hb⟩
end
def Sim (w0 : World) (G0 : Bse) (S : St) (a : Act) (w : World) : Prop :=
  ∃ bx rv, Mem w0 G0 S.bs S.rs bx rv w ∧ a.tmps.size = S.n ∧ a.defers = [] ∧ ∀ i, FT (en w G0 bx rv S.rs) [a.tmps.getD i undef] [S.get i]
def lift (w0 : World) (G0 : Bse) (Q : Exit → St → Prop) (e : Exit) (a : Act) (w : World) : Prop := ∃ S, Q e S ∧ Sim w0 G0 S a w
def opSlots (o : Op) : List Nat := o.operands.toList.filterMap fun | .tmp t => some t | _ => none
def OpOK (o : Oper) (S : St) (t : Tree) : Prop := ∀ (w0 : World) (G0 : Bse) (bx : List Nat) (rv : List Value) (w : World) (T : Nat → Value), Mem w0 G0 S.bs S.rs bx rv w →
  (∀ s, (opSlots o.op).contains s = true → FT (en w G0 bx rv S.rs) [T s] [S.get s]) → OpRuns Tryz.prog o T w fun v w' => FT (en w' G0 bx rv S.rs) [v] [t] ∧ Below w.heap.size w w'
def AOps (w0 : World) (G0 : Bse) (ops : Array Oper) (rest : List Oper) (Q : Exit → St → Prop) (S : St) : Prop := ∀ a w, Sim w0 G0 S a w → wpList Tryz.prog ops (lift w0 G0 Q) rest a w
def AWP (w0 : World) (G0 : Bse) (c : Code) (Q : Exit → St → Prop) (S : St) : Prop := ∀ a w, Sim w0 G0 S a w → c.wp Tryz.prog (lift w0 G0 Q) a w
section
variable {w0 : World} {G0 : Bse} {ops : Array Oper} {rest : List Oper} {Q : Exit → St → Prop} {S : St} {o : Oper}
theorem put_getD (a : Act) (d : Option Nat) (v : Value) (n : Nat) (hn : a.tmps.size = n) (hd : dstOk n d = true) (i : Nat) : (a.put d v).tmps.getD i undef = if d = some i then v else a.tmps.getD i undef := by
  cases d with
  | none => simp [Act.put]
  | some d =>
    simp only [dstOk, decide_eq_true_eq] at hd
    simp only [Act.put, Option.some.injEq]
    by_cases h : d = i
    · subst h
      rw [if_pos rfl, Array.getD_eq_getD_getElem?, Array.getElem?_setIfInBounds_self_of_lt (by omega)]
      rfl
    · rw [if_neg h, Array.getD_eq_getD_getElem?, Array.getD_eq_getD_getElem?, Array.getElem?_setIfInBounds_ne h]
theorem put_size (a : Act) (d : Option Nat) (v : Value) : (a.put d v).tmps.size = a.tmps.size := by cases d <;> simp [Act.put]
theorem put_defers (a : Act) (d : Option Nat) (v : Value) : (a.put d v).defers = a.defers := by cases d <;> rfl
theorem St.put_get (S : St) (d : Option Nat) (t : Tree) (i : Nat) : (S.put d t).get i = if d = some i then t else S.get i := by
  cases d with
  | none => simp [St.put]
  | some d => simp only [St.put, St.get, look_cons, Option.some.injEq]
theorem St.put_n (S : St) (d : Option Nat) (t : Tree) : (S.put d t).n = S.n := by cases d <;> rfl
theorem St.put_bs (S : St) (d : Option Nat) (t : Tree) : (S.put d t).bs = S.bs := by cases d <;> rfl
theorem St.put_rs (S : St) (d : Option Nat) (t : Tree) : (S.put d t).rs = S.rs := by cases d <;> rfl
theorem slots_put {a : Act} {w w' : World} {bx : List Nat} {rv : List Value} {t : Tree} {v : Value} {rs : List (Option Row)} (hn : a.tmps.size = S.n) (hd : dstOk S.n o.dst = true) (hb : ∀ us ts, FT (en w G0 bx rv S.rs) us ts → FT (en w' G0 bx rv rs) us ts)
    (hs : ∀ i, FT (en w G0 bx rv S.rs) [a.tmps.getD i undef] [S.get i]) (hv : FT (en w' G0 bx rv rs) [v] [t]) : ∀ i, FT (en w' G0 bx rv rs) [(a.put o.dst v).tmps.getD i undef] [(S.put o.dst t).get i] := fun i => by
  rw [put_getD a o.dst v S.n hn hd, St.put_get]
  split
  · exact hv
  · exact hb _ _ (hs i)
theorem AOps.nil (h : Q .normal S) : AOps w0 G0 ops [] Q S := fun _ _ hs => ⟨S, h, hs⟩
theorem AOps.step (hw : ∀ a w, Sim w0 G0 S a w → Region.wanted o (yielded ops a.tmps) = true) (hd : dstOk S.n o.dst = true) {t : Tree} (h : OpOK o S t) (k : AOps w0 G0 ops rest Q (S.put o.dst t)) : AOps w0 G0 ops (o :: rest) Q S := by
  intro a w hs
  have hw := hw a w hs
  obtain ⟨bx, rv, hm, hn, hdf, hsl⟩ := hs
  refine wpList_wanted hw fun K hK => ?_
  have h1 := (h w0 G0 bx rv w (fun s => a.tmps.getD s undef) hm fun s _ => hsl s).wp (Q := lift w0 G0 Q)
  refine Oper.wp_mono ?_ h1
  rintro a' w' ⟨v, rfl, hv, hb⟩
  refine hK _ _ (k _ _ ⟨bx, rv, ?_, by rw [put_size, St.put_n, hn], by rw [put_defers, hdf], ?_⟩)
  · rw [St.put_bs, St.put_rs]; exact hm.later hb
  · rw [St.put_rs]; exact slots_put hn hd (fun _ _ h => h.later hb) hsl hv
theorem AOps.ok (hg : o.guard = none) (hd : dstOk S.n o.dst = true) {t : Tree} (h : OpOK o S t) (k : AOps w0 G0 ops rest Q (S.put o.dst t)) : AOps w0 G0 ops (o :: rest) Q S :=
  AOps.step (fun _ _ _ => by simp [Region.wanted, hg]) hd h k
theorem AWP.region {id : Nat} {ops : List Oper} (h : AOps w0 G0 ops.toArray ops Q S) : AWP w0 G0 (.region id ops.toArray false) Q S := fun a w hs => wp_region_list (by simpa using h a w hs)
end
end Go.Proofs.YtpinhcdcnaaihaaGreatDoor
namespace Go.Proofs.YtpinhcdcnaaihaaGreatDoor
open Go.RowKit
def aggT (P : Program) (t : TypeId) : Option Nat :=
  match P.underlying t with
  | some d => if d.isRow then (P.info? t).map (·.size) else none
  | none => none
def oneT (P : Program) (t : TypeId) : Bool :=
  match P.underlying t with
  | some d => !d.isRow
  | none => false
def fldT (P : Program) (s : TypeId) (j : Nat) : Option Nat :=
  match P.underlying s with
  | some (.struct fs) => (fs[j]?).bind fun f => (P.info? f.type).bind fun i => if i.size = 0 then none else some f.offset
  | _ => none
def elmT (P : Program) (t : TypeId) : Option (TypeId × Nat) :=
  match P.underlying t with
  | some (.slice e) => (P.info? e).map fun i => (e, i.size)
  | _ => none
theorem aggT_of {P : Program} {t : TypeId} {n : Nat} (h : aggT P t = some n) : ∃ d, P.underlying t = some d ∧ d.isRow = true ∧ (P.info? t).map (·.size) = some n := by
  unfold aggT at h
  cases hd : P.underlying t with
  | none => simp [hd] at h
  | some d =>
    simp only [hd] at h
    split at h
    · exact ⟨d, rfl, by assumption, h⟩
    · cases h
theorem oneT_of {P : Program} {t : TypeId} (h : oneT P t = true) : ∃ d, P.underlying t = some d ∧ d.isRow = false := by
  unfold oneT at h
  cases hd : P.underlying t with
  | none => simp [hd] at h
  | some d => exact ⟨d, rfl, by simpa [hd] using h⟩
theorem fldT_of {P : Program} {s : TypeId} {j o : Nat} (h : fldT P s j = some o) : ∃ fs f i, P.underlying s = some (.struct fs) ∧ fs[j]? = some f ∧ P.info? f.type = some i ∧ i.size ≠ 0 ∧ f.offset = o := by
  unfold fldT at h
  split at h
  · next fs hu =>
    cases hf : fs[j]? with
    | none => simp [hf] at h
    | some f =>
      simp only [hf, Option.bind_some] at h
      cases hi : P.info? f.type with
      | none => simp [hi] at h
      | some i =>
        simp only [hi, Option.bind_some] at h
        split at h
        · cases h
        · exact ⟨fs, f, i, hu, hf, hi, by assumption, by simpa using h⟩
  · cases h
theorem elmT_of {P : Program} {t e : TypeId} {n : Nat} (h : elmT P t = some (e, n)) : P.underlying t = some (.slice e) ∧ ∃ i, P.info? e = some i ∧ i.size = n := by
  unfold elmT at h
  split at h
  · next e' hu =>
    cases hi : P.info? e' with
    | none => simp [hi] at h
    | some i =>
      simp only [hi, Option.map_some, Option.some.injEq, Prod.mk.injEq] at h
      obtain ⟨rfl, rfl⟩ := h
      exact ⟨hu, i, hi, rfl⟩
  · cases h
section
variable {P : Program} {w : World}
theorem run_load_one {b o : Nat} {t : TypeId} {u : Value} (h : oneT P t = true) (hc : w.cell? ⟨b, o, none⟩ = some u) : (Instr.loadAt t (.pointer (some ⟨b, o, none⟩))).run P w = .ok u w := by
  obtain ⟨d, hu, hd⟩ := oneT_of h
  have hagg : (isAgg t).run P w = .ok false w := by
    unfold isAgg
    rw [Sem.run_bind, run_underlying hu w]
    cases d <;> simp_all
  simp [Instr.loadAt, Instr.sureAddr, loadVar, hagg, hc]
theorem run_field_at {b o fo : Nat} {s : TypeId} {j : Nat} (h : fldT P s j = some fo) : (Instr.fieldAt s (.pointer (some ⟨b, o, none⟩)) j).run P w = .ok (.pointer (some ⟨b, o + fo, none⟩)) w := by
  obtain ⟨fs, f, i, hu, hf, hi, h0, rfl⟩ := fldT_of h
  simp [Instr.fieldAt, Instr.sureAddr, fieldPlace, run_underlying hu, hf, sizeOf, typeInfo, hi, h0, Addr.add_mid]
theorem run_index_sl {b o n c m : Nat} {t e : TypeId} {k : IntKind} {i : Int} (h : elmT P t = some (e, m)) (h0 : 0 ≤ i) (h1 : i < n) : (Instr.indexAt t (.slice (some ⟨b, o, none⟩) n c) (.int k i)).run P w = .ok (.pointer (some ⟨b, o + i.toNat * m, none⟩)) w := by
  obtain ⟨hu, i', hi, rfl⟩ := elmT_of h
  simp [Instr.indexAt, asIntOf, run_underlying hu, sizeOf, typeInfo, hi, h0, h1, Addr.add_mid]
end
section
variable {S : St} {o : Oper}
theorem opSlots_mem {op : Op} {s : Nat} (h : Operand.tmp s ∈ op.operands.toList) : (opSlots op).contains s = true := by
  simp only [List.contains_iff_mem, opSlots, List.mem_filterMap]
  exact ⟨_, h, rfl⟩
theorem ev_ft {E : En} {T : Nat → Value} {op : Op} (hT : ∀ s, (opSlots op).contains s = true → FT E [T s] [S.get s]) {x : Operand} (hx : x ∈ op.operands.toList) : FT E [evT T x] [S.ev x] := by
  cases x with
  | tmp s => exact hT s (opSlots_mem hx)
  | const v => exact .pure (.sc v .nil) .nil
  | global g => exact .pure (.sc _ .nil) .nil
  | func f => exact .pure (.sc _ .nil) .nil
theorem ev_ft' {E : En} {T : Nat → Value} {op : Op} (hT : ∀ s, (opSlots op).contains s = true → FT E [T s] [S.get s]) {x : Operand} {t : Tree} (ht : S.ev x = t) (hx : x ∈ op.operands.toList) : FT E [evT T x] [t] := ht ▸ ev_ft hT hx
theorem ok_move {x : Operand} {t : Tree} (ho : o.op = .move x) (ht : S.ev x = t) : OpOK o S t := by
  intro w0 G0 bx rv w T hm hT
  have h := ev_ft' hT ht (by rw [ho]; simp [Op.operands])
  exact OpRuns.of_ok (v := evT T x) (W' := w) (by simp [execOp, ho]) ⟨h, Below.refl _ _⟩
theorem ok_assign {x : Operand} {t : Tree} (ho : o.op = .assign x) (ht : S.ev x = t) : OpOK o S t := by
  intro w0 G0 bx rv w T hm hT
  have h := ev_ft' hT ht (by rw [ho]; simp [Op.operands])
  exact OpRuns.of_ok (v := evT T x) (W' := w) (by simp [execOp, ho]) ⟨h, Below.refl _ _⟩
theorem nil_pt (W : World) (G : Nat → Prop) : PT W G [.slice none 0 0] [.sl []] := .sl0 none 0 (fun _ => rfl) (by omega) .nil
theorem ok_pick {c a b : Operand} {x : Bool} {t : Tree} (ho : o.op = .pick c a b) (hc : S.ev c = .sc (.bool x)) (ht : S.ev (if x then a else b) = t) : OpOK o S t := by
  intro w0 G0 bx rv w T hm hT
  have h1 := (ev_ft' hT hc (by rw [ho]; simp [Op.operands])).isSc
  have h2 : FT (en w G0 bx rv S.rs) [evT T (if x then a else b)] [t] := ev_ft' hT ht (by rw [ho]; cases x <;> simp [Op.operands])
  refine OpRuns.of_ok (v := evT T (if x then a else b)) (W' := w) ?_ ⟨h2, Below.refl _ _⟩
  cases x <;> simp [execOp, ho, h1, asBool]
theorem FT.own_row {w0 w : World} {G0 : Bse} {bs : List (TypeId × List Tree)} {rs : List (Option Row)} {bx : List Nat} {rv : List Value} {k : Nat} {R : Row} {v : Value} (hm : Mem w0 G0 bs rs bx rv w) (hR : rs[k]? = some (some R)) (h : FT (en w G0 bx rv rs) [v] [.own k]) :
    rv[k]? = some v ∧ ∃ xs, w.ownsRow 0 R.e R.sz v R.es.length xs ∧ PT w (GG G0 bx rv rs) xs (flat R.es) ∧ (Sized R.sz R.es ∧ (R.tt = true → TightV v)) ∧ ∀ g, v.ownBlock = some g → NoDigB w g := by
  have h1 : rvOf rv rs k = some v := h.isOwn.1
  simp only [rvOf, hR, Option.bind_some, id] at h1
  exact ⟨h1, hm.row k v R h1 hR⟩
theorem ownsRow_slice {w : World} {base : Nat} {e : TypeId} {sz n : Nat} {v : Value} {xs : List Value} (h : w.ownsRow base e sz v n xs) : ∃ A c, v = .slice A n c := by
  rcases h.2 with ⟨rfl, hn⟩ | ⟨g, cap, cur, rfl, _⟩
  · exact ⟨none, 0, by rw [hn]⟩
  · exact ⟨_, _, rfl⟩
theorem ok_len {x : Operand} {t e : TypeId} {n : Nat} {es : List Tree} (ho : o.op = .call { callee := .builtin .len, args := #[x], argTypes := #[t] }) (ht : elmT Tryz.prog t = some (e, n)) (hx : S.ev x = .sl es) : OpOK o S (.sc (.int .i64 (es.length : Nat))) := by
  intro w0 G0 bx rv w T hm hT
  obtain ⟨A, c, h1, _⟩ := (ev_ft' hT hx (by rw [ho]; simp [Op.operands, Call.operands])).isSl.slice
  obtain ⟨hu, _⟩ := elmT_of ht
  refine OpRuns.of_ok (v := .int .i64 (es.length : Nat)) (W' := w) ?_ ⟨.pure (.sc _ .nil) .nil, Below.refl _ _⟩
  simp [execOp, ho, resolve, invoke, builtin, Builtin.len_, h1, run_underlying hu, goInt]
theorem ok_len_own {x : Operand} {t e : TypeId} {n k : Nat} {R : Row} (ho : o.op = .call { callee := .builtin .len, args := #[x], argTypes := #[t] }) (ht : elmT Tryz.prog t = some (e, n)) (hx : S.ev x = .own k) (hR : S.rs[k]? = some (some R)) : OpOK o S (.sc (.int .i64 (R.es.length : Nat))) := by
  intro w0 G0 bx rv w T hm hT
  obtain ⟨_, xs, h2, _⟩ := FT.own_row hm hR (ev_ft' hT hx (by rw [ho]; simp [Op.operands, Call.operands]))
  obtain ⟨A, c, h1⟩ := ownsRow_slice h2
  obtain ⟨hu, _⟩ := elmT_of ht
  refine OpRuns.of_ok (v := .int .i64 (R.es.length : Nat)) (W' := w) ?_ ⟨.pure (.sc _ .nil) .nil, Below.refl _ _⟩
  simp [execOp, ho, resolve, invoke, builtin, Builtin.len_, h1, run_underlying hu, goInt]
theorem box_of {w0 w : World} {G0 : Bse} {bs : List (TypeId × List Tree)} {rs : List (Option Row)} {bx : List Nat} {rv : List Value} {b off : Nat} {ty : TypeId} {cs : List Tree} {v : Value} (hm : Mem w0 G0 bs rs bx rv w) (hb : bs[b]? = some (ty, cs)) (h : FT (en w G0 bx rv rs) [v] [.box b off]) :
    ∃ g us, bx[b]? = some g ∧ v = .pointer (some ⟨g, off, none⟩) ∧ IsBlk w g ty us.toArray ∧ FT (en w G0 bx rv rs) us cs ∧ us.all noDigV = true := by
  obtain ⟨g, h1, rfl⟩ := h.isBox
  obtain ⟨ty', cs', us, h2, h3, h4, h5⟩ := hm.box b g h1
  rw [hb] at h2
  cases h2
  exact ⟨g, us, h1, rfl, h3, h4, h5⟩
theorem ok_load_box {r : List Tree} {x : Operand} {t ty : TypeId} {b off n : Nat} {cs : List Tree} (ho : o.op = .load t x) (hx : S.ev x = .box b off) (hb : S.bs[b]? = some (ty, cs)) (ht : aggT Tryz.prog t = some n) (hn : Nat.ble (off + n) cs.length = true) (hr : (cs.drop off).take n = r) : OpOK o S (.agg r) := by
  subst hr
  have hn : off + n ≤ cs.length := by simpa using hn
  intro w0 G0 bx rv w T hm hT
  obtain ⟨g, us, _, h1, h2, h3, _⟩ := box_of hm hb (ev_ft' hT hx (by rw [ho]; simp [Op.operands]))
  obtain ⟨d, hu, hd, hi⟩ := aggT_of ht
  have hl : ((us.drop off).take n).length = n := by have := h3.length; rw [List.length_take, List.length_drop]; omega
  have hr := run_loadAt_mid (P := Tryz.prog) w g off t ((us.drop off).take n) d (fun j v hv => by
    rw [h2.cell, List.getElem?_toArray]
    rw [List.getElem?_take] at hv
    split at hv
    · rw [List.getElem?_drop] at hv; exact hv
    · cases hv) hu hd (by rw [hl]; exact hi)
  refine OpRuns.of_ok (v := .agg ((us.drop off).take n).toArray) (W' := w) ?_ ⟨.agg _ _ ((h3.drop off).take n) .nil, Below.refl _ _⟩
  simp [execOp, ho, h1, hr]
theorem ok_load_box1 {x : Operand} {t ty : TypeId} {b off : Nat} {cs : List Tree} {c : Tree} (ho : o.op = .load t x) (hx : S.ev x = .box b off) (hb : S.bs[b]? = some (ty, cs)) (ht : oneT Tryz.prog t = true) (hn : cs[off]? = some c) : OpOK o S c := by
  intro w0 G0 bx rv w T hm hT
  obtain ⟨g, us, _, h1, h2, h3, _⟩ := box_of hm hb (ev_ft' hT hx (by rw [ho]; simp [Op.operands]))
  obtain ⟨u, hu, hf⟩ := h3.get off c hn
  have hr := run_load_one (P := Tryz.prog) (w := w) (b := g) (o := off) (u := u) ht (by rw [h2.cell, List.getElem?_toArray]; exact hu)
  refine OpRuns.of_ok (v := u) (W' := w) ?_ ⟨hf, Below.refl _ _⟩
  simp [execOp, ho, h1, hr]
theorem ok_load_ref {r : List Tree} {x : Operand} {t : TypeId} {n : Nat} {cs : List Tree} (ho : o.op = .load t x) (hx : S.ev x = .ref cs) (ht : aggT Tryz.prog t = some n) (hn : Nat.ble n cs.length = true) (hr : cs.take n = r) : OpOK o S (.agg r) := by
  subst hr
  have hn : n ≤ cs.length := by simpa using hn
  intro w0 G0 bx rv w T hm hT
  obtain ⟨b, off, xs, h1, _, _, hc, hx⟩ := (ev_ft' hT hx (by rw [ho]; simp [Op.operands])).isRef
  obtain ⟨d, hu, hd, hi⟩ := aggT_of ht
  have hl : (xs.take n).length = n := by have := hx.length; rw [List.length_take]; omega
  have hr := run_loadAt_mid (P := Tryz.prog) w b off t (xs.take n) d (fun j v hv => by
    rw [List.getElem?_take] at hv
    split at hv
    · exact hc j v hv
    · cases hv) hu hd (by rw [hl]; exact hi)
  refine OpRuns.of_ok (v := .agg (xs.take n).toArray) (W' := w) ?_ ⟨.pure (.agg _ _ (hx.take n) .nil) .nil, Below.refl _ _⟩
  simp [execOp, ho, h1, hr]
theorem ok_load_ref1 {x : Operand} {t : TypeId} {cs : List Tree} {c : Tree} (ho : o.op = .load t x) (hx : S.ev x = .ref cs) (ht : oneT Tryz.prog t = true) (hn : cs[0]? = some c) : OpOK o S c := by
  intro w0 G0 bx rv w T hm hT
  obtain ⟨b, off, xs, h1, _, _, hc, hx⟩ := (ev_ft' hT hx (by rw [ho]; simp [Op.operands])).isRef
  obtain ⟨u, hu, hf⟩ := hx.get 0 c hn
  have hr := run_load_one (P := Tryz.prog) (w := w) (b := b) (o := off) (u := u) ht (hc 0 u hu)
  refine OpRuns.of_ok (v := u) (W' := w) ?_ ⟨.pure hf .nil, Below.refl _ _⟩
  simp [execOp, ho, h1, hr]
theorem ok_field_box {r : Nat} {x : Operand} {s : TypeId} {j b off fo : Nat} (ho : o.op = .fieldAddr s x j) (hx : S.ev x = .box b off) (hf : fldT Tryz.prog s j = some fo) (hr : off + fo = r) : OpOK o S (.box b r) := by
  subst hr
  intro w0 G0 bx rv w T hm hT
  obtain ⟨g, h1, h2⟩ := (ev_ft' hT hx (by rw [ho]; simp [Op.operands])).isBox
  refine OpRuns.of_ok (v := .pointer (some ⟨g, off + fo, none⟩)) (W' := w) ?_ ⟨.box b _ g h1 .nil, Below.refl _ _⟩
  simp [execOp, ho, h2, run_field_at hf]
theorem ok_field_ref {r : List Tree} {x : Operand} {s : TypeId} {j fo : Nat} {cs : List Tree} (ho : o.op = .fieldAddr s x j) (hx : S.ev x = .ref cs) (hf : fldT Tryz.prog s j = some fo) (hr : cs.drop fo = r) : OpOK o S (.ref r) := by
  subst hr
  intro w0 G0 bx rv w T hm hT
  obtain ⟨b, off, xs, h1, hb, hG, hc, hx⟩ := (ev_ft' hT hx (by rw [ho]; simp [Op.operands])).isRef
  refine OpRuns.of_ok (v := .pointer (some ⟨b, off + fo, none⟩)) (W' := w) ?_ ⟨.pure (.ref b (off + fo) (xs.drop fo) _ hb hG (fun j u hu => ?_) (hx.drop fo) .nil) .nil, Below.refl _ _⟩
  · simp [execOp, ho, h1, run_field_at hf]
  · rw [List.getElem?_drop] at hu
    rw [Nat.add_assoc]
    exact hc _ u hu
theorem ok_index {r : List Tree} (c : Tree) {x ix : Operand} {t e : TypeId} {n : Nat} {es : List Tree} {k : IntKind} {i : Int} {j : Nat} (ho : o.op = .indexAddr t x ix) (ht : elmT Tryz.prog t = some (e, n)) (hx : S.ev x = .sl es) (hi : S.ev ix = .sc (.int k i)) (hj : i = j) (hc : es[j]? = some c) (hs : Sized n es) (hr : c.cells = r) : OpOK o S (.ref r) := by
  subst hr
  intro w0 G0 bx rv w T hm hT
  have h1 := (ev_ft' hT hi (by rw [ho]; simp [Op.operands])).isSc
  obtain ⟨A, cp, h2, _, _, _, h3⟩ := (ev_ft' hT hx (by rw [ho]; simp [Op.operands])).isSl.slice
  obtain ⟨hlt, hge⟩ := List.getElem?_eq_some_iff.1 hc
  obtain ⟨b, off, xs, rfl, hb, hG, hcl, hx⟩ := h3 (by omega)
  subst hj
  have hr := run_index_sl (P := Tryz.prog) (w := w) (b := b) (o := off) (n := es.length) (c := cp) (k := k) (i := (j : Int)) ht (by omega) (by omega)
  rw [Int.toNat_natCast] at hr
  have hcn : c.cells.length = n := hs c (List.mem_of_getElem? hc)
  have hfl := hs.flat
  have hle : (j + 1) * n ≤ es.length * n := Nat.mul_le_mul_right _ hlt
  rw [Nat.add_mul, Nat.one_mul] at hle
  refine OpRuns.of_ok (v := .pointer (some ⟨b, off + j * n, none⟩)) (W' := w) ?_ ⟨.pure (.ref b (off + j * n) ((xs.drop (j * n)).take n) _ hb hG (fun i u hu => ?_) ?_ .nil) .nil, Below.refl _ _⟩
  · simp [execOp, ho, h1, h2, hr]
  · rw [List.getElem?_take] at hu
    split at hu
    · rw [List.getElem?_drop] at hu
      rw [Nat.add_assoc]
      exact hcl _ u hu
    · cases hu
  · have h4 := (hx.drop (j * n)).take n
    rw [← flat_drop hs j] at h4
    have e1 : (flat (es.drop j)).take n = c.cells := by
      rw [List.drop_eq_getElem_cons hlt, hge, flat_cons, ← hcn, List.take_left]
    rwa [e1] at h4
theorem ok_extract {x : Operand} {j : Nat} {ts : List Tree} {t : Tree} (ho : o.op = .extract x j) (hx : S.ev x = .tup ts) (ht : ts[j]? = some t) : OpOK o S t := by
  intro w0 G0 bx rv w T hm hT
  obtain ⟨xs, h1, h2⟩ := (ev_ft' hT hx (by rw [ho]; simp [Op.operands])).isTup
  obtain ⟨u, h3, h4⟩ := h2.get j t ht
  refine OpRuns.of_ok (v := u) (W' := w) ?_ ⟨h4, Below.refl _ _⟩
  simp [execOp, ho, h1, Instr.extract, h3]
end
end Go.Proofs.YtpinhcdcnaaihaaGreatDoor
namespace Go.Proofs.YtpinhcdcnaaihaaGreatDoor
open Go.RowKit
theorem conv_at {w : World} {B : Nat} {A : Option Addr} {l : List UInt8} (c : Nat) (h : At w B A (cellsB l)) : (convert 49 9 (.slice A l.length c)).run Tryz.prog w = .ok (.string ⟨l.toArray⟩) w := by
  cases A with
  | none =>
    have hl : l = [] := by
      cases l with
      | nil => rfl
      | cons a l => obtain ⟨b, off, e, _⟩ := h (by simp [cellsB]); cases e
    subst hl
    exact Lib.run_convert_nil_bytes w _ _ 5 c Tryz.underlying49 Tryz.underlying5 Tryz.underlying9
  | some a =>
    refine run_convert_bytes_back w _ _ 5 a c l Tryz.underlying49 Tryz.underlying5 Tryz.underlying9 fun j hj => ?_
    obtain ⟨b, off, e, _, hc⟩ := h (by rw [cellsB_length]; omega)
    injection e with e
    subst e
    have := hc j (.int .u8 l[j].toNat) (by simp [cellsB, List.getElem?_eq_getElem hj])
    rwa [show (⟨b, off, none⟩ : Addr).add j = ⟨b, off + j, none⟩ from by unfold Addr.add; split <;> simp_all]
theorem conv_one (c : Int) (d : UInt8) (h : c = d.toNat) (w : World) : (convert 49 9 (.slice (some ⟨w.heap.size, 0, none⟩) 1 1)).run Tryz.prog (w.alloc (.cells #[.int .u8 c] 5)) = .ok (.string ⟨#[d]⟩) (w.alloc (.cells #[.int .u8 c] 5)) := by
  refine conv_at (B := w.heap.size + 1) (l := [d]) 1 fun _ => ⟨w.heap.size, 0, rfl, by omega, fun j u hu => ?_⟩
  rw [Nat.zero_add, (IsBlk.made w 5 #[.int .u8 c]).cell j]
  subst h
  simpa [cellsB] using hu
end Go.Proofs.YtpinhcdcnaaihaaGreatDoor
namespace Go.Proofs.YtpinhcdcnaaihaaGreatDoor
open Go.RowKit
section
variable {S : St} {o : Oper}
def fillT (place : Nat → Option (Nat × Nat)) : List Tree → List (Nat × Tree) → Option (List Tree)
  | cells, [] => some cells
  | cells, (i, t) :: rest =>
    match place i with
    | none => none
    | some (off, size) => if t.cells.length ≠ size ∨ off + t.cells.length > cells.length then none else fillT place (cells.take off ++ t.cells ++ cells.drop (off + t.cells.length)) rest
theorem foldl_put : ∀ (vs : List Value) (k off : Nat) (cells : Array Value), off + k + vs.length ≤ cells.size → (vs.zipIdx k).foldl (fun cs (c, j) => cs.setIfInBounds (off + j) c) cells = (cells.toList.take (off + k) ++ vs ++ cells.toList.drop (off + k + vs.length)).toArray
  | [], k, off, cells, h => by simp
  | v :: vs, k, off, cells, h => by
    simp only [List.length_cons] at h
    rw [List.zipIdx_cons, List.foldl_cons, foldl_put vs (k + 1) off _ (by simp; omega)]
    simp only [Array.toList_setIfInBounds, List.length_cons]
    congr 1
    rw [← Nat.add_assoc, List.drop_set_of_lt (by omega), List.take_set, List.take_succ_eq_append_getElem (by simp; omega)]
    have e : (List.take (off + k) cells.toList).length = off + k := by rw [List.length_take]; simp; omega
    rw [List.set_append_right _ _ (by omega), e]
    simp [Nat.add_assoc, Nat.add_comm 1]
theorem one_cells {v : Value} (h : v.oneCell' = true) : v.cells = #[v] := by cases v <;> simp_all [Value.cells, Value.oneCell']
theorem one_cellsT {t : Tree} (h : t.one = true) : t.cells = [t] := by cases t <;> simp_all [Tree.cells, Tree.one]
def Tree.oneA : Tree → Bool
  | .agg _ => true
  | t => t.one
theorem cells_ft {E : En} {v : Value} {t : Tree} (h : FT E [v] [t]) (hp : t.oneA = true) : FT E v.cells.toList t.cells := by
  by_cases ha : ∃ cs, t = .agg cs
  · obtain ⟨cs, rfl⟩ := ha
    obtain ⟨xs, rfl, hx⟩ := h.isAgg
    exact hx
  · have h1 : t.one = true := by
      cases t <;> simp_all [Tree.oneA]
    rw [one_cells (h.one h1), one_cellsT h1]
    exact h
theorem fill_ft {E : En} {place : Nat → Option (Nat × Nat)} : ∀ {ps : List (Nat × Value)} {qs : List (Nat × Tree)} {cells : Array Value} {ts rs : List Tree}, ps.map (·.1) = qs.map (·.1) → FT E (ps.map (·.2)) (qs.map (·.2)) → (qs.all fun q => q.2.oneA) = true → FT E cells.toList ts → fillT place ts qs = some rs → ∃ us, Instr.fill place cells ps = some us ∧ FT E us.toList rs
  | [], [], cells, ts, rs, _, _, _, h, hr => by
    simp only [fillT, Option.some.injEq] at hr
    subst hr
    exact ⟨cells, rfl, h⟩
  | [], _ :: _, _, _, _, he, _, _, _, _ => by simp at he
  | _ :: _, [], _, _, _, he, _, _, _, _ => by simp at he
  | (i, v) :: ps, (j, t) :: qs, cells, ts, rs, he, hf, hp, h, hr => by
    simp only [List.map_cons, List.cons.injEq] at he hf
    obtain ⟨rfl, he⟩ := he
    simp only [List.all_cons, Bool.and_eq_true] at hp
    have hv := cells_ft hf.head hp.1
    have hvl := hv.length
    have hl := h.length
    simp only [fillT] at hr
    cases hpl : place i with
    | none => simp [hpl] at hr
    | some p =>
      obtain ⟨off, size⟩ := p
      simp only [hpl] at hr
      split at hr
      · cases hr
      · next hc =>
        have hsz : v.cells.size = t.cells.length := by simpa using hvl
        have hcs : cells.size = ts.length := by simpa using hl
        have hg : ¬ (v.cells.size ≠ size || decide (off + v.cells.size > cells.size)) = true := by
          simp only [Bool.or_eq_true, decide_eq_true_eq, not_or]
          rw [hsz, hcs]
          constructor <;> omega
        have hput := foldl_put v.cells.toList 0 off cells (by simp; omega)
        simp only [Instr.fill, hpl]
        rw [if_neg hg]
        have hz : v.cells.zipIdx.foldl (fun cs (x : Value × Nat) => cs.setIfInBounds (off + x.2) x.1) cells = (cells.toList.take off ++ v.cells.toList ++ cells.toList.drop (off + v.cells.toList.length)).toArray := by
          rw [← Array.foldl_toList, Array.toList_zipIdx]
          exact hput
        have hz' : (v.cells.zipIdx.foldl (fun cs (x : Value × Nat) => match x with | (c, j) => cs.setIfInBounds (off + j) c) cells) = (cells.toList.take off ++ v.cells.toList ++ cells.toList.drop (off + v.cells.toList.length)).toArray := hz
        rw [hz']
        refine fill_ft he hf.tail hp.2 ?_ hr
        rw [hvl]
        exact ((h.take off).append hv).append (h.drop _)
end
end Go.Proofs.YtpinhcdcnaaihaaGreatDoor
