/-
  append onto a row of bytes that the call itself has made: one byte; a string. What follows is said of one letter for the new value and one for the new world.
-/
import Derived.Test.YtpjfkhbdhdolfaaDoorMem
namespace Go.Proofs.YtpjfkhbdhdolfaaDoor
open Go.RowKit

theorem byte_info : (Tryd.prog.info? 5).map (fun i => (i.zero, i.size, i.bytes)) = some (some (.int .u8 0), 1, 1) := by kernel_rfl
/-- A row of bytes of the call's own. -/
def OwnB (w : World) (base : Nat) (v : Value) (l : List UInt8) : Prop := w.ownsRow base 5 1 v l.length (cellsB l)
theorem OwnB.nil (w : World) (base : Nat) : OwnB w base (.slice none 0 0) [] := World.ownsRow_nil _ _ _ _
theorem own_below {w w' : World} {base : Nat} {e : TypeId} {size n : Nat} {v : Value} {xs : List Value} (h : w.ownsRow base e size v n xs) (hb : Below w.heap.size w w') : w'.ownsRow base e size v n xs :=
  h.kept (row := none) ⟨hb.os, hb.tape, hb.output, hb.size, fun i hi _ => hb.block i hi⟩ (by cases v.ownBlock <;> simp)
theorem OwnB.below {w w' : World} {base : Nat} {v : Value} {l : List UInt8} (h : OwnB w base v l) (hb : Below w.heap.size w w') : OwnB w' base v l := own_below h hb
theorem OwnB.slice {w : World} {base : Nat} {v : Value} {l : List UInt8} (h : OwnB w base v l) : ∃ A c, v = .slice A l.length c := by
  rcases h.2 with ⟨rfl, hn⟩ | ⟨g, cap, cur, rfl, _⟩
  · exact ⟨none, 0, by rw [hn]⟩
  · exact ⟨_, _, rfl⟩
theorem OwnB.at_ {w : World} {base : Nat} {A : Option Addr} {c : Nat} {l : List UInt8} (h : OwnB w base (.slice A l.length c) l) : At w w.heap.size A (cellsB l) := At.of_own h
/-- v is not the block k. -/
def Far (v : Value) (k : Nat) : Prop := v.ownBlock ≠ some k
theorem Far.of_own {w : World} {base : Nat} {v : Value} {l : List UInt8} {k : Nat} (h : OwnB w base v l) (hk : w.heap.size ≤ k) : Far v k := fun e => by have := (h.lt k e).2; omega
/-- What an append leaves behind: the new row; every block but the old row's as it was. -/
structure Grew (w w' : World) (base : Nat) (v v' : Value) : Prop where
  size : w.heap.size ≤ w'.heap.size
  kept : ∀ k, k < w.heap.size → Far v k → w'.heap[k]? = w.heap[k]?
  far : ∀ k, k < w.heap.size → Far v k → Far v' k
  below : Below base w w'
theorem Grew.blk {w w' : World} {base : Nat} {v v' : Value} (h : Grew w w' base v v') {g : Nat} {t : TypeId} {cs : Array Value} (hg : IsBlk w g t cs) (hf : Far v g) : IsBlk w' g t cs := (h.kept g hg.lt hf).trans hg
theorem grew_of {w w1 w' : World} {base : Nat} {v v' : Value} {l : List UInt8} (hown : OwnB w base v l) (hw : ∃ o, w1 = w.alloc o ∨ w1 = w) (hgr : w1.grownBy w' v.ownBlock) (hat : v'.ownBlock = v.ownBlock ∨ v'.ownBlock = some w1.heap.size) (hbase : base ≤ w.heap.size) : Grew w w' base v v' := by
  have hz : w.heap.size ≤ w1.heap.size := by rcases hw with ⟨o, rfl | rfl⟩ <;> simp
  have hk : ∀ k, k < w.heap.size → w1.heap[k]? = w.heap[k]? := fun k hk => by
    rcases hw with ⟨o, rfl | rfl⟩
    · exact Below.heap_alloc w o k hk
    · rfl
  have hb : Below w.heap.size w w1 := by
    rcases hw with ⟨o, rfl | rfl⟩
    · exact (Below.refl _ _).alloc (Nat.le_refl _) _
    · exact Below.refl _ _
  refine ⟨Nat.le_trans hz hgr.size, fun k h1 h2 => (hgr.block k (by omega) (fun e => h2 e.symm)).trans (hk k h1), fun k h1 h2 e => ?_, (hb.mono hbase).grown hgr (by omega) (fun k e => (hown.lt k e).1)⟩
  rcases hat with h | h <;> rw [h] at e
  · exact h2 e
  · injection e with e; omega

theorem app_byte {ops : Array Oper} {rest : List Oper} {o : Oper} {a : Act} {Q : Exit → Act → World → Prop} {w : World} (base : Nat) (v : Value) (l : List UInt8) (c : Int) (d : UInt8)
    (s x : Operand) (hgd : o.guard = none) (ho : o.op = .call { callee := .builtin .append, args := #[s, x], argTypes := #[24, 24] })
    (hs : a.eval s = v) (hx : a.eval x = .slice (some ⟨w.heap.size, 0, none⟩) 1 1) (hown : OwnB w base v l) (hc : c = d.toNat) (hl : l.length ≤ 1099511627776) (hbase : base ≤ w.heap.size)
    (h : ∀ v' w', OwnB w' base v' (l ++ [d]) → Grew w w' base v v' → wpList Tryd.prog ops Q rest (a.put o.dst v') w') :
    wpList Tryd.prog ops Q (o :: rest) a (w.alloc (.cells #[.int .u8 c] 5)) := by
  obtain ⟨i0, hi0, hz0, hz1, hz2⟩ := info_parts byte_info
  refine wpList_append_own_at _ hgd s x _ ho base 5 i0 (.int .u8 0) 1 1 Tryd.underlying24 hi0 hz0 hz1 hz2 rfl (by decide) v l.length (cellsB l) hs (World.ownsRow.alloc hown _)
    ⟨w.heap.size, 0, none⟩ 1 1 [.int .u8 c] hx rfl (cell_one_new _ _ _) (by simp [Value.oneCell']) (by simp only [maxLen]; omega) (by omega) (by simp; omega) ?_
  intro v' w' hown' hgr _ hat
  refine h v' w' ?_ (grew_of hown ⟨_, .inl rfl⟩ hgr hat hbase)
  subst hc
  unfold OwnB
  rw [cellsB_append]
  simpa [cellsB] using hown'
/-- Where the row lies behind 'append(b, s...)' of a string. -/
theorem run_str_at (w : World) (base : Nat) (ty : TypeId) (v : Value) (l : List UInt8) (s : ByteArray) (hown : OwnB w base v l) (hl : l.length + s.size ≤ 1099511627776) (hbase : base ≤ w.heap.size) :
    ∃ v' w', (Builtin.append_ #[24, 9] ty #[v, .string s]).run Tryd.prog w = .ok v' w' ∧ OwnB w' base v' (l ++ s.data.toList) ∧ w.grownBy w' v.ownBlock ∧ (v'.ownBlock = v.ownBlock ∨ v'.ownBlock = some w.heap.size) := by
  obtain ⟨i0, hi0, hz0, hz1, hz2⟩ := info_parts byte_info
  have ht := Tryd.underlying24
  have hu := Tryd.underlying9
  obtain ⟨v', w', hr, h2, h3, h4⟩ := Lib.run_append_own_string (P := Tryd.prog) w base 24 9 ty 5 i0 ht hu hi0 hz0 hz1 hz2 v l.length (cellsB l) hown s (by simp only [maxLen]; omega) (by omega) hbase
  refine ⟨v', w', hr, ?_, h3, ?_⟩
  · unfold OwnB
    rw [cellsB_append]
    have e : (l ++ s.data.toList).length = l.length + s.size := by simp
    rw [e]
    exact h2
  · rcases hown.2 with ⟨rfl, hn⟩ | ⟨g, cap, cur, rfl, hbg, hg, hnc, hcm, hcs, htake⟩
    · by_cases hm : s.size = 0
      · rw [h4.2 ⟨rfl, hm⟩]; exact .inl rfl
      · have hr' := run_append_nil_string (P := Tryd.prog) w 24 9 ty 5 i0 (.int .u8 0) ht hu hi0 hz0 s (by omega) (by omega) (by rw [hz2]; omega)
        rw [hr] at hr'
        injection hr' with e1 _
        rw [e1]; exact .inr rfl
    · by_cases hroom : l.length + s.size ≤ cap
      · have hr' := Lib.run_append_room_string (P := Tryd.prog) w 24 9 ty 5 i0 ht hu hi0 hz1 g l.length cap cur hg s hroom (by rw [hcs]; omega)
        rw [hr] at hr'
        injection hr' with e1 _
        rw [e1]; exact .inl rfl
      · have holds : ∀ j u, (cellsB l)[j]? = some u → w.cell? ((⟨g, 0, none⟩ : Addr).add j) = some u := World.ownsRow.cells hown (g := g) rfl
        have hr' := Lib.run_append_grow_string (P := Tryd.prog) w 24 9 ty 5 i0 (.int .u8 0) ht hu hi0 hz0 ⟨g, 0, none⟩ l.length cap (cellsB l) (by rw [hz1, cellsB_length]; omega) holds s (by omega) (by omega) (by rw [hz2]; exact growslice_fits (by omega) (by omega))
        rw [hr] at hr'
        injection hr' with e1 _
        rw [e1]; exact .inr rfl
theorem app_str {ops : Array Oper} {rest : List Oper} {o : Oper} {a : Act} {Q : Exit → Act → World → Prop} {w : World} (base : Nat) (v : Value) (l : List UInt8) (str : ByteArray)
    (s x : Operand) (hgd : o.guard = none) (ho : o.op = .call { callee := .builtin .append, args := #[s, x], argTypes := #[24, 9] })
    (hs : a.eval s = v) (hx : a.eval x = .string str) (hown : OwnB w base v l) (hl : l.length + str.size ≤ 1099511627776) (hbase : base ≤ w.heap.size)
    (h : ∀ v' w', OwnB w' base v' (l ++ str.data.toList) → Grew w w' base v v' → wpList Tryd.prog ops Q rest (a.put o.dst v') w') :
    wpList Tryd.prog ops Q (o :: rest) a w := by
  refine wpList_plain hgd fun K hK => ?_
  obtain ⟨v', w', hr, h2, h3, h4⟩ := run_str_at w base o.type v l str hown hl hbase
  unfold Oper.wp execOp
  simp only [ho, resolve, invoke, builtin, Sem.run_bind, Sem.run_pure, Result.andThen_ok, List.map_toArray, List.map_cons, List.map_nil, hs, hx, hr]
  exact hK _ _ (h v' w' h2 (grew_of hown ⟨.cells #[] 0, .inr rfl⟩ h3 h4 hbase))
end Go.Proofs.YtpjfkhbdhdolfaaDoor
