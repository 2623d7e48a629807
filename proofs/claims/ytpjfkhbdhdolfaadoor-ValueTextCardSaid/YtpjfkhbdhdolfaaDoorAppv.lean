/-
  append onto a row of values that the call itself has made: one value; another slice of values.
-/
import Derived.Test.YtpjfkhbdhdolfaaDoorApp
import Derived.Deep.AppendLies
namespace Go.Proofs.YtpjfkhbdhdolfaaDoor
open Go.RowKit

theorem val_info : (Tryd.prog.info? 23).map (fun i => (i.zero, i.size, i.bytes)) = some (some (.agg #[.int .i64 0, .int .i64 0, .string ⟨#[]⟩]), 3, 32) := by kernel_rfl
/-- A row of values of the call's own. -/
def OwnV (w : World) (base : Nat) (v : Value) (l : List V) : Prop := w.ownsRow base 23 3 v l.length (cellsV l)
theorem OwnV.nil (w : World) (base : Nat) : OwnV w base (.slice none 0 0) [] := World.ownsRow_nil _ _ _ _
theorem OwnV.below {w w' : World} {base : Nat} {v : Value} {l : List V} (h : OwnV w base v l) (hb : Below w.heap.size w w') : OwnV w' base v l := own_below h hb
theorem OwnV.slice {w : World} {base : Nat} {v : Value} {l : List V} (h : OwnV w base v l) : ∃ A c, v = .slice A l.length c ∧ At w w.heap.size A (cellsV l) := by
  rcases h.2 with ⟨rfl, hn⟩ | ⟨g, cap, cur, rfl, _⟩
  · exact ⟨none, 0, by rw [hn], by
      have : l = [] := List.eq_nil_of_length_eq_zero hn
      subst this
      exact At.nil _ _ _⟩
  · exact ⟨_, _, rfl, At.of_own h⟩
theorem grew_own {w w1 w' : World} {base : Nat} {v v' : Value} {e : TypeId} {size n : Nat} {xs : List Value} (hown : w.ownsRow base e size v n xs) (hw : ∃ o, w1 = w.alloc o ∨ w1 = w) (hgr : w1.grownBy w' v.ownBlock) (hat : v'.ownBlock = v.ownBlock ∨ v'.ownBlock = some w1.heap.size) (hbase : base ≤ w.heap.size) : Grew w w' base v v' := by
  have hz : w.heap.size ≤ w1.heap.size := by rcases hw with ⟨o, rfl | rfl⟩ <;> simp
  have hk : ∀ k, k < w.heap.size → w1.heap[k]? = w.heap[k]? := fun k hk => by
    rcases hw with ⟨o, rfl | rfl⟩
    · exact Below.heap_alloc w o k hk
    · rfl
  have hb : Below w.heap.size w w1 := by
    rcases hw with ⟨o, rfl | rfl⟩
    · exact (Below.refl _ _).alloc (Nat.le_refl _) _
    · exact Below.refl _ _
  refine ⟨Nat.le_trans hz hgr.size, fun k h1 h2 => (hgr.block k (by omega) (fun e => h2 e.symm)).trans (hk k h1), fun k h1 h2 e => ?_, (hb.mono hbase).grown hgr (by omega) (fun k e => (hown.lt k e).1)⟩
  rcases hat with h | h <;> rw [h] at e
  · exact h2 e
  · injection e with e; omega
theorem cellsV_one (l : List V) : ∀ u ∈ cellsV l, u.oneCell' = true := by
  intro u hu
  simp only [cellsV, List.mem_flatMap, V.cells, List.mem_cons, List.mem_nil_iff, or_false] at hu
  obtain ⟨v, _, rfl | rfl | rfl⟩ := hu <;> rfl
theorem app_val {ops : Array Oper} {rest : List Oper} {o : Oper} {a : Act} {Q : Exit → Act → World → Prop} {w : World} (base : Nat) (v : Value) (l : List V) (u : V)
    (s x : Operand) (hgd : o.guard = none) (ho : o.op = .call { callee := .builtin .append, args := #[s, x], argTypes := #[39, 39] })
    (hs : a.eval s = v) (hx : a.eval x = .slice (some ⟨w.heap.size, 0, none⟩) 1 1) (hown : OwnV w base v l) (hl : l.length ≤ 1073741824) (hbase : base ≤ w.heap.size)
    (h : ∀ v' w', OwnV w' base v' (l ++ [u]) → Grew w w' base v v' → wpList Tryd.prog ops Q rest (a.put o.dst v') w') :
    wpList Tryd.prog ops Q (o :: rest) a (w.alloc (.cells #[.int .i64 u.t, .int .i64 u.n, .string u.s] 23)) := by
  obtain ⟨i0, hi0, hz0, hz1, hz2⟩ := info_parts val_info
  refine wpList_append_own_at _ hgd s x _ ho base 23 i0 (.agg #[.int .i64 0, .int .i64 0, .string ⟨#[]⟩]) 3 32 Tryd.underlying39 hi0 hz0 hz1 hz2 rfl (by decide) v l.length (cellsV l) hs (World.ownsRow.alloc hown _)
    ⟨w.heap.size, 0, none⟩ 1 1 (cellsV [u]) hx (by rw [cellsV_length]; rfl) (World.news_of_block (IsBlk.made w 23 _)) (cellsV_one _) (by simp only [maxLen]; omega) (by omega) (by simp; omega) ?_
  intro v' w' hown' hgr _ hat
  refine h v' w' ?_ (grew_own hown ⟨_, .inl rfl⟩ hgr hat hbase)
  unfold OwnV
  rw [cellsV_append]
  simpa using hown'
end Go.Proofs.YtpjfkhbdhdolfaaDoor
