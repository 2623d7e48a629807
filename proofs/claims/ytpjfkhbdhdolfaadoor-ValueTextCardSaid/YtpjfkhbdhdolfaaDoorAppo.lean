/-
  append and an empty literal as single operations of a drawn region.
-/
import Derived.Test.YtpjfkhbdhdolfaaDoorMonc
import Derived.Test.YtpjfkhbdhdolfaaDoorAppg
import Derived.Laws.OwnMore
namespace Go.Proofs.YtpjfkhbdhdolfaaDoor
open Go.RowKit

theorem op_append_gen {o : Oper} {T : Nat → Value} {w : World} {K : Value → World → Prop} (s x : Operand) (t e : TypeId) (i : TypeInfo) (z : Value) (size bytes : Nat)
    (ho : o.op = .call { callee := .builtin .append, args := #[s, x], argTypes := #[t, t] })
    (ht : Tryd.prog.underlying t = some (.slice e)) (hi : Tryd.prog.info? e = some i) (hz : i.zero = some z) (hsize : i.size = size) (hby : i.bytes = bytes) (hzs : z.cells.size = size) (hsz : 0 < size)
    (base : Nat) (v : Value) (n : Nat) (xs : List Value) (hs : evT T s = v) (hown : w.ownsRow base e size v n xs) (A : Option Addr) (m c : Nat) (news : List Value) (hx : evT T x = .slice A m c) (hat : At w w.heap.size A news)
    (hl : news.length = m * size) (hnil : A = none → m = 0 ∧ c = 0) (h1 : ∀ u ∈ news, u.oneCell' = true) (h63 : n + m ≤ maxLen) (hbytes : (n + m) * bytes ≤ 140737488355328) (hbase : base ≤ w.heap.size)
    (h : ∀ v' w', w'.ownsRow base e size v' (n + m) (xs ++ news) → Grew w w' base v v' → K v' w') : OpRuns Tryd.prog o T w K := by
  cases A with
  | none =>
    obtain ⟨rfl, rfl⟩ := hnil rfl
    have hn : news = [] := List.eq_nil_of_length_eq_zero (by simpa using hl)
    subst hn
    have hrun := run_append_owned_none (P := Tryd.prog) (w := w) base t o.type e i size ht hi v n xs hown
    refine OpRuns.of_ok (v := v) (W' := w) ?_ (h v w (by simpa using hown) ⟨Nat.le_refl _, fun _ _ _ => rfl, fun _ _ h => h, Below.refl _ _⟩)
    simp only [execOp, ho, resolve, invoke, builtin, Sem.run_bind, Sem.run_pure, Result.andThen_ok, List.map_toArray, List.map_cons, List.map_nil, hs, hx, hrun]
  | some ad =>
    obtain ⟨v', w', hr, h2, h3, _, h5⟩ := run_append_own_at (P := Tryd.prog) w base t o.type e i z size bytes ht hi hz hsize hby hzs hsz v n xs hown ad m c news hl hat.news h1 h63 hbytes hbase
    refine OpRuns.of_ok (v := v') (W' := w') ?_ (h v' w' h2 (grew_own hown ⟨.cells #[] 0, .inr rfl⟩ h3 h5 hbase))
    simp only [execOp, ho, resolve, invoke, builtin, Sem.run_bind, Sem.run_pure, Result.andThen_ok, List.map_toArray, List.map_cons, List.map_nil, hs, hx, hr]
theorem op_append_bytes {o : Oper} {T : Nat → Value} {w : World} {K : Value → World → Prop} (base : Nat) (v : Value) (l m : List UInt8) (A : Option Addr) (c : Nat) (s x : Operand) (ho : o.op = .call { callee := .builtin .append, args := #[s, x], argTypes := #[24, 24] })
    (hs : evT T s = v) (hx : evT T x = .slice A m.length c) (hown : OwnB w base v l) (hat : At w w.heap.size A (cellsB m)) (hnil : A = none → m.length = 0 ∧ c = 0) (hl : l.length + m.length ≤ 1099511627776) (hbase : base ≤ w.heap.size)
    (h : ∀ v' w', OwnB w' base v' (l ++ m) → Grew w w' base v v' → K v' w') : OpRuns Tryd.prog o T w K := by
  obtain ⟨i0, hi0, hz0, hz1, hz2⟩ := info_parts byte_info
  refine op_append_gen s x _ 5 i0 (.int .u8 0) 1 1 ho Tryd.underlying24 hi0 hz0 hz1 hz2 rfl (by decide) base v l.length (cellsB l) hs hown A m.length c (cellsB m) hx hat (by rw [cellsB_length]; omega) hnil (cellsB_one _) (by simp only [maxLen]; omega) (by omega) hbase ?_
  intro v' w' h2 h3
  refine h v' w' ?_ h3
  unfold OwnB
  rw [cellsB_append, List.length_append]
  exact h2
theorem op_append_vals {o : Oper} {T : Nat → Value} {w : World} {K : Value → World → Prop} (base : Nat) (v : Value) (l m : List V) (A : Option Addr) (c : Nat) (s x : Operand) (ho : o.op = .call { callee := .builtin .append, args := #[s, x], argTypes := #[39, 39] })
    (hs : evT T s = v) (hx : evT T x = .slice A m.length c) (hown : OwnV w base v l) (hat : At w w.heap.size A (cellsV m)) (hnil : A = none → m.length = 0 ∧ c = 0) (hl : l.length + m.length ≤ 1073741824) (hbase : base ≤ w.heap.size)
    (h : ∀ v' w', OwnV w' base v' (l ++ m) → Grew w w' base v v' → K v' w') : OpRuns Tryd.prog o T w K := by
  obtain ⟨i0, hi0, hz0, hz1, hz2⟩ := info_parts val_info
  refine op_append_gen s x _ 23 i0 (.agg #[.int .i64 0, .int .i64 0, .string ⟨#[]⟩]) 3 32 ho Tryd.underlying39 hi0 hz0 hz1 hz2 rfl (by decide) base v l.length (cellsV l) hs hown A m.length c (cellsV m) hx hat (by rw [cellsV_length]; omega) hnil (cellsV_one _) (by simp only [maxLen]; omega) (by omega) hbase ?_
  intro v' w' h2 h3
  refine h v' w' ?_ h3
  unfold OwnV
  rw [cellsV_append, List.length_append]
  exact h2
theorem OwnV.empty (w : World) (base : Nat) (hb : base ≤ w.heap.size) : OwnV (w.alloc (.cells #[] 23)) base (.slice (some ⟨w.heap.size, 0, none⟩) 0 0) [] := by
  have := World.ownsRow_lit (base := base) (e := 23) (size := 3) w #[] 0 hb (by simp [maxLen]) (by simp)
  exact this
theorem OwnB.empty (w : World) (base : Nat) (hb : base ≤ w.heap.size) : OwnB (w.alloc (.cells #[] 5)) base (.slice (some ⟨w.heap.size, 0, none⟩) 0 0) [] := by
  have := World.ownsRow_lit (base := base) (e := 5) (size := 1) w #[] 0 hb (by simp [maxLen]) (by simp)
  exact this
end Go.Proofs.YtpjfkhbdhdolfaaDoor
