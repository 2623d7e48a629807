/-
  append onto a row of the call's own, from whatever source (nil let in), also where the operation is guarded and its guard holds.
-/
import Derived.Test.YtpjfkhbdhdolfaaDoorAppv
import Derived.Laws.AppendOwnNone
namespace Go.Proofs.YtpjfkhbdhdolfaaDoor
open Go.RowKit

theorem wpList_wanted {P : Program} {ops : Array Oper} {rest : List Oper} {o : Oper} {a : Act} {w : World} {Q : Exit → Act → World → Prop} (hw : Region.wanted o (yielded ops a.tmps) = true)
    (h : ∀ K : Act → World → Prop, (∀ a' w', wpList P ops Q rest a' w' → K a' w') → o.wp P a w K Q) : wpList P ops Q (o :: rest) a w := by
  unfold wpList
  rw [if_pos hw]
  exact .inl (h _ fun _ _ h => h)
theorem At.news {w : World} {B : Nat} {ad : Addr} {xs : List Value} (h : At w B (some ad) xs) : ∀ j u, xs[j]? = some u → w.cell? (ad.add j) = some u := fun j u hu => by
  have hp : 0 < xs.length := by have := (List.getElem?_eq_some_iff.1 hu).1; omega
  obtain ⟨b, off, e, _, hc⟩ := h hp
  injection e with e
  subst e
  rw [show (⟨b, off, none⟩ : Addr).add j = ⟨b, off + j, none⟩ from by unfold Addr.add; split <;> simp_all]
  exact hc j u hu
theorem app_gen {ops : Array Oper} {rest : List Oper} {o : Oper} {a : Act} {Q : Exit → Act → World → Prop} {w : World} (s x : Operand) (t e : TypeId) (i : TypeInfo) (z : Value) (size bytes : Nat)
    (ho : o.op = .call { callee := .builtin .append, args := #[s, x], argTypes := #[t, t] }) (hw : Region.wanted o (yielded ops a.tmps) = true)
    (ht : Tryd.prog.underlying t = some (.slice e)) (hi : Tryd.prog.info? e = some i) (hz : i.zero = some z) (hsize : i.size = size) (hby : i.bytes = bytes) (hzs : z.cells.size = size) (hsz : 0 < size)
    (base : Nat) (v : Value) (n : Nat) (xs : List Value) (hs : a.eval s = v) (hown : w.ownsRow base e size v n xs) (A : Option Addr) (m c : Nat) (news : List Value) (hx : a.eval x = .slice A m c) (hat : At w w.heap.size A news)
    (hl : news.length = m * size) (hnil : A = none → m = 0 ∧ c = 0) (h1 : ∀ u ∈ news, u.oneCell' = true) (h63 : n + m ≤ maxLen) (hbytes : (n + m) * bytes ≤ 140737488355328) (hbase : base ≤ w.heap.size)
    (h : ∀ v' w', w'.ownsRow base e size v' (n + m) (xs ++ news) → Grew w w' base v v' → wpList Tryd.prog ops Q rest (a.put o.dst v') w') : wpList Tryd.prog ops Q (o :: rest) a w := by
  refine wpList_wanted hw fun K hK => ?_
  cases A with
  | none =>
    obtain ⟨rfl, rfl⟩ := hnil rfl
    have hn : news = [] := List.eq_nil_of_length_eq_zero (by simpa using hl)
    subst hn
    have hrun := run_append_owned_none (P := Tryd.prog) (w := w) base t o.type e i size ht hi v n xs hown
    unfold Oper.wp
    simp only [execOp, ho, resolve, invoke, builtin, Sem.run_bind, Sem.run_pure, Result.andThen_ok, List.map_toArray, List.map_cons, List.map_nil, hs, hx, hrun]
    exact hK _ _ (h v w (by simpa using hown) ⟨Nat.le_refl _, fun _ _ _ => rfl, fun _ _ h => h, Below.refl _ _⟩)
  | some ad =>
    obtain ⟨v', w', hr, h2, h3, _, h5⟩ := run_append_own_at (P := Tryd.prog) w base t o.type e i z size bytes ht hi hz hsize hby hzs hsz v n xs hown ad m c news hl hat.news h1 h63 hbytes hbase
    unfold Oper.wp execOp
    simp only [ho, resolve, invoke, builtin, Sem.run_bind, Sem.run_pure, Result.andThen_ok, List.map_toArray, List.map_cons, List.map_nil, hs, hx, hr]
    exact hK _ _ (h v' w' h2 (grew_own hown ⟨.cells #[] 0, .inr rfl⟩ h3 h5 hbase))
theorem cellsB_one (l : List UInt8) : ∀ u ∈ cellsB l, u.oneCell' = true := by
  intro u hu
  simp only [cellsB, List.mem_map] at hu
  obtain ⟨c, _, rfl⟩ := hu
  rfl
/-- append(b, m...) of bytes. -/
theorem app_bytes {ops : Array Oper} {rest : List Oper} {o : Oper} {a : Act} {Q : Exit → Act → World → Prop} {w : World} (base : Nat) (v : Value) (l m : List UInt8) (A : Option Addr) (c : Nat)
    (s x : Operand) (ho : o.op = .call { callee := .builtin .append, args := #[s, x], argTypes := #[24, 24] }) (hw : Region.wanted o (yielded ops a.tmps) = true)
    (hs : a.eval s = v) (hx : a.eval x = .slice A m.length c) (hown : OwnB w base v l) (hat : At w w.heap.size A (cellsB m)) (hnil : A = none → m.length = 0 ∧ c = 0) (hl : l.length + m.length ≤ 1099511627776) (hbase : base ≤ w.heap.size)
    (h : ∀ v' w', OwnB w' base v' (l ++ m) → Grew w w' base v v' → wpList Tryd.prog ops Q rest (a.put o.dst v') w') : wpList Tryd.prog ops Q (o :: rest) a w := by
  obtain ⟨i0, hi0, hz0, hz1, hz2⟩ := info_parts byte_info
  refine app_gen s x _ 5 i0 (.int .u8 0) 1 1 ho hw Tryd.underlying24 hi0 hz0 hz1 hz2 rfl (by decide) base v l.length (cellsB l) hs hown A m.length c (cellsB m) hx hat (by rw [cellsB_length]; omega) hnil (cellsB_one _) (by simp only [maxLen]; omega) (by omega) hbase ?_
  intro v' w' h2 h3
  refine h v' w' ?_ h3
  unfold OwnB
  rw [cellsB_append, List.length_append]
  exact h2
/-- append(p, q...) of values. -/
theorem app_vals {ops : Array Oper} {rest : List Oper} {o : Oper} {a : Act} {Q : Exit → Act → World → Prop} {w : World} (base : Nat) (v : Value) (l m : List V) (A : Option Addr) (c : Nat)
    (s x : Operand) (ho : o.op = .call { callee := .builtin .append, args := #[s, x], argTypes := #[39, 39] }) (hw : Region.wanted o (yielded ops a.tmps) = true)
    (hs : a.eval s = v) (hx : a.eval x = .slice A m.length c) (hown : OwnV w base v l) (hat : At w w.heap.size A (cellsV m)) (hnil : A = none → m.length = 0 ∧ c = 0) (hl : l.length + m.length ≤ 1073741824) (hbase : base ≤ w.heap.size)
    (h : ∀ v' w', OwnV w' base v' (l ++ m) → Grew w w' base v v' → wpList Tryd.prog ops Q rest (a.put o.dst v') w') : wpList Tryd.prog ops Q (o :: rest) a w := by
  obtain ⟨i0, hi0, hz0, hz1, hz2⟩ := info_parts val_info
  refine app_gen s x _ 23 i0 (.agg #[.int .i64 0, .int .i64 0, .string ⟨#[]⟩]) 3 32 ho hw Tryd.underlying39 hi0 hz0 hz1 hz2 rfl (by decide) base v l.length (cellsV l) hs hown A m.length c (cellsV m) hx hat (by rw [cellsV_length]; omega) hnil (cellsV_one _) (by simp only [maxLen]; omega) (by omega) hbase ?_
  intro v' w' h2 h3
  refine h v' w' ?_ h3
  unfold OwnV
  rw [cellsV_append, List.length_append]
  exact h2
end Go.Proofs.YtpjfkhbdhdolfaaDoor
