import Derived.Test.YtpinhcdcnaaihaaGreatDoorA23
namespace Go.Proofs.YtpinhcdcnaaihaaGreatDoor
structure An where
  vals : List V
  q : Rat
def An.tree (a : An) : Tree := .agg [.sl (a.vals.map V.tree), .sc (.bool (decide (a.q.num < 0))), natT a.q.num.natAbs, natT a.q.den]
theorem An.sized (l : List An) : Sized 4 (l.map An.tree) := fun e he => by
  obtain ⟨a, _, rfl⟩ := List.mem_map.1 he
  rfl
def bb (l : List UInt8) : ByteArray := ⟨l.toArray⟩
theorem bb_list (l : List UInt8) : (bb l).data.toList = l := by simp [bb]
theorem bb_of (s : ByteArray) : bb s.data.toList = s := mk_data s
theorem bb_app (a b : List UInt8) : bb a ++ bb b = bb (a ++ b) := app_mk a b
theorem bb_appF (a : List UInt8) (s : ByteArray) : bb a ++ s = bb (a ++ s.data.toList) := by
  have := bb_app a s.data.toList
  rwa [bb_of] at this
theorem bb_size (l : List UInt8) : (bb l).size = l.length := by show l.toArray.size = _; simp
def sepA : Nat → List V → List UInt8
  | _, [] => []
  | j, v :: vs => (if 0 < j then [44, 32] else []) ++ (v.fmt ++ sepA (j + 1) vs)
def ansTx (a : An) : List UInt8 := 40 :: (sepA 0 a.vals ++ ([41, 58, 32] ++ ((fmtR a.q).data.toList ++ [10])))
structure AnOK (a : An) : Prop where
  rng : ∀ v ∈ a.vals, v.rng ∧ v.fmt.length ≤ 200 ∧ v.s.size ≤ 9223372036854775807
  len : a.vals.length ≤ 3
  fit : Fit 262144 a.q
  num : (decB a.q.num.natAbs).size ≤ 1000
  den : (decB a.q.den).size ≤ 1000
theorem drop_at {α : Type} {l : List α} {j : Nat} {x : α} (h : l[j]? = some x) : l.drop j = x :: l.drop (j + 1) := by
  obtain ⟨hj, rfl⟩ := List.getElem?_eq_some_iff.1 h
  exact List.drop_eq_getElem_cons hj
theorem sepA_step {v : V} {vs : List V} {j : Nat} (h : vs[j]? = some v) : sepA j (vs.drop j) = (if 0 < j then [44, 32] else []) ++ (v.fmt ++ sepA (j + 1) (vs.drop (j + 1))) := by rw [drop_at h]; rfl
theorem sepA_end {vs : List V} {j : Nat} (h : vs.length ≤ j) : sepA j (vs.drop j) = [] := by rw [List.drop_of_length_le h]; rfl
theorem ans_step {al : List An} {a : An} {i : Nat} (h : al[i]? = some a) : (al.drop i).flatMap ansTx = ansTx a ++ (al.drop (i + 1)).flatMap ansTx := by rw [drop_at h]; rfl
theorem fmtR_le {a : An} (h : AnOK a) : (fmtR a.q).size ≤ 2002 := by
  have h1 := h.num
  have h2 := h.den
  have hh : (fmtH a.q).size ≤ 1001 := by
    unfold fmtH
    split
    · rw [ByteArray.size_append]; show 1 + _ ≤ _; omega
    · omega
  unfold fmtR
  split
  · omega
  · rw [ByteArray.size_append, ByteArray.size_append]; show _ + (1 + _) ≤ _; omega
theorem fmtR_ln {a : An} (h : AnOK a) : (fmtR a.q).data.toList.length ≤ 2002 := by
  have := fmtR_le h
  rwa [show (fmtR a.q).size = (fmtR a.q).data.toList.length from Array.length_toList.symm] at this
theorem sepA_le : ∀ (vs : List V) (j : Nat), (∀ v ∈ vs, v.fmt.length ≤ 200) → (sepA j vs).length ≤ vs.length * 202
  | [], _, _ => by simp [sepA]
  | v :: vs, j, h => by
    have h1 := sepA_le vs (j + 1) fun x hx => h x (List.mem_cons_of_mem _ hx)
    have h2 := h v (List.mem_cons_self ..)
    rw [sepA, List.length_append, List.length_append, List.length_cons]
    split <;> simp <;> omega
end Go.Proofs.YtpinhcdcnaaihaaGreatDoor
namespace Go.Proofs.YtpinhcdcnaaihaaGreatDoor
open Go.RowKit
section
variable {w0 : World} {G0 : Bse} {o : Oper} {S : St}
end
end Go.Proofs.YtpinhcdcnaaihaaGreatDoor
namespace Go.Proofs.YtpinhcdcnaaihaaGreatDoor
open Go.RowKit
theorem slots_init {E : En} {vs : List Value} {args : List Tree} {m : Nat} (h : FT E vs args) (i : Nat) : FT E [(vs.toArray ++ Array.replicate m undef).getD i undef] [look (initSl 0 args) i] := by
  rw [look_init, if_pos (Nat.zero_le _), Nat.sub_zero]
  cases ht : args[i]? with
  | none => exact .any _ .nil
  | some t =>
    obtain ⟨u, hu, hut⟩ := h.get i t ht
    have hi := (List.getElem?_eq_some_iff.1 hu).1
    have e1 : (vs.toArray ++ Array.replicate m undef).getD i undef = u := by
      rw [Array.getD_eq_getD_getElem?, Array.getElem?_append_left (by simpa using hi), List.getElem?_toArray, hu]
      rfl
    rw [e1]
    exact hut
section
variable {w0 : World} {G0 : Bse} {o : Oper} {S : St}
end
section
variable {w0 : World} {G0 : Bse} {o : Oper} {S : St}
theorem ok_nilc_box {x : Operand} {b off : Nat} (ho : o.op = .nilCheck x) (hx : S.ev x = .box b off) : OpOK o S (.box b off) := by
  intro w0 G0 bx rv w T hm hT
  have h1 := ev_ft' hT hx (by rw [ho]; simp [Op.operands])
  obtain ⟨g, hb, hv⟩ := h1.isBox
  refine OpRuns.of_ok (v := .pointer (some ⟨g, off, none⟩)) (W' := w) ?_ ⟨.box b off g hb .nil, Below.refl _ _⟩
  simp [execOp, ho, hv]
end
end Go.Proofs.YtpinhcdcnaaihaaGreatDoor
namespace Go.Proofs.YtpinhcdcnaaihaaGreatDoor
open Go.RowKit
def killU0 (m : Nat) : Tree → Tree
  | .own j => if j < m then .any else .own j
  | .elp j off => if j < m then .any else .elp j off
  | .agg _ => .any
  | .tup _ => .any
  | t => t
def killU (m : Nat) : Tree → Tree
  | .agg cs => .agg (cs.map (killU0 m))
  | t => killU0 m t
def Tree.pre (k m : Nat) : Tree → Bool
  | .own j => Nat.blt j m
  | .box b _ => Nat.blt b k
  | t => t.plain0
def Tree.arg (k : Nat) : Tree → Bool
  | .box b _ => Nat.blt b k
  | t => t.plain
theorem FT.killU0 {E E' : En} {m : Nat} {v : Value} {t : Tree} (h : FT E [v] [t]) (hs : E.W.heap.size ≤ E'.W.heap.size) (hk : ∀ b, b < E.W.heap.size → ¬ E.G b → E'.W.heap[b]? = E.W.heap[b]? ∧ ¬ E'.G b) (hb : ∀ b g, E.bx b = some g → E'.bx b = some g) (hr : ∀ j v, m ≤ j → E.rv j = some v → E'.rv j = some v) : FT E' [v] [Go.Proofs.YtpinhcdcnaaihaaGreatDoor.killU0 m t] := by
  cases h with
  | pure h _ =>
    cases t <;> first
      | exact .pure (h.mono hs hk) .nil
      | (simp only [Go.Proofs.YtpinhcdcnaaihaaGreatDoor.killU0]; exact .any _ .nil)
      | (cases h)
  | any => exact .any _ .nil
  | box b off g h _ => exact .box b off g (hb b g h) .nil
  | own j n c A hv _ =>
    simp only [Go.Proofs.YtpinhcdcnaaihaaGreatDoor.killU0]
    split
    · exact .any _ .nil
    · exact .own j n c A (hr j _ (by omega) hv) .nil
  | elp j off g n c hv _ =>
    simp only [Go.Proofs.YtpinhcdcnaaihaaGreatDoor.killU0]
    split
    · exact .any _ .nil
    · exact .elp j off g n c (hr j _ (by omega) hv) .nil
  | agg => exact .any _ .nil
  | tup => exact .any _ .nil
theorem FT.killU0s {E E' : En} {m : Nat} (hs : E.W.heap.size ≤ E'.W.heap.size) (hk : ∀ b, b < E.W.heap.size → ¬ E.G b → E'.W.heap[b]? = E.W.heap[b]? ∧ ¬ E'.G b) (hb : ∀ b g, E.bx b = some g → E'.bx b = some g) (hr : ∀ j v, m ≤ j → E.rv j = some v → E'.rv j = some v) : ∀ {us : List Value} {ts : List Tree}, FT E us ts → FT E' us (ts.map (Go.Proofs.YtpinhcdcnaaihaaGreatDoor.killU0 m))
  | [], [], _ => .nil
  | [], _ :: _, h => by cases h
  | _ :: _, [], h => by cases h
  | u :: us, t :: ts, h => FT.cons (h.head.killU0 hs hk hb hr) (FT.killU0s hs hk hb hr h.tail)
theorem FT.killU {E E' : En} {m : Nat} {v : Value} {t : Tree} (h : FT E [v] [t]) (hs : E.W.heap.size ≤ E'.W.heap.size) (hk : ∀ b, b < E.W.heap.size → ¬ E.G b → E'.W.heap[b]? = E.W.heap[b]? ∧ ¬ E'.G b) (hb : ∀ b g, E.bx b = some g → E'.bx b = some g) (hr : ∀ j v, m ≤ j → E.rv j = some v → E'.rv j = some v) : FT E' [v] [Go.Proofs.YtpinhcdcnaaihaaGreatDoor.killU m t] := by
  cases t with
  | agg cs =>
    obtain ⟨xs, rfl, hx⟩ := h.isAgg
    exact .agg xs _ (FT.killU0s hs hk hb hr hx) .nil
  | _ => exact h.killU0 hs hk hb hr
theorem FT.pre1 {E E' : En} {k m : Nat} {v : Value} {t : Tree} (h : FT E [v] [t]) (ht : t.pre k m = true) (hs : E.W.heap.size ≤ E'.W.heap.size) (hk : ∀ b, b < E.W.heap.size → ¬ E.G b → E'.W.heap[b]? = E.W.heap[b]? ∧ ¬ E'.G b) (hb : ∀ b g, b < k → E.bx b = some g → E'.bx b = some g) (hr : ∀ j v, j < m → E.rv j = some v → E'.rv j = some v) : FT E' [v] [t] := by
  cases h with
  | pure h _ => exact .pure (h.mono hs hk) .nil
  | any => cases ht
  | box b off g h _ => exact .box b off g (hb _ _ (by simpa [Tree.pre, Nat.blt_eq] using ht) h) .nil
  | own j n c A hv _ => exact .own j n c A (hr j _ (by simpa [Tree.pre, Nat.blt_eq] using ht) hv) .nil
  | elp => cases ht
  | agg => cases ht
  | tup => cases ht
theorem FT.pres {E E' : En} {k m : Nat} (hs : E.W.heap.size ≤ E'.W.heap.size) (hk : ∀ b, b < E.W.heap.size → ¬ E.G b → E'.W.heap[b]? = E.W.heap[b]? ∧ ¬ E'.G b) (hb : ∀ b g, b < k → E.bx b = some g → E'.bx b = some g) (hr : ∀ j v, j < m → E.rv j = some v → E'.rv j = some v) : ∀ {us : List Value} {ts : List Tree}, FT E us ts → ts.all (Tree.pre k m) = true → FT E' us ts
  | [], [], _, _ => .nil
  | [], _ :: _, h, _ => by cases h
  | _ :: _, [], h, _ => by cases h
  | u :: us, t :: ts, h, ht => by
    rw [List.all_cons, Bool.and_eq_true] at ht
    exact FT.cons (h.head.pre1 ht.1 hs hk hb hr) (FT.pres hs hk hb hr h.tail ht.2)
theorem FT.args {E E' : En} {k : Nat} (hs : E.W.heap.size ≤ E'.W.heap.size) (hk : ∀ b, b < E.W.heap.size → ¬ E.G b → E'.W.heap[b]? = E.W.heap[b]? ∧ ¬ E'.G b) (hb : ∀ b g, b < k → E.bx b = some g → E'.bx b = some g) : ∀ {us : List Value} {ts : List Tree}, FT E us ts → ts.all (Tree.arg k) = true → FT E' us ts
  | [], [], _, _ => .nil
  | [], _ :: _, h, _ => by cases h
  | _ :: _, [], h, _ => by cases h
  | u :: us, t :: ts, h, ht => by
    rw [List.all_cons, Bool.and_eq_true] at ht
    refine FT.cons ?_ (FT.args hs hk hb h.tail ht.2)
    have hu := h.head
    cases t with
    | box b off =>
      cases hu with
      | box _ _ g hg _ => exact .box b off g (hb b g (by simpa [Tree.arg, Nat.blt_eq] using ht.1) hg) .nil
      | pure h _ => cases h
    | _ => exact .of ((hu.plain ht.1).mono hs hk)
theorem tk_get {α : Type} {l : List α} {k i : Nat} {x : α} (h : (l.take k)[i]? = some x) : i < k ∧ l[i]? = some x := by
  rw [List.getElem?_take] at h
  split at h
  · exact ⟨by assumption, h⟩
  · cases h
theorem gt_take {α : Type} {l : List α} {k i : Nat} {x : α} (hi : i < k) (h : l[i]? = some x) : (l.take k)[i]? = some x := by
  rw [List.getElem?_take, if_pos hi]; exact h
theorem own_same {w w' : World} {b e sz n : Nat} {v : Value} {xs : List Value} (h : w.ownsRow b e sz v n xs) (hk : ∀ g, v.ownBlock = some g → w'.heap[g]? = w.heap[g]?) : w'.ownsRow b e sz v n xs := by
  refine ⟨h.1, ?_⟩
  rcases h.2 with hn | ⟨g, cap, cur, hv, hb, hg, rest⟩
  · exact .inl hn
  · exact .inr ⟨g, cap, cur, hv, hb, (hk g (by rw [hv]; rfl)).trans hg, rest⟩
section
variable {w0 w w' : World} {G0 : Bse} {bs bs' : List (TypeId × List Tree)} {rs rs' : List (Option Row)} {bx : List Nat} {rv rv' : List Value} {k m : Nat}
def lndB (G0 : Bse) (bx : List Nat) (rv : List Value) (rs : List (Option Row)) (k m : Nat) : Bse := ⟨fun b => GG G0 bx rv rs b ∧ b ∉ blocks (bx.take k) (rv.take m) (rs.take m), fun b => b ∈ blocks (bx.take k) (rv.take m) (rs.take m), k, fun i => bx.getD i 0⟩
theorem blocks_take {b : Nat} (h : b ∈ blocks (bx.take k) (rv.take m) (rs.take m)) : b ∈ blocks bx rv rs := by
  rcases mem_blocks.1 h with h1 | ⟨j, v, R, h1, h2, h3⟩
  · exact mem_blocks.2 (.inl (List.mem_of_mem_take h1))
  · exact mem_blocks.2 (.inr ⟨j, v, R, (tk_get h1).2, (tk_get h2).2, h3⟩)
theorem Mem.lend (h : Mem w0 G0 bs rs bx rv w) (hk : k ≤ bs.length) (hcs : ((bs.take k).all fun p => p.2.all (Tree.pre k m)) = true) : Mem w (lndB G0 bx rv rs k m) (bs.take k) (rs.take m) (bx.take k) (rv.take m) w := by
  have hsub : ∀ b, ¬ GG G0 bx rv rs b → ¬ GG (lndB G0 bx rv rs k m) (bx.take k) (rv.take m) (rs.take m) b := fun b hb h1 => by
    rcases h1 with h1 | h1
    · exact hb h1.1
    · exact hb (.inr (blocks_take h1))
  have hnb := h.nb
  refine ⟨Kept.refl _ _, ?_, fun g hg => ⟨(h.ok g hg.1).1, (h.ok g hg.1).2, hg.2⟩, by simp [h.nb], by simp [h.nr], fun i g hi => ?_, fun j v R hv hR => ?_, ⟨h.nodup.bb.sublist (List.take_sublist _ _), fun j v R b h1 h2 h3 h4 => h.nodup.br j v R b (tk_get h1).2 (tk_get h2).2 h3 (List.mem_of_mem_take h4), fun i j u v X R b hij h1 h2 h3 h4 h5 h6 => h.nodup.rr i j u v X R b hij (tk_get h1).2 (tk_get h2).2 (tk_get h3).2 (tk_get h4).2 h5 h6⟩, fun b hb => .inr hb, fun i hi => ?_⟩
  · obtain ⟨wE, e1, e2, e3, e4⟩ := h.env0.at h.below
    exact ⟨wE, e1, e2, fun b hb => (h.ge b (blocks_take hb)).elim (Nat.le_trans e3) (e4 b)⟩
  · obtain ⟨hik, hi⟩ := tk_get hi
    obtain ⟨ty, cs, us, h1, h2, h3, h4⟩ := h.box i g hi
    have h5 := gt_take hik h1
    refine ⟨ty, cs, us, h5, h2, FT.pres (k := k) (m := m) (E := en w G0 bx rv rs) (E' := en w (lndB G0 bx rv rs k m) (bx.take k) (rv.take m) (rs.take m)) (Nat.le_refl _) (fun b _ hb => ⟨rfl, hsub b hb⟩) (fun b g hb hg => gt_take (l := bx) hb hg) (fun j v hj hh => ?_) h3 (List.all_eq_true.1 hcs _ (List.mem_of_getElem? h5)), h4⟩
    show rvOf (rv.take m) (rs.take m) j = some v
    have hh : rvOf rv rs j = some v := hh
    unfold rvOf at hh ⊢
    rw [List.getElem?_take, List.getElem?_take, if_pos hj, if_pos hj]
    exact hh
  · obtain ⟨xs, h1, h2, h3, h4⟩ := h.row j v R (tk_get hv).2 (tk_get hR).2
    exact ⟨xs, h1, h2.mono (Nat.le_refl _) fun b _ hb => ⟨rfl, hsub b hb⟩, h3, h4⟩
  · have hi : i < k := hi
    have hl : i < bx.length := by omega
    show (bx.take k)[i]? = some (bx.getD i 0)
    rw [List.getElem?_take, if_pos hi, List.getD_eq_getElem?_getD, List.getElem?_eq_getElem hl]
    rfl
theorem lent_box (h : Mem w0 G0 bs rs bx rv w) {i b : Nat} (hi : bx[i]? = some b) (hk : k ≤ i) : b ∉ blocks (bx.take k) (rv.take m) (rs.take m) := fun hb => by
  rcases mem_blocks.1 hb with h1 | ⟨j, v, R, h1, h2, h3⟩
  · obtain ⟨q, hq⟩ := List.getElem?_of_mem h1
    obtain ⟨hqk, hq⟩ := tk_get hq
    have := (List.getElem?_inj (List.getElem?_eq_some_iff.1 hi).1 h.nodup.bb (j := q)).1 (hi.trans hq.symm)
    omega
  · exact h.nodup.br j v R b (tk_get h1).2 (tk_get h2).2 h3 (List.mem_of_getElem? hi)
theorem lent_row (h : Mem w0 G0 bs rs bx rv w) {j b : Nat} {v : Value} {R : Row} (hv : rv[j]? = some v) (hR : rs[j]? = some (some R)) (hb : v.ownBlock = some b) (hm : m ≤ j) : b ∉ blocks (bx.take k) (rv.take m) (rs.take m) := fun hb' => by
  rcases mem_blocks.1 hb' with h1 | ⟨q, u, X, h1, h2, h3⟩
  · exact h.nodup.br j v R b hv hR hb (List.mem_of_mem_take h1)
  · obtain ⟨h4, h5⟩ := tk_get h1
    exact h.nodup.rr j q v u R X b (by omega) hv hR h5 (tk_get h2).2 hb h3
theorem back_idx {j : Nat} {v : Value} {R : Row} (hl1 : rv'.length = m) (hl2 : rs'.length = m) (h1 : (rv' ++ rv.drop m)[j]? = some v) (h2 : (rs' ++ rs.drop m)[j]? = some (some R)) : (j < m ∧ rv'[j]? = some v ∧ rs'[j]? = some (some R)) ∨ (m ≤ j ∧ rv[j]? = some v ∧ rs[j]? = some (some R)) := by
  by_cases hj : j < m
  · rw [List.getElem?_append_left (by omega)] at h1 h2
    exact .inl ⟨hj, h1, h2⟩
  · rw [List.getElem?_append_right (by omega), List.getElem?_drop] at h1 h2
    rw [hl1, show m + (j - m) = j by omega] at h1
    rw [hl2, show m + (j - m) = j by omega] at h2
    exact .inr ⟨by omega, h1, h2⟩
theorem back_gg (h : Mem w0 G0 bs rs bx rv w) (hl1 : rv'.length = m) (hl2 : rs'.length = m) {b : Nat} (hb : GG G0 bx (rv' ++ rv.drop m) (rs' ++ rs.drop m) b) : GG (lndB G0 bx rv rs k m) (bx.take k) rv' rs' b := by
  rcases hb with hb | hb
  · refine .inl ⟨.inl hb, fun hl => ?_⟩
    have h1 := h.g0 b hb
    rcases h.ge b (blocks_take hl) with h2 | h2
    · omega
    · exact h1.2.2 h2
  · rcases mem_blocks.1 hb with h1 | ⟨j, v, R, h1, h2, h3⟩
    · obtain ⟨i, hi⟩ := List.getElem?_of_mem h1
      by_cases hk : i < k
      · exact .inr (mem_blocks.2 (.inl (List.mem_of_getElem? (gt_take hk hi))))
      · exact .inl ⟨.inr (mem_blocks.2 (.inl h1)), lent_box h hi (by omega)⟩
    · rcases back_idx hl1 hl2 h1 h2 with ⟨_, h4, h5⟩ | ⟨hj, h4, h5⟩
      · exact .inr (mem_blocks.2 (.inr ⟨j, v, R, h4, h5, h3⟩))
      · exact .inl ⟨.inr (mem_blocks.2 (.inr ⟨j, v, R, h4, h5, h3⟩)), lent_row h h4 h5 h3 hj⟩
theorem back_mono (h : Mem w0 G0 bs rs bx rv w) (h' : Mem w (lndB G0 bx rv rs k m) bs' rs' (bx.take k) rv' w') (hl1 : rv'.length = m) (hl2 : rs'.length = m) (b : Nat) (hb : b < w.heap.size) (hG : ¬ GG G0 bx rv rs b) : w'.heap[b]? = w.heap[b]? ∧ ¬ GG G0 bx (rv' ++ rv.drop m) (rs' ++ rs.drop m) b := by
  refine ⟨h'.below.block b hb fun hX => hG (.inr (blocks_take hX)), fun h1 => hG ?_⟩
  rcases back_gg (k := k) h hl1 hl2 h1 with h2 | h2
  · exact h2.1
  · rcases h'.ge b h2 with h3 | h3
    · omega
    · exact .inr (blocks_take h3)
theorem back_rv (hl1 : rv'.length = m) (hl2 : rs'.length = m) {j : Nat} {v : Value} (hj : m ≤ j) (hh : rvOf rv rs j = some v) : rvOf (rv' ++ rv.drop m) (rs' ++ rs.drop m) j = some v := by
  unfold rvOf at hh ⊢
  rw [List.getElem?_append_right (by omega), List.getElem?_append_right (by omega), List.getElem?_drop, List.getElem?_drop, hl1, hl2, show m + (j - m) = j by omega]
  exact hh
theorem Mem.back (h : Mem w0 G0 bs rs bx rv w) (hk : k ≤ bs.length) (h' : Mem w (lndB G0 bx rv rs k m) bs' rs' (bx.take k) rv' w') (hl2 : rs'.length = m) : Mem w0 G0 (bs' ++ (bs.drop k).map fun p => (p.1, p.2.map (killU0 m))) (rs' ++ rs.drop m) bx (rv' ++ rv.drop m) w' := by
  have hl1 : rv'.length = m := h'.nr.trans hl2
  have hnb := h.nb
  have hnr := h.nr
  have hnb' : bs'.length = k := by have := h'.nb; rw [List.length_take] at this; omega
  have hmono := back_mono h h' hl1 hl2
  refine ⟨⟨h'.below.os.trans h.below.os, h'.below.tape.trans h.below.tape, h'.below.output.trans h.below.output, Nat.le_trans h.below.size h'.below.size, fun b hb hX => ?_⟩, h.env0, h.g0, ?_, ?_, fun i g hi => ?_, fun j v R hv hR => ?_, ⟨h.nodup.bb, fun j v R b h1 h2 h3 h4 => ?_, fun i j u v X Y b hij h1 h2 h3 h4 h5 h6 => ?_⟩, fun b hb => ?_, h.pin⟩
  · refine (h'.below.block b (Nat.lt_of_lt_of_le hb h.below.size) fun hl => ?_).trans (h.below.block b hb hX)
    rcases h.ge b (blocks_take hl) with h1 | h1
    · omega
    · exact hX h1
  · rw [List.length_append, List.length_map, List.length_drop]; omega
  · rw [List.length_append, List.length_append, List.length_drop, List.length_drop]; omega
  · by_cases hik : i < k
    · obtain ⟨ty, cs, us, h1, h2, h3, h4⟩ := h'.box i g (gt_take hik hi)
      refine ⟨ty, cs, us, by rw [List.getElem?_append_left (by omega)]; exact h1, h2, FT.mono (E := en w' (lndB G0 bx rv rs k m) (bx.take k) rv' rs') h3 (Nat.le_refl _) (fun b _ hb => ⟨rfl, fun hh => hb (back_gg h hl1 hl2 hh)⟩) (fun q x hq => (tk_get hq).2) (fun j v hh => ?_), h4⟩
      show rvOf (rv' ++ rv.drop m) (rs' ++ rs.drop m) j = some v
      have hh : rvOf rv' rs' j = some v := hh
      unfold rvOf at hh ⊢
      cases hq : rs'[j]? with
      | none => rw [hq] at hh; cases hh
      | some o =>
        have hj := (List.getElem?_eq_some_iff.1 hq).1
        rw [List.getElem?_append_left hj, List.getElem?_append_left (by omega), hq]
        rw [hq] at hh
        exact hh
    · obtain ⟨ty, cs, us, h1, h2, h3, h4⟩ := h.box i g hi
      refine ⟨ty, cs.map (killU0 m), us, ?_, (h'.below.block g h2.lt (lent_box h hi (by omega))).trans h2, FT.killU0s (E := en w G0 bx rv rs) (E' := en w' G0 bx (rv' ++ rv.drop m) (rs' ++ rs.drop m)) h'.below.size hmono (fun _ _ hh => hh) (fun j v hj hh => back_rv hl1 hl2 hj hh) h3, h4⟩
      rw [List.getElem?_append_right (by omega), List.getElem?_map, List.getElem?_drop, hnb', show k + (i - k) = i by omega, h1]
      rfl
  · rcases back_idx hl1 hl2 hv hR with ⟨_, h4, h5⟩ | ⟨hj, h4, h5⟩
    · obtain ⟨xs, h1, h2, h3, h6⟩ := h'.row j v R h4 h5
      exact ⟨xs, h1, h2.mono (Nat.le_refl _) fun b _ hb => ⟨rfl, fun hh => hb (back_gg h hl1 hl2 hh)⟩, h3, h6⟩
    · obtain ⟨xs, h1, h2, h3, h6⟩ := h.row j v R h4 h5
      have hsame : ∀ g, v.ownBlock = some g → w'.heap[g]? = w.heap[g]? := fun g hg => h'.below.block g (h1.lt g hg).2 (lent_row h h4 h5 hg hj)
      exact ⟨xs, own_same h1 hsame, h2.mono h'.below.size hmono, h3, fun g hg => (h6 g hg).of (hsame g hg)⟩
  · rcases back_idx hl1 hl2 h1 h2 with ⟨_, h5, h6⟩ | ⟨_, h5, h6⟩
    · obtain ⟨i, hi⟩ := List.getElem?_of_mem h4
      by_cases hik : i < k
      · exact h'.nodup.br j v R b h5 h6 h3 (List.mem_of_getElem? (gt_take hik hi))
      · obtain ⟨_, _, _, _, h7, _⟩ := h.box i b hi
        rcases h'.ge b (mem_blocks.2 (.inr ⟨j, v, R, h5, h6, h3⟩)) with h8 | h8
        · have := h7.lt; omega
        · exact lent_box h hi (by omega) h8
    · exact h.nodup.br j v R b h5 h6 h3 h4
  · have hx : ∀ {i j : Nat} {u v : Value} {X Y : Row}, rv'[i]? = some u → rs'[i]? = some (some X) → u.ownBlock = some b → m ≤ j → rv[j]? = some v → rs[j]? = some (some Y) → v.ownBlock = some b → False := fun {i j u v X Y} g1 g2 g3 g4 g5 g6 g7 => by
      obtain ⟨_, h8, _⟩ := h.row j v Y g5 g6
      rcases h'.ge b (mem_blocks.2 (.inr ⟨i, u, X, g1, g2, g3⟩)) with h9 | h9
      · have := (h8.lt b g7).2; omega
      · exact lent_row h g5 g6 g7 g4 h9
    rcases back_idx hl1 hl2 h1 h2 with ⟨_, a1, a2⟩ | ⟨a0, a1, a2⟩ <;> rcases back_idx hl1 hl2 h3 h4 with ⟨_, b1, b2⟩ | ⟨b0, b1, b2⟩
    · exact h'.nodup.rr i j u v X Y b hij a1 a2 b1 b2 h5 h6
    · exact hx a1 a2 h5 b0 b1 b2 h6
    · exact hx b1 b2 h6 a0 a1 a2 h5
    · exact h.nodup.rr i j u v X Y b hij a1 a2 b1 b2 h5 h6
  · rcases mem_blocks.1 hb with h1 | ⟨j, v, R, h1, h2, h3⟩
    · exact h.ge b (mem_blocks.2 (.inl h1))
    · rcases back_idx hl1 hl2 h1 h2 with ⟨_, h5, h6⟩ | ⟨_, h5, h6⟩
      · rcases h'.ge b (mem_blocks.2 (.inr ⟨j, v, R, h5, h6, h3⟩)) with h7 | h7
        · exact .inl (Nat.le_trans h.below.size h7)
        · exact h.ge b (blocks_take h7)
      · exact h.ge b (mem_blocks.2 (.inr ⟨j, v, R, h5, h6, h3⟩))
end
def CtL (f : FuncId) (args : List Tree) (bs : List (TypeId × List Tree)) (rs : List (Option Row)) (bs' : List (TypeId × List Tree)) (rs' : List (Option Row)) (r : Tree) : Prop := (∃ fn, Tryz.prog.funcs[f]? = some fn ∧ (fn.name == "runtime.NumGoroutine") = false ∧ fn.body.isNone = false) ∧ rs'.length = rs.length ∧ ∀ (w : World) (G0 : Bse) (bx : List Nat) (rv vs : List Value), G0.pn = bs.length → Mem w G0 bs rs bx rv w → FT (en w G0 bx rv rs) vs args →
  Calls Tryz.prog f vs.toArray w fun e w' => ∃ v rv', e = .returned v ∧ Mem w G0 bs' rs' bx rv' w' ∧ PT w' (GG G0 bx rv' rs') [v] [r]
section
variable {w0 : World} {G0 : Bse} {o : Oper} {S : St}
theorem do_callL {f : FuncId} {xs : Array Operand} {ats : Array TypeId} {k m : Nat} {ts : List Tree} {bs' : List (TypeId × List Tree)} {rs' : List (Option Row)} {r : Tree} (ho : o.op = .call { callee := .value (.func f), args := xs, argTypes := ats }) (hd : dstOk S.n o.dst = true) (hk : Nat.ble k S.bs.length = true) (hm : Nat.ble m S.rs.length = true) (hcs : ((S.bs.take k).all fun p => p.2.all (Tree.pre k m)) = true) (hc : CtL f ts (S.bs.take k) (S.rs.take m) bs' rs' r) (ht : xs.toList.map S.ev = ts) (hp : ts.all (Tree.arg k) = true) :
    OpDo w0 G0 o S ((⟨S.n, S.sl.map fun p => (p.1, killU m p.2), bs' ++ (S.bs.drop k).map fun p => (p.1, p.2.map (killU0 m)), rs' ++ S.rs.drop m⟩ : St).put o.dst r) := by
  rintro a w ⟨bx, rv, hmm, hsz, hdf, hsl⟩
  have hk := Nat.ble_eq ▸ hk
  have hm := Nat.ble_eq ▸ hm
  have hf := args_ft (E := en w G0 bx rv S.rs) (T := fun s => a.tmps.getD s undef) (op := o.op) (S := S) (fun s _ => hsl s) xs.toList (fun x hx => by rw [ho]; simp only [Op.operands, Call.operands]; simp; exact .inr (by simpa using hx))
  rw [ht] at hf
  obtain ⟨⟨fn, h1, h2, h3⟩, hl, hc⟩ := hc
  have hl2 : rs'.length = m := by rw [hl, List.length_take]; omega
  have hM := hmm.lend hk hcs (m := m)
  have hsub : ∀ b, ¬ GG G0 bx rv S.rs b → ¬ GG (lndB G0 bx rv S.rs k m) (bx.take k) (rv.take m) (S.rs.take m) b := fun b hb h1 => by
    rcases h1 with h1 | h1
    · exact hb h1.1
    · exact hb (.inr (blocks_take h1))
  have hcc := hc w (lndB G0 bx rv S.rs k m) _ _ _ (by show k = _; rw [List.length_take]; omega) hM (FT.args (k := k) (E := en w G0 bx rv S.rs) (E' := en w (lndB G0 bx rv S.rs k m) (bx.take k) (rv.take m) (S.rs.take m)) (Nat.le_refl _) (fun b _ hb => ⟨rfl, hsub b hb⟩) (fun b g hb hg => gt_take (l := bx) hb hg) hf hp)
  refine OpRuns.of_call (f := f) (args := (xs.toList.map (evT fun s => a.tmps.getD s undef)).toArray) ?_ (hcc.mono ?_)
  · have e1 : ¬ fn.name = "runtime.NumGoroutine" := by simpa using h2
    have e2 : ¬ fn.body = none := fun e => by rw [e] at h3; cases h3
    have e3 : (xs.toList.map (evT fun s => a.tmps.getD s undef)).toArray = xs.map (evT fun s => a.tmps.getD s undef) := Array.ext' (by simp)
    rw [e3]
    simp [execOp, ho, resolve, evT, Deferred.ofValue, invoke, callFunc, h1, e1, e2]
  · rintro y w' ⟨v, rv', rfl, hM', hpv⟩
    have hl1 : rv'.length = m := hM'.nr.trans hl2
    have hback := hmm.back hk hM' hl2
    have hmono := back_mono hmm hM' hl1 hl2
    refine ⟨v, rfl, bx, rv' ++ rv.drop m, by rw [St.put_bs, St.put_rs]; exact hback, by rw [put_size, St.put_n]; exact hsz, by rw [put_defers, hdf], fun i => ?_⟩
    rw [St.put_rs, put_getD a o.dst _ S.n hsz hd, St.put_get]
    split
    · exact .of (hpv.mono (Nat.le_refl _) fun b _ hb => ⟨rfl, fun hh => hb (back_gg hmm hl1 hl2 hh)⟩)
    · show FT _ _ [look (S.sl.map fun p => (p.1, killU m p.2)) i]
      rw [look_map (killU m) rfl]
      exact (hsl i).killU (E' := en w' G0 bx (rv' ++ rv.drop m) (rs' ++ S.rs.drop m)) hM'.below.size hmono (fun _ _ hh => hh) (fun j v hj hh => back_rv hl1 hl2 hj hh)
end
def retQL (rvs : List ResultVar) (bs' : List (TypeId × List Tree)) (rs' : List (Option Row)) (r : Tree) (e : Exit) (S : St) : Prop := retQ rvs r e S ∧ S.bs.take bs'.length = bs' ∧ S.rs.take rs'.length = rs' ∧ (bs'.all fun p => p.2.all (Tree.pre bs'.length rs'.length)) = true
theorem CtL.of {f : FuncId} {fn : Func} {c : Code} {args : List Tree} {bs bs' : List (TypeId × List Tree)} {rs rs' : List (Option Row)} {r : Tree} {n : Nat} {rvs : List ResultVar} (hf : Tryz.prog.funcs[f]? = some fn) (hb : fn.body = some c) (hnm : (fn.name == "runtime.NumGoroutine") = false) (hn : fn.ntmps = n) (hl : Nat.ble args.length n = true) (hr : fn.results.toList = rvs) (hbl : bs'.length = bs.length) (hrl : rs'.length = rs.length)
    (h : ∀ (w0 : World) (G X : Nat → Prop) (P : Nat → Nat), AWP w0 ⟨G, X, bs.length, P⟩ c (retQL rvs bs' rs' r) ⟨n, initSl 0 args, bs, rs⟩) : CtL f args bs rs bs' rs' r := by
  refine ⟨⟨fn, hf, hnm, by rw [hb]; rfl⟩, hrl, fun w G0 bx rv vs hpn hm hp => ?_⟩
  have h : AWP w G0 c (retQL rvs bs' rs' r) ⟨n, initSl 0 args, bs, rs⟩ := by
    obtain ⟨G, X, pn, P⟩ := G0
    have hpn : pn = bs.length := hpn
    subst hpn
    exact h w G X P
  have hlen := hp.length
  have hl : args.length ≤ n := by simpa using hl
  refine calls_of_wp hf hb (wp_mono (h _ w ⟨bx, rv, hm, ?_, rfl, fun i => slots_init hp i⟩) ?_)
  · simp; omega
  · rintro e a w' ⟨S', ⟨⟨he, ts, hrl', rfl, hpl⟩, hb0, hr0, hp0⟩, bx', rv', hm', _, hdf, hsl⟩
    obtain ⟨vs', hrun, hft⟩ := run_results hm' hsl (hr ▸ hrl')
    have hnb := hm.nb
    have hnb' := hm'.nb
    have hkb : bs'.length ≤ S'.bs.length := by
      have := congrArg List.length hb0
      rw [List.length_take] at this; omega
    have hbx : bx'.take bs'.length = bx := by
      refine List.ext_getElem? fun i => ?_
      rw [List.getElem?_take]
      split
      · next hi =>
        have h1 := hm.pin i (by omega)
        have h2 := hm'.pin i (by omega)
        rw [h1, h2]
      · rw [List.getElem?_eq_none]; omega
    have hM : Mem w G0 bs' rs' bx (rv'.take rs'.length) w' := by
      have hsub : ∀ b, ¬ GG G0 bx' rv' S'.rs b → ¬ GG G0 (bx'.take bs'.length) (rv'.take rs'.length) (S'.rs.take rs'.length) b := fun b hb h1 => by
        rcases h1 with h1 | h1
        · exact hb (.inl h1)
        · exact hb (.inr (blocks_take h1))
      have key : Mem w G0 (S'.bs.take bs'.length) (S'.rs.take rs'.length) (bx'.take bs'.length) (rv'.take rs'.length) w' := by
        refine ⟨hm'.below, hm'.env0, hm'.g0, by simp [hm'.nb], by simp [hm'.nr], fun i g hi => ?_, fun j v R hv hR => ?_, ⟨hm'.nodup.bb.sublist (List.take_sublist _ _), fun j v R b h1 h2 h3 h4 => hm'.nodup.br j v R b (tk_get h1).2 (tk_get h2).2 h3 (List.mem_of_mem_take h4), fun i j u v X R b hij h1 h2 h3 h4 h5 h6 => hm'.nodup.rr i j u v X R b hij (tk_get h1).2 (tk_get h2).2 (tk_get h3).2 (tk_get h4).2 h5 h6⟩, fun b hb => hm'.ge b (blocks_take hb), fun i hi => ?_⟩
        · obtain ⟨hik, hi⟩ := tk_get hi
          obtain ⟨ty, cs, us, h1, h2, h3, h4⟩ := hm'.box i g hi
          have h5 := gt_take hik h1
          refine ⟨ty, cs, us, h5, h2, FT.pres (k := bs'.length) (m := rs'.length) (E := en w' G0 bx' rv' S'.rs) (E' := en w' G0 (bx'.take bs'.length) (rv'.take rs'.length) (S'.rs.take rs'.length)) (Nat.le_refl _) (fun b _ hb => ⟨rfl, hsub b hb⟩) (fun b g hb hg => gt_take (l := bx') hb hg) (fun j v hj hh => ?_) h3 ?_, h4⟩
          · show rvOf (rv'.take _) (S'.rs.take _) j = some v
            have hh : rvOf rv' S'.rs j = some v := hh
            unfold rvOf at hh ⊢
            rw [List.getElem?_take, List.getElem?_take, if_pos hj, if_pos hj]
            exact hh
          · rw [hb0] at h5
            exact List.all_eq_true.1 hp0 _ (List.mem_of_getElem? h5)
        · obtain ⟨xs, h1, h2, h3, h4⟩ := hm'.row j v R (tk_get hv).2 (tk_get hR).2
          exact ⟨xs, h1, h2.mono (Nat.le_refl _) fun b _ hb => ⟨rfl, hsub b hb⟩, h3, h4⟩
        · exact gt_take (by omega) (hm'.pin i hi)
      rwa [hb0, hr0, hbx] at key
    have hgg : ∀ b, ¬ GG G0 bx' rv' S'.rs b → ¬ GG G0 bx (rv'.take rs'.length) rs' b := fun b hb h1 => by
      rcases h1 with h1 | h1
      · exact hb (.inl h1)
      · rw [← hbx, ← hr0] at h1
        simp only [List.length_take] at h1
        rcases mem_blocks.1 h1 with h2 | ⟨j, v, R, h2, h3, h4⟩
        · exact hb (.inr (mem_blocks.2 (.inl (List.mem_of_mem_take h2))))
        · exact hb (.inr (mem_blocks.2 (.inr ⟨j, v, R, (tk_get h2).2, (tk_get h3).2, h4⟩)))
    have key : a.defers = [] ∧ ∃ v, (results fn a.tmps).run Tryz.prog w' = .ok v w' ∧ (fun e w' => ∃ v rv', e = Ending.returned v ∧ Mem w G0 bs' rs' bx rv' w' ∧ PT w' (GG G0 bx rv' rs') [v] [resTree ts]) (.returned v) w' := by
      refine ⟨hdf, if h : vs'.toArray.size = 1 then vs'.toArray[0] else .tuple vs'.toArray, ?_, _, rv'.take rs'.length, rfl, hM, ?_⟩
      · unfold results
        rw [Sem.run_bind, Array.mapM_eq_mapM_toList, Sem.run_map]
        exact congrArg (fun x : Result (List Value) => (x.andThen fun a w' => Result.ok a.toArray w').andThen fun a w' => Sem.run Tryz.prog (pure (if h : a.size = 1 then a[0] else Value.tuple a)) w') hrun
      · have h1 : FT (en w' G0 bx' rv' S'.rs) [if h : vs'.toArray.size = 1 then vs'.toArray[0] else .tuple vs'.toArray] [resTree ts] := by
          match vs', ts, hft with
          | [], [], _ => exact .tup [] [] .nil .nil
          | [u], [t], h => exact h
          | u :: u' :: us, t :: t' :: ts, h =>
            rw [dif_neg (by simp)]
            exact .tup _ _ h .nil
        exact (h1.plain hpl).mono (Nat.le_refl _) fun b _ hb => ⟨rfl, hgg b hb⟩
    rcases he with rfl | rfl
    · exact key
    · exact key
theorem AOps.callL {w0 : World} {G0 : Bse} {o : Oper} {ops : Array Oper} {rest : List Oper} {Q : Exit → St → Prop} {n d : Nat} {sl sl' : List (Nat × Tree)} {bs bL bL' bs' : List (TypeId × List Tree)} {rs rL rL' rs' : List (Option Row)} {f : FuncId} {xs : Array Operand} {ats : Array TypeId} {ts : List Tree} {r : Tree} (k m : Nat) (ho : o.op = .call { callee := .value (.func f), args := xs, argTypes := ats }) (hg : o.guard = none) (hd : o.dst = some d) (hn : Nat.blt d n = true) (hk : Nat.ble k bs.length = true) (hm : Nat.ble m rs.length = true) (hb : bs.take k = bL) (hr : rs.take m = rL) (hcs : (bL.all fun p => p.2.all (Tree.pre k m)) = true) (hc : CtL f ts bL rL bL' rL' r) (ht : xs.toList.map (St.ev ⟨n, sl, bs, rs⟩) = ts) (hp : ts.all (Tree.arg k) = true) (hsl : (sl.map fun p => (p.1, killU m p.2)) = sl') (hbs : bL' ++ ((bs.drop k).map fun p => (p.1, p.2.map (killU0 m))) = bs') (hrs : rL' ++ rs.drop m = rs') (K : AOps w0 G0 ops rest Q ⟨n, (d, r) :: sl', bs', rs'⟩) : AOps w0 G0 ops (o :: rest) Q ⟨n, sl, bs, rs⟩ := by
  subst hb hr hsl hbs hrs
  refine AOps.turn hg (do_callL (S := ⟨n, sl, bs, rs⟩) ho (by rw [hd]; simpa [dstOk, Nat.blt_eq] using hn) hk hm hcs hc ht hp) ?_
  rw [hd]; exact K
end Go.Proofs.YtpinhcdcnaaihaaGreatDoor
namespace Go.Proofs.YtpinhcdcnaaihaaGreatDoor
open Go.Shelf
theorem l240 : Lays.n240 Tryz.prog Tryz.lays165_ren := { Tryz.lays165 with }
theorem x72 : Builder.X72 Tryz.prog Tryz.lays165_ren where
  sizeBuilder := by kernel_rfl
  liesBuilder := by kernel_rfl
end Go.Proofs.YtpinhcdcnaaihaaGreatDoor
