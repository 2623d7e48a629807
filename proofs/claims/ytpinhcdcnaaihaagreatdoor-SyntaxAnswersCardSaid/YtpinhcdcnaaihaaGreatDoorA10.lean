import Derived.Test.YtpinhcdcnaaihaaGreatDoorA09
import Derived.Deep.QuietTactic
import Derived.BigQuiet
import Derived.StillTailTactics
import Derived.Laws.BitsAllLaws
import Derived.Laws.Bits64
import Derived.Lib.ReplaceLaws
import Derived.Lib.ItoaNum
import Derived.Lib.ParseIntB
import Derived.Laws.OwnMore
namespace Go.Proofs.YtpinhcdcnaaihaaGreatDoor
open Go.RowKit
section
variable {w0 : World} {G0 : Bse} {S : St} {o : Oper}
theorem flat_set {n : Nat} {es : List Tree} (hs : Sized n es) {j : Nat} (hj : j < es.length) {t : Tree} (ht : t.cells.length = n) : flat (es.set j t) = (flat es).take (j * n) ++ t.cells ++ (flat es).drop (j * n + n) := by
  rw [List.set_eq_take_append_cons_drop, if_pos hj, flat_append, flat_cons, flat_take hs, flat_drop hs, show (j + 1) * n = j * n + n by rw [Nat.add_mul]; omega, List.append_assoc]
theorem Sized.set {n : Nat} {es : List Tree} (hs : Sized n es) (j : Nat) {t : Tree} (ht : t.cells.length = n) : Sized n (es.set j t) := fun x hx => by
  rcases List.mem_or_eq_of_mem_set hx with h | rfl
  · exact hs x h
  · exact ht
theorem elp_row {w : World} {bs : List (TypeId × List Tree)} {rs : List (Option Row)} {bx : List Nat} {rv : List Value} {k off : Nat} {R : Row} {v : Value} (hm : Mem w0 G0 bs rs bx rv w) (hR : rs[k]? = some (some R)) (h : FT (en w G0 bx rv rs) [v] [.elp k off]) :
    ∃ g n c xs, v = .pointer (some ⟨g, off, none⟩) ∧ rv[k]? = some (.slice (some ⟨g, 0, none⟩) n c) ∧ w.ownsRow 0 R.e R.sz (.slice (some ⟨g, 0, none⟩) n c) R.es.length xs ∧ PT w (GG G0 bx rv rs) xs (flat R.es) ∧ (Sized R.sz R.es ∧ (R.tt = true → TightV (.slice (some ⟨g, 0, none⟩) n c))) ∧ NoDigB w g := by
  obtain ⟨g, n, c, h1, rfl⟩ := h.isElp
  have h1 : rvOf rv rs k = some _ := h1
  simp only [rvOf, hR, Option.bind_some, id] at h1
  obtain ⟨xs, h2, h3, h4, h5⟩ := hm.row k _ R h1 hR
  exact ⟨g, n, c, xs, rfl, h1, h2, h3, h4, h5 g rfl⟩
theorem ok_index_own {x ix : Operand} {t e : TypeId} {n k r : Nat} {R : Row} {kd : IntKind} {i : Int} {j : Nat} (ho : o.op = .indexAddr t x ix) (ht : elmT Tryz.prog t = some (e, n)) (hx : S.ev x = .own k) (hR : S.rs[k]? = some (some R)) (hz : R.sz = n) (hi : S.ev ix = .sc (.int kd i)) (hj : i = j) (hlt : j < R.es.length) (hr : j * n = r) : OpOK o S (.elp k r) := by
  subst hr hj
  intro w0 G0 bx rv w T hm hT
  have h1 := (ev_ft' hT hi (by rw [ho]; simp [Op.operands])).isSc
  have hp := ev_ft' hT hx (by rw [ho]; simp [Op.operands])
  obtain ⟨hv, xs, hown, hpx, hss, hnd⟩ := FT.own_row hm hR hp
  rcases hown.2 with ⟨_, h0⟩ | ⟨g, cp, cur, h2, _⟩
  · omega
  · have hr := run_index_sl (P := Tryz.prog) (w := w) (b := g) (o := 0) (n := R.es.length) (c := cp) (k := kd) (i := (j : Int)) ht (by omega) (by omega)
    rw [Int.toNat_natCast] at hr
    refine OpRuns.of_ok (v := .pointer (some ⟨g, j * n, none⟩)) (W' := w) ?_ ⟨.elp k (j * n) g R.es.length cp ?_ .nil, Below.refl _ _⟩
    · simp only [Nat.zero_add] at hr
      simp [execOp, ho, h1, h2, hr]
    · show rvOf rv S.rs k = _
      simp only [rvOf, hR, Option.bind_some, id]
      rw [hv, h2]
theorem elp_cells {w : World} {base g n c : Nat} {e : TypeId} {sz m : Nat} {xs : List Value} (h : w.ownsRow base e sz (.slice (some ⟨g, 0, none⟩) n c) m xs) : ∃ cur : List Value, IsBlk w g e cur.toArray ∧ cur.length = c * sz ∧ n = m ∧ n ≤ c ∧ cur.take (m * sz) = xs ∧ base ≤ g ∧ c ≤ maxLen ∧ ∀ (j : Nat) u, xs[j]? = some u → w.cell? ⟨g, j, none⟩ = some u := by
  rcases h.2 with ⟨hv, _⟩ | ⟨g', c', cur, hv, hb, hg, hn, hm, hs, ht⟩
  · cases hv
  · injection hv with h1 h2 h3
    injection h1 with h1
    injection h1 with h1
    subst h1 h2 h3
    have hbk : IsBlk w g e cur.toList.toArray := by simpa [IsBlk] using hg
    refine ⟨cur.toList, hbk, by simpa using hs, rfl, hn, ht, hb, hm, fun j u hu => ?_⟩
    rw [hbk.cell j]
    rw [← ht, List.getElem?_take] at hu
    split at hu
    · simpa using hu
    · cases hu
theorem ok_load_elp1 {x : Operand} {t : TypeId} {k off j fo : Nat} {R : Row} {c d : Tree} (ho : o.op = .load t x) (hx : S.ev x = .elp k off) (hR : S.rs[k]? = some (some R)) (ht : oneT Tryz.prog t = true) (hc : R.es[j]? = some c) (hoff : off = j * R.sz + fo) (hfo : fo < R.sz) (hd : c.cells[fo]? = some d) : OpOK o S d := by
  intro w0 G0 bx rv w T hm hT
  obtain ⟨g, n, cp, xs, h1, h2, h3, h4, h5, _⟩ := elp_row hm hR (ev_ft' hT hx (by rw [ho]; simp [Op.operands]))
  obtain ⟨_, _, _, _, _, _, _, _, hcell⟩ := elp_cells h3
  obtain ⟨hlt, hge⟩ := List.getElem?_eq_some_iff.1 hc
  have h6 := flat_at h5.1 j hlt fo hfo
  rw [hge, hd, ← hoff] at h6
  obtain ⟨u, hu, hf⟩ := h4.get off d h6
  have hr := run_load_one (P := Tryz.prog) (w := w) (b := g) (o := off) (u := u) ht (hcell off u hu)
  refine OpRuns.of_ok (v := u) (W' := w) ?_ ⟨.pure hf .nil, Below.refl _ _⟩
  simp [execOp, ho, h1, hr]
theorem Mem.setRowE {w w' : World} {bs : List (TypeId × List Tree)} {rs : List (Option Row)} {bx : List Nat} {rv : List Value} {k : Nat} {v : Value} {R R' : Row} (h : Mem w0 G0 bs rs bx rv w) {xs : List Value} (hv : rv[k]? = some v) (hR : rs[k]? = some (some R)) (hw : w.grownBy w' v.ownBlock) (ho : w'.ownsRow 0 R'.e R'.sz v R'.es.length xs) (hx : PT w' (GG G0 bx rv rs) xs (flat R'.es)) (hsz : Sized R'.sz R'.es ∧ (R'.tt = true → TightV v)) (hd : ∀ g, v.ownBlock = some g → NoDigB w' g) :
    Mem w0 G0 bs (rs.set k (some R')) bx rv w' ∧ (∀ us ts, FT (en w G0 bx rv rs) us ts → FT (en w' G0 bx rv (rs.set k (some R'))) us ts) := by
  have hkl := (List.getElem?_eq_some_iff.1 hv).1
  have hkr := (List.getElem?_eq_some_iff.1 hR).1
  have hrv : rv.set k v = rv := by rw [← (List.getElem?_eq_some_iff.1 hv).2]; exact List.set_getElem_self hkl
  have hbl : ∀ b, b ∈ blocks bx rv (rs.set k (some R')) ↔ b ∈ blocks bx rv rs := fun b => by
    rw [mem_blocks, mem_blocks]
    refine or_congr Iff.rfl ⟨?_, ?_⟩
    · rintro ⟨j, u, X, h1, h2, h3⟩
      by_cases hj : j = k
      · subst hj; rw [hv] at h1; cases h1; exact ⟨j, v, R, hv, hR, h3⟩
      · rw [List.getElem?_set_ne (fun e => hj e.symm)] at h2
        exact ⟨j, u, X, h1, h2, h3⟩
    · rintro ⟨j, u, X, h1, h2, h3⟩
      by_cases hj : j = k
      · subst hj; rw [hv] at h1; cases h1; exact ⟨j, v, R', hv, by rw [List.getElem?_set_self hkr], h3⟩
      · exact ⟨j, u, X, h1, by rw [List.getElem?_set_ne (fun e => hj e.symm)]; exact h2, h3⟩
  have hgg : ∀ b, GG G0 bx rv (rs.set k (some R')) b ↔ GG G0 bx rv rs b := fun b => or_congr Iff.rfl (hbl b)
  have hmono : ∀ b, b < w.heap.size → ¬ GG G0 bx rv rs b → w'.heap[b]? = w.heap[b]? ∧ ¬ GG G0 bx rv (rs.set k (some R')) b := fun b hb hG => ⟨hw.block b hb fun e => hG (.inr (mem_blocks.2 (.inr ⟨k, v, R, hv, hR, e.symm⟩))), fun h => hG ((hgg b).1 h)⟩
  have hrvo : ∀ j u, rvOf rv rs j = some u → rvOf rv (rs.set k (some R')) j = some u := fun j u hj => by
    unfold rvOf at hj ⊢
    by_cases hjk : j = k
    · subst hjk
      rw [hR] at hj
      rw [List.getElem?_set_self hkr]
      exact hj
    · rw [List.getElem?_set_ne (fun e => hjk e.symm)]; exact hj
  have hft : ∀ us ts, FT (en w G0 bx rv rs) us ts → FT (en w' G0 bx rv (rs.set k (some R'))) us ts := fun us ts hf => hf.mono (E' := en w' G0 bx rv (rs.set k (some R'))) hw.size hmono (fun _ _ h => h) hrvo
  have hG' : GG G0 bx rv (rs.set k (some R')) = GG G0 bx rv rs := funext fun b => propext (hgg b)
  refine ⟨⟨h.below.grown hw (fun b e => h.ge b (mem_blocks.2 (.inr ⟨k, v, R, hv, hR, e⟩))), h.env0, h.g0, h.nb, by simp [h.nr], fun i g hi => ?_, fun j u X h1 h2 => ?_, ⟨h.nodup.bb, fun j u X b h1 h2 h3 => ?_, fun i j u t X Y b hij h1 h2 h3 h4 h5 h6 => ?_⟩, fun b hb => h.ge b ((hbl b).1 hb), h.pin⟩, hft⟩
  · obtain ⟨ty, cs, us, h1, h2, h3, h4⟩ := h.box i g hi
    exact ⟨ty, cs, us, h1, (hw.block g h2.lt fun e => h.nodup.br k v R g hv hR e.symm (List.mem_of_getElem? hi)).trans h2, hft _ _ h3, h4⟩
  · by_cases hj : j = k
    · subst hj
      rw [hv] at h1; cases h1
      rw [List.getElem?_set_self hkr] at h2; cases h2
      exact ⟨xs, ho, by rw [hG']; exact hx, hsz, hd⟩
    · rw [List.getElem?_set_ne (fun e => hj e.symm)] at h2
      obtain ⟨ys, h6, h7, h8, h9⟩ := h.row j u X h1 h2
      have hne : ∀ b, u.ownBlock = some b → v.ownBlock ≠ some b := fun b e1 e2 => h.nodup.rr j k u v X R b hj h1 h2 hv hR e1 e2
      refine ⟨ys, h6.kept hw ?_, h7.mono hw.size hmono, h8, fun g hg => (h9 g hg).of (hw.block g (h6.lt g hg).2 fun e => hne g hg e.symm)⟩
      cases hu : u.ownBlock with
      | none => exact .inl rfl
      | some b => exact .inr fun e => hne b hu e.symm
  · by_cases hj : j = k
    · subst hj; exact h.nodup.br j u R b h1 hR h3
    · rw [List.getElem?_set_ne (fun e => hj e.symm)] at h2
      exact h.nodup.br j u X b h1 h2 h3
  · have f : ∀ i X, (rs.set k (some R'))[i]? = some (some X) → ∃ Z, rs[i]? = some (some Z) := fun i X h => by
      by_cases hi : i = k
      · subst hi; exact ⟨R, hR⟩
      · rw [List.getElem?_set_ne (fun e => hi e.symm)] at h; exact ⟨X, h⟩
    obtain ⟨X', e1⟩ := f i X h2
    obtain ⟨Y', e2⟩ := f j Y h4
    exact h.nodup.rr i j u t X' Y' b hij h1 e1 h3 e2 h5 h6
theorem do_store_elp {ty : TypeId} {x y : Operand} {k off j : Nat} {R : Row} {t : Tree} (ho : o.op = .store ty x y) (hdst : o.dst = none) (hx : S.ev x = .elp k off) (hR : S.rs[k]? = some (some R)) (hoff : off = j * R.sz) (hj : j < R.es.length) (ht : S.ev y = t) (h1 : t.oneA = true) (h2 : t.cells.all Tree.one = true) (hn : t.cells.all Tree.noDig = true) (hp : t.cells.all Tree.plain0 = true) (hs : (Tryz.prog.info? ty).map (·.size) = some R.sz) (hl : t.cells.length = R.sz) : OpDo w0 G0 o S { S with rs := S.rs.set k (some ⟨R.e, R.sz, R.es.set j t, R.tt⟩) } := by
  rintro a w ⟨bx, rv, hm, hsz, hdf, hsl⟩
  have hv := ev_ft' (op := o.op) (T := fun s => a.tmps.getD s undef) (S := S) (fun s _ => hsl s) ht (by rw [ho]; simp [Op.operands])
  have hpp := ev_ft' (op := o.op) (T := fun s => a.tmps.getD s undef) (S := S) (fun s _ => hsl s) hx (by rw [ho]; simp [Op.operands])
  generalize (fun s => a.tmps.getD s undef) = T at hv hpp ⊢
  obtain ⟨g, n, cp, xs, e1, hrv, hown, hpx, hss, hnd⟩ := elp_row hm hR hpp
  obtain ⟨cur, hbk, hcl, hnm, hnc, htk, hbase, hmx, _⟩ := elp_cells hown
  have hc := cells_ft hv h1
  have hcp := hc.plain0s hp
  obtain ⟨vy, hvy⟩ : ∃ vy, evT T y = vy := ⟨_, rfl⟩
  rw [hvy] at hv hc hcp
  have hlen : vy.cells.toList.length = R.sz := by rw [hc.length, hl]
  have hle : (j + 1) * R.sz ≤ R.es.length * R.sz := Nat.mul_le_mul_right _ hj
  rw [Nat.add_mul, Nat.one_mul] at hle
  have hle2 : R.es.length * R.sz ≤ cp * R.sz := Nat.mul_le_mul_right _ (by omega)
  have hrun := run_store_row (P := Tryz.prog) (w := w) (g := g) (off := off) (ty := ty) (t := R.e) (cur := cur) (v := vy) hbk (by rw [hs, show vy.cells.size = R.sz from hlen]) (by rw [hcl, hoff]; simp only [Array.length_toList] at hlen; omega) (hc.ones h2)
  have hszv : vy.cells.size = R.sz := hlen
  rw [hszv] at hrun
  have hgr := grown_setRow w g (cur.take off ++ vy.cells.toList ++ cur.drop (off + R.sz)).toArray
  have hgl : g < w.heap.size := hbk.lt
  have hset : IsBlk (w.setRow g (cur.take off ++ vy.cells.toList ++ cur.drop (off + R.sz)).toArray) g R.e (cur.take off ++ vy.cells.toList ++ cur.drop (off + R.sz)).toArray := by
    have := hbk
    simp only [IsBlk, World.setRow] at this ⊢
    simp [Array.getElem?_modify, this]
  have hgmem : g ∈ blocks bx rv S.rs := mem_blocks.2 (.inr ⟨k, _, R, hrv, hR, rfl⟩)
  have htk2 : (cur.take off ++ vy.cells.toList ++ cur.drop (off + R.sz)).take (R.es.length * R.sz) = xs.take off ++ vy.cells.toList ++ xs.drop (off + R.sz) := by
    subst htk
    have e1 : (cur.take off).length = off := by rw [List.length_take, hcl]; omega
    have e2 : R.es.length * R.sz = off + R.sz + (R.es.length * R.sz - (off + R.sz)) := by omega
    rw [List.take_take, Nat.min_eq_left (by omega), List.drop_take, List.append_assoc, e2, List.take_append, e1, List.take_of_length_le (l := cur.take off) (by omega), List.take_append, hlen, List.take_of_length_le (l := vy.cells.toList) (by omega), List.append_assoc]
    rw [show off + R.sz + (R.es.length * R.sz - (off + R.sz)) - off - R.sz = off + R.sz + (R.es.length * R.sz - (off + R.sz)) - (off + R.sz) by omega]
  have hnd' : NoDigB (w.setRow g (cur.take off ++ vy.cells.toList ++ cur.drop (off + R.sz)).toArray) g := noDig_block hset (by
    have hall := noDig_cur (show w.heap[g]? = some (.cells cur.toArray R.e (0, 0)) from hbk) hnd
    exact all_putV hall (hc.noDigs hn))
  obtain ⟨hmm, hft⟩ := hm.setRowE (R' := ⟨R.e, R.sz, R.es.set j t, R.tt⟩) (w' := w.setRow g (cur.take off ++ vy.cells.toList ++ cur.drop (off + R.sz)).toArray) (xs := xs.take off ++ vy.cells.toList ++ xs.drop (off + R.sz)) hrv hR hgr
    (by
      refine ⟨?_, .inr ⟨g, cp, _, ?_, hbase, hset, ?_, hmx, ?_, ?_⟩⟩
      · have := hown.1
        simp only [List.length_append, List.length_take, List.length_drop, List.length_set, hlen, this]; omega
      · rw [List.length_set, ← hnm]
      · rw [List.length_set, ← hnm]; exact hnc
      · simp only [List.size_toArray, List.length_append, List.length_take, List.length_drop, hlen, hcl]; omega
      · rw [List.length_set]; exact htk2)
    (by
      show PT _ _ _ (flat (R.es.set j t))
      rw [flat_set hss.1 hj hl, ← hoff]
      exact (((pt_write hgmem hgr hpx).take off).append (pt_write hgmem hgr hcp)).append ((pt_write hgmem hgr hpx).drop (off + R.sz)))
    ⟨hss.1.set j hl, hss.2⟩ (fun g' hg' => by injection hg' with hg'; subst hg'; exact hnd')
  refine OpRuns.of_skip (W' := w.setRow g (cur.take off ++ vy.cells.toList ++ cur.drop (off + R.sz)).toArray) (by simp only [execOp, ho, e1, hvy, Sem.run_bind, hrun, Result.andThen_ok]; rfl) ⟨bx, rv, hmm, by rw [put_size]; exact hsz, by rw [put_defers, hdf], fun i => ?_⟩
  rw [hdst]
  exact hft _ _ (hsl i)
end
end Go.Proofs.YtpinhcdcnaaihaaGreatDoor
namespace Go.Proofs.YtpinhcdcnaaihaaGreatDoor
open Go.RowKit
section
variable {w0 : World} {G0 : Bse} {S : St} {o : Oper}
end
end Go.Proofs.YtpinhcdcnaaihaaGreatDoor
namespace Go.Proofs.YtpinhcdcnaaihaaGreatDoor
open Go.RowKit
section
variable {w0 w : World} {G0 : Bse} {bs : List (TypeId × List Tree)} {rs : List (Option Row)} {bx : List Nat} {rv : List Value} {k : Nat} {R : Row} {v : Value}
end
section
variable {w0 : World} {G0 : Bse} {ops : Array Oper} {rest : List Oper} {Q : Exit → St → Prop} {o : Oper} {n : Nat} {sl : List (Nat × Tree)} {bs : List (TypeId × List Tree)} {rs : List (Option Row)} {S : St}
end
end Go.Proofs.YtpinhcdcnaaihaaGreatDoor
namespace Go.Proofs.YtpinhcdcnaaihaaGreatDoor
open Go.RowKit
def cmpI (a b : Int) : Int := if a < b then -1 else if b < a then 1 else 0
theorem cmpI_lt {a b : Int} (h : a < b) : cmpI a b = -1 := by simp [cmpI, h]
theorem cmpI_gt {a b : Int} (h : b < a) : cmpI a b = 1 := by simp [cmpI, h, show ¬ a < b by omega]
theorem cmpI_eq {a b : Int} (h1 : ¬ a < b) (h2 : ¬ b < a) : cmpI a b = 0 := by simp [cmpI, h1, h2]
end Go.Proofs.YtpinhcdcnaaihaaGreatDoor
namespace Go.Proofs.YtpinhcdcnaaihaaGreatDoor
open Go.RowKit
end Go.Proofs.YtpinhcdcnaaihaaGreatDoor
namespace Go.Proofs.YtpinhcdcnaaihaaGreatDoor
open Go.RowKit
def okB (c : UInt8) : Bool := decide (32 ≤ c.toNat ∧ c.toNat ≤ 126)
def validB (t n : Int) (s : ByteArray) : Bool :=
  if t = 1 then s.data.toList.isEmpty else decide (t = 2) && decide (n = 0) && decide (s.size ≤ 64) && s.data.toList.all okB
theorem all_take_succ (s : ByteArray) (k : Nat) (h : k < s.size) : (s.data.toList.take (k + 1)).all okB = ((s.data.toList.take k).all okB && okB s[k]) := by
  rw [List.take_succ_eq_append_getElem (by simpa using h), List.all_append]; simp; rfl
theorem all_of_take {l : List UInt8} (k : Nat) (h : (l.take k).all okB = false) : l.all okB = false := by
  rw [List.all_eq_false] at h ⊢
  obtain ⟨x, hx, hb⟩ := h
  exact ⟨x, List.mem_of_mem_take hx, hb⟩
theorem valid_int (n : Int) (s : ByteArray) (w : World) :
    Calls Tryz.prog 59 #[.agg #[.int .i64 1, .int .i64 n, .string s]] w fun e w' => e = .returned (.bool (validB 1 n s)) ∧ Below w.heap.size w w' := by
  go_enter Tryz.func59, Tryz.ntmps59
  go_wp2
  go_ret
  exact ⟨by simp [validB, Lib.toList_data], (Below.refl _ _).alloc (Nat.le_refl _) _⟩
theorem valid_other (t n : Int) (s : ByteArray) (w : World) (h1 : t ≠ 1) (h2 : t ≠ 2) :
    Calls Tryz.prog 59 #[.agg #[.int .i64 t, .int .i64 n, .string s]] w fun e w' => e = .returned (.bool (validB t n s)) ∧ Below w.heap.size w w' := by
  have HF := Lib.hid (show validB t n s = false by simp [validB, h1, h2])
  have g1 : (t == 1) = false := by simpa using h1
  have g2 : (t != 2) = true := by simpa using h2
  have g3 : (t == 2) = false := by simpa using h2
  clear h1 h2
  go_enter Tryz.func59, Tryz.ntmps59
  go_wp2
  go_ret
  exact ⟨by rw [HF.out]; rfl, (Below.refl _ _).alloc (Nat.le_refl _) _⟩
theorem valid_num (n : Int) (s : ByteArray) (w : World) (h : n ≠ 0) :
    Calls Tryz.prog 59 #[.agg #[.int .i64 2, .int .i64 n, .string s]] w fun e w' => e = .returned (.bool (validB 2 n s)) ∧ Below w.heap.size w w' := by
  have HF := Lib.hid (show validB 2 n s = false by simp [validB, h])
  have g1 : (n == 0) = false := by simpa using h
  have g2 : (n != 0) = true := by simpa using h
  clear h
  go_enter Tryz.func59, Tryz.ntmps59
  go_wp2
  go_ret
  exact ⟨by rw [HF.out]; rfl, (Below.refl _ _).alloc (Nat.le_refl _) _⟩
theorem valid_long (s : ByteArray) (w : World) (h : 64 < s.size) :
    Calls Tryz.prog 59 #[.agg #[.int .i64 2, .int .i64 0, .string s]] w fun e w' => e = .returned (.bool (validB 2 0 s)) ∧ Below w.heap.size w w' := by
  have HF := Lib.hid (show validB 2 0 s = false by simp [validB]; omega)
  go_enter Tryz.func59, Tryz.ntmps59
  go_wp2
  go_ret
  exact ⟨by rw [HF.out]; rfl, (Below.refl _ _).alloc (Nat.le_refl _) _⟩
theorem valid_str (s : ByteArray) (w : World) (h : s.size ≤ 64) :
    Calls Tryz.prog 59 #[.agg #[.int .i64 2, .int .i64 0, .string s]] w fun e w' => e = .returned (.bool (validB 2 0 s)) ∧ Below w.heap.size w w' := by
  have HF := Lib.hid (show validB 2 0 s = s.data.toList.all okB by simp [validB, h])
  go_enter Tryz.func59, Tryz.ntmps59
  go_wp2
  go_loop [3] (fun i => ∃ k : Nat, k ≤ s.size ∧ (s.data.toList.take k).all okB = true ∧ i = .int .i64 k) (fun i => s.size - (intOf i).toNat)
  case atStart => exact ⟨0, Nat.zero_le _, by simp, rfl⟩
  case round =>
    obtain ⟨k, hk, hall, rfl⟩ := hrel
    have HA := Lib.hid hall; clear hall
    by_cases hlt : k < s.size
    · have HS := Lib.hid (all_take_succ s k hlt)
      by_cases h1 : 32 ≤ s[k].toNat
      · by_cases h2 : s[k].toNat ≤ 126
        · have HO := Lib.hid (show okB s[k] = true by simp [okB, h1, h2])
          go_wp2
          go_round
          case rel => exact ⟨k + 1, by omega, by rw [HS.out, HA.out, HO.out]; rfl, by go_num⟩
          case measure => simp [intOf]; omega
        · have HO := Lib.hid (show s.data.toList.all okB = false from all_of_take (k + 1) (by rw [HS.out]; simp [okB, h2]))
          go_wp2
          go_ret
          exact ⟨by rw [HF.out, HO.out]; rfl, (Below.refl _ _).alloc (Nat.le_refl _) _⟩
      · have HO := Lib.hid (show s.data.toList.all okB = false from all_of_take (k + 1) (by rw [HS.out]; simp [okB, h1]))
        go_wp2
        go_ret
        exact ⟨by rw [HF.out, HO.out]; rfl, (Below.refl _ _).alloc (Nat.le_refl _) _⟩
    · have HO := Lib.hid (show s.data.toList.all okB = true by have := HA.out; rwa [List.take_of_length_le (by simp; omega)] at this)
      go_wp2
      go_ret
      exact ⟨by rw [HF.out, HO.out]; rfl, (Below.refl _ _).alloc (Nat.le_refl _) _⟩
theorem valid_any (t n : Int) (s : ByteArray) (w : World) :
    Calls Tryz.prog 59 #[.agg #[.int .i64 t, .int .i64 n, .string s]] w fun e w' => e = .returned (.bool (validB t n s)) ∧ Below w.heap.size w w' := by
  by_cases h1 : t = 1
  · subst h1; exact valid_int n s w
  by_cases h2 : t = 2
  · subst h2
    by_cases h3 : n = 0
    · subst h3
      rcases Nat.lt_or_ge 64 s.size with h4 | h4
      · exact valid_long s w h4
      · exact valid_str s w h4
    · exact valid_num n s w h3
  · exact valid_other t n s w h1 h2
end Go.Proofs.YtpinhcdcnaaihaaGreatDoor
namespace Go.Proofs.YtpinhcdcnaaihaaGreatDoor
open Go.RowKit
end Go.Proofs.YtpinhcdcnaaihaaGreatDoor
namespace Go.Proofs.YtpinhcdcnaaihaaGreatDoor
theorem app_mk (a b : List UInt8) : (⟨a.toArray⟩ ++ ⟨b.toArray⟩ : ByteArray) = ⟨(a ++ b).toArray⟩ := by apply ByteArray.ext; simp [ByteArray.data_append]
theorem mk_data (s : ByteArray) : (⟨s.data.toList.toArray⟩ : ByteArray) = s := by apply ByteArray.ext; simp
def rep (old new s : List UInt8) : List UInt8 := Lib.replaceK old new (Lib.count s old) s
theorem replaceAll_rep {old new : List UInt8} (s : List UInt8) (h : (old == new) = false) : Lib.replaceAll s old new = rep old new s := by
  simp [Lib.replaceAll, Lib.replace, h, rep, Lib.replaceNum]
theorem rep_nil {old new : List UInt8} (h : old ≠ []) : rep old new [] = [] := by
  have hi : Lib.index [] old = -1 := by cases old with | nil => exact absurd rfl h | cons a t => rfl
  rw [rep, Lib.count_miss hi]; rfl
theorem rep_hit {old new s : List UInt8} (h : old ≠ []) (hp : old.isPrefixOf s = true) : rep old new s = new ++ rep old new (s.drop old.length) := by
  have hi : Lib.index s old = (0 : Nat) := Lib.index_first (i := 0) (Nat.zero_le _) (by simpa [Lib.occAt] using hp) (fun _ h => absurd h (Nat.not_lt_zero _))
  have hc := Lib.count_hit h hi
  rw [rep, hc, Nat.add_comm, Lib.replaceK_hit old new _ s 0 hi]
  simp [rep]
theorem rep_miss {old new : List UInt8} {c : UInt8} {l : List UInt8} (h : old ≠ []) (hp : old.isPrefixOf (c :: l) = false) : rep old new (c :: l) = c :: rep old new l := by
  have hi : Lib.index (c :: l) old = if Lib.index l old == -1 then -1 else Lib.index l old + 1 := by rw [Lib.index, hp]; rfl
  rcases Lib.index_spec l old with ⟨h1, _⟩ | ⟨i, h1, _⟩
  · rw [h1] at hi
    have hi' : Lib.index (c :: l) old = -1 := hi
    rw [rep, rep, Lib.count_miss hi', Lib.count_miss h1]; rfl
  · have hi' : Lib.index (c :: l) old = ((i + 1 : Nat) : Int) := by
      rw [hi, h1, if_neg (by simp)]; omega
    have e : (c :: l).drop (i + 1 + old.length) = l.drop (i + old.length) := by
      rw [show i + 1 + old.length = (i + old.length) + 1 by omega]; rfl
    have c1 := Lib.count_hit h hi'
    have c2 := Lib.count_hit h h1
    rw [e] at c1
    rw [rep, rep, c1, c2, Nat.add_comm, Lib.replaceK_hit old new _ _ (i + 1) hi', Lib.replaceK_hit old new _ _ i h1, e]
    simp
def dbl : List UInt8 → List UInt8
  | [] => []
  | c :: l => if c = 39 then 39 :: 39 :: dbl l else c :: dbl l
theorem rep_dbl : ∀ s : List UInt8, rep [39] [39, 39] s = dbl s
  | [] => rep_nil (by simp)
  | c :: l => by
    by_cases hc : c = 39
    · subst hc
      rw [rep_hit (by simp) (by simp)]
      simp [dbl, rep_dbl l]
    · rw [rep_miss (old := [39]) (c := c) (l := l) (by simp) (by rw [List.isPrefixOf]; simp [Ne.symm hc])]
      simp [dbl, hc, rep_dbl l]
theorem dbl_length_le : ∀ s : List UInt8, (dbl s).length ≤ 2 * s.length
  | [] => by simp [dbl]
  | c :: l => by
    have := dbl_length_le l
    by_cases hc : c = 39 <;> simp [dbl, hc] <;> omega
theorem digit_toNat (d : Nat) (h : d < 10) : (UInt8.ofNat (48 + d)).toNat = 48 + d := by
  simp [UInt8.toNat_ofNat']; omega
theorem dec_head : ∀ (k u : Nat), u ≤ k → ∃ c r, Lib.decDigits u = c :: r ∧ 48 ≤ c.toNat ∧ c.toNat ≤ 57
  | k, u, hk => by
    by_cases h : u < 10
    · rw [Lib.decDigits, dif_pos h]
      exact ⟨_, _, rfl, by rw [digit_toNat u h]; omega, by rw [digit_toNat u h]; omega⟩
    · rw [Lib.decDigits, dif_neg h]
      match k, hk with
      | 0, hk => omega
      | k + 1, hk =>
        obtain ⟨c, r, e, h1, h2⟩ := dec_head k (u / 10) (by omega)
        exact ⟨c, r ++ [_], by rw [e]; rfl, h1, h2⟩
theorem itoa_head (n : Int) : ∃ c r, Lib.itoa n = c :: r ∧ c ≠ 39 := by
  by_cases h : n < 0
  · exact ⟨45, _, by rw [Lib.itoa, if_pos h], by decide⟩
  · obtain ⟨c, r, e, h2, _⟩ := dec_head n.toNat n.toNat (Nat.le_refl _)
    exact ⟨c, r, by rw [Lib.itoa, if_neg h, e], fun e => by subst e; simp at h2⟩
end Go.Proofs.YtpinhcdcnaaihaaGreatDoor
namespace Go.Proofs.YtpinhcdcnaaihaaGreatDoor
open Go.RowKit
end Go.Proofs.YtpinhcdcnaaihaaGreatDoor
namespace Go.Proofs.YtpinhcdcnaaihaaGreatDoor
open Go.RowKit
end Go.Proofs.YtpinhcdcnaaihaaGreatDoor
namespace Go.Proofs.YtpinhcdcnaaihaaGreatDoor
open Go.RowKit
def ancMask (acc : List Nat) : List Edge → Nat → Nat
  | [], m => m
  | e :: l, m => ancMask acc l (if Region.binds .any e then m ||| ((1 <<< e.on) ||| acc.getD e.on 0) else m)
def ancStep (acc : List Nat) (o : Oper) : List Nat := acc ++ [ancMask acc o.after.toList 0]
def ancs (l : List Oper) : List Nat := l.foldl ancStep []
def ancB (l : List Oper) (i j : Nat) : Bool := ((ancs l).getD i 0).testBit j
def extOf (B : Nat) (W W' : World) : Bool → Prop
  | true => Below B W W' ∧ W.heap.size ≤ W'.heap.size
  | false => Below W.heap.size W W'
def aliveB (l : List Oper) (cons : List (Option Nat)) (i j : Nat) : Bool :=
  match cons.getD j none with
  | none => true
  | some c => c == i || ancB l c i
inductive PureF : List (Value → World → Prop) → List Bool → Prop
  | nil : PureF [] []
  | eq {x : Value} {l : List (Value → World → Prop)} {p : List Bool} (h : PureF l p) : PureF ((fun v _ => v = x) :: l) (true :: p)
  | any {f : Value → World → Prop} {l : List (Value → World → Prop)} {p : List Bool} (h : PureF l p) : PureF (f :: l) (false :: p)
structure MonoC (F : List (Value → World → Prop)) (cons : List (Option Nat)) (B : Nat) (w : World) (init : List Value) (L : Array Bool) (us : List Value) (W : World) : Prop where
  len : us.length = init.length
  fact : ∀ j, L.getD j false = true → (∀ c, cons.getD j none = some c → L.getD c false = false) → factOf F j (us.getD j undef) W
  old : ∀ j, L.getD j false = false → us.getD j undef = init.getD j undef
  below : Below B w W
  size : B ≤ W.heap.size
structure GivenC (l : List Oper) (dsts : List (Option Nat)) (t : Array Value) (F : List (Value → World → Prop)) (cons : List (Option Nat)) (B : Nat) (w : World) (i : Nat) (T : Nat → Value) (W : World) : Prop where
  keep : ∀ s, dsts.contains (some s) = false → T s = t.getD s undef
  fact : ∀ j s, (j != i && ancB l i j && aliveB l cons i j && dsts[j]? == some (some s)) = true → factOf F j (T s) W
  old : ∀ j s, ((j == i || ancB l j i) && dsts[j]? == some (some s)) = true → T s = t.getD s undef
  below : Below B w W
  size : B ≤ W.heap.size
def GuardC (l : List Oper) (dsts : List (Option Nat)) (F : List (Value → World → Prop)) (cons : List (Option Nat)) (i : Nat) : Option (Nat × Bool) → Prop
  | none => True
  | some (j, b) => ∃ s, (j != i && ancB l i j && cons.getD j none == none && dsts[j]? == some (some s)) = true ∧ ∀ v W, factOf F j v W → v = .bool b
def StepC (P : Program) (l : List Oper) (dsts : List (Option Nat)) (t : Array Value) (F : List (Value → World → Prop)) (cons : List (Option Nat)) (ap : List Nat) (B : Nat) (w : World) (i : Nat) (o : Oper) : Prop :=
  GuardC l dsts F cons i o.guard ∧ ∀ (T : Nat → Value) (W : World), GivenC l dsts t F cons B w i T W → OpRuns P o T W fun v W' => factOf F i v W' ∧ extOf B W W' (ap.contains i)
inductive StepsC (P : Program) (l : List Oper) (dsts : List (Option Nat)) (t : Array Value) (F : List (Value → World → Prop)) (cons : List (Option Nat)) (ap : List Nat) (B : Nat) (w : World) : Nat → List Oper → Prop
  | nil {i : Nat} : StepsC P l dsts t F cons ap B w i []
  | cons' {i : Nat} {o : Oper} {r : List Oper} (h : StepC P l dsts t F cons ap B w i o) (hs : StepsC P l dsts t F cons ap B w (i + 1) r) : StepsC P l dsts t F cons ap B w i (o :: r)
section
variable {P : Program} {l : List Oper} {dsts : List (Option Nat)} {t : Array Value} {F : List (Value → World → Prop)} {cs : List (Option Nat)} {ap : List Nat} {B : Nat} {w : World}
end
end Go.Proofs.YtpinhcdcnaaihaaGreatDoor
namespace Go.Proofs.YtpinhcdcnaaihaaGreatDoor
open Go.RowKit
end Go.Proofs.YtpinhcdcnaaihaaGreatDoor
