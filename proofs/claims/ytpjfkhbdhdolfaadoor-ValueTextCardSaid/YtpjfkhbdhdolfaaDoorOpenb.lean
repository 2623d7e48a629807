/-
  The rows' arguments opened: a slice of values, a slice of bytes.
-/
import Derived.Test.YtpjfkhbdhdolfaaDoorOpen
import Derived.Test.YtpjfkhbdhdolfaaDoorMem
import Derived.Deep.Slices
namespace Go.Proofs.YtpjfkhbdhdolfaaDoor
open Go.ChangeShapes Go.WideShapes Go.ChangeAt Go.RowKit Go.Joins Go.Deep

section
variable {H : Type} {enc : TypeId × Value → H} {W : World} {b0 base : Nat} {spare : Nat → Bool} {held : Bool}
instance : Inhabited V := ⟨⟨0, 0, ⟨#[]⟩⟩⟩
def V.Fits (v : V) : Prop := (-9223372036854775808 ≤ v.t ∧ v.t ≤ 9223372036854775807) ∧ (-9223372036854775808 ≤ v.n ∧ v.n ≤ 9223372036854775807) ∧ v.s.size ≤ 9223372036854775807
theorem len_le_of {n : Nat} (h : n ≤ maxLen) : n ≤ 9223372036854775807 := by unfold maxLen at h; omega
theorem byte_wf {x : Int} (h : (Lit.int .u8 x).wf = true) : 0 ≤ x ∧ x ≤ 255 := by simpa [Lit.wf, IntKind.min, IntKind.max, IntKind.signed, IntKind.bits] using h
theorem add_add (a : Addr) (i j : Nat) (h : a.spot = none) : (a.add i).add j = ⟨a.block, a.off + i + j, none⟩ := by
  obtain ⟨b, o, s⟩ := a
  simp only at h
  subst h
  unfold Addr.add
  split <;> split <;> simp_all
set_option maxRecDepth 100000 in
/-- One value out of its cells. -/
theorem val_of_trod {n : Nat} {cs : List Value} {x : DataW H × List MemPlace} (hl : cs.length = 3) (h : DataW.trod enc Tryd.prog W base spare held n 23 cs = some x) :
    ∃ v : V, cs = v.cells ∧ v.Fits := by
  match cs, hl with
  | [c0, c1, c2], _ =>
    obtain ⟨y0, y1, y2, m, hx, _, h0, h1, h2⟩ := trod_struct3 Tryd.underlying23 h
    obtain ⟨t, e0, _, w0⟩ := DataW.trod_int Tryd.underlying3 h0
    obtain ⟨n, e1, _, w1⟩ := DataW.trod_int Tryd.underlying2 h1
    obtain ⟨s, e2, _, w2⟩ := DataW.trod_string Tryd.underlying9 h2
    have k0 : Tryd.prog.cellsOf 3 = 1 := by kernel_rfl
    have k1 : Tryd.prog.cellsOf 2 = 1 := by kernel_rfl
    have k2 : Tryd.prog.cellsOf 9 = 1 := by kernel_rfl
    simp [k0] at e0
    simp [k1] at e1
    simp [k2] at e2
    subst e0 e1 e2
    refine ⟨⟨t, n, s⟩, rfl, ?_, ?_, len_le_of w2⟩
    · simpa [Lit.wf, IntKind.min, IntKind.max, IntKind.signed, IntKind.bits] using w0
    · simpa [Lit.wf, IntKind.min, IntKind.max, IntKind.signed, IntKind.bits] using w1
set_option maxRecDepth 100000 in
theorem open_vals {v : Value} {d : DataW H} {p : List MemPlace}
    (hv : Value.okWide Tryd.prog W .any b0 39 v) (h : DataW.Trod enc Tryd.prog W base spare held 39 v d p) :
    ∃ (A : Option Addr) (l : List V) (c : Nat), v = .slice A l.length c ∧ At W W.heap.size A (cellsV l) ∧ (∀ x ∈ l, x.Fits) ∧ l.length ≤ 9223372036854775807 := by
  obtain ⟨a0, len, cap, rfl⟩ := okWide_slice Tryd.underlying39 hv
  obtain ⟨fuel, hf⟩ := h
  rcases open_slice Tryd.underlying39 hf with ⟨hcs, _⟩ | ⟨a, len', cap', m, n, D, Pl, hcs, _, hl, hm, hmm, _, hx⟩
  · simp [Value.cells] at hcs
    obtain ⟨rfl, rfl, rfl⟩ := hcs
    exact ⟨none, [], 0, rfl, At.nil _ _ _, by simp, by simp⟩
  · simp [Value.cells] at hcs
    obtain ⟨rfl, rfl, rfl⟩ := hcs
    rw [cellsVal] at hx
    have hlm : len ≤ m := by rw [hmm]; split <;> omega
    obtain ⟨U, hU⟩ := choose_lt (α := V) (p := fun i v => W.cells? base (a.add (i * 3)) 3 = some v.cells ∧ v.Fits) (n := m) (fun i hi => by
      obtain ⟨cs', h1, h2⟩ := hx i hi
      obtain ⟨u, rfl, hu⟩ := val_of_trod (World.cells?_some h1).2.1 h2
      exact ⟨u, h1, hu⟩)
    have e : ((List.range len).map U).length = len := by simp
    refine ⟨some a, (List.range len).map U, cap, by rw [e], fun hp => ?_, fun x hx => ?_, by rw [e]; exact len_le_of (Nat.le_trans hl hm)⟩
    · rw [cellsV_length, e] at hp
      have h0 := (World.cells?_some (hU 0 (by omega)).1).2.2 0 (by omega)
      have hs : a.spot = none := by
        have := World.cell?_spot h0
        simpa [Addr.add] using this
      refine ⟨a.block, a.off, by cases a; simp_all, ?_, fun j u hu => ?_⟩
      · have := World.block_lt_of_cell? _ _ h0
        simpa [block_add] using this
      · have hj : j < 3 * len := by
          have := (List.getElem?_eq_some_iff.1 hu).1
          rwa [cellsV_length, e] at this
        have hq : j / 3 < len := by omega
        have hc := (World.cells?_some (hU (j / 3) (by omega)).1).2.2 (j % 3) (by omega)
        rw [add_add _ _ _ hs, show a.off + j / 3 * 3 + j % 3 = a.off + j by omega] at hc
        rw [hc]
        have hk := cellsV_at ((List.range len).map U) (j / 3) (U (j / 3)) (by simp [hq])
        have h3 : j % 3 = 0 ∨ j % 3 = 1 ∨ j % 3 = 2 := by omega
        rcases h3 with h3 | h3 | h3
        · rw [show j = 3 * (j / 3) by omega, hk.1] at hu
          rw [← hu]; simp [h3, V.cells]
        · rw [show j = 3 * (j / 3) + 1 by omega, hk.2.1] at hu
          rw [← hu]; simp [h3, V.cells]
        · rw [show j = 3 * (j / 3) + 2 by omega, hk.2.2] at hu
          rw [← hu]; simp [h3, V.cells]
    · simp only [List.mem_map, List.mem_range] at hx
      obtain ⟨i, hi, rfl⟩ := hx
      exact (hU i (by omega)).2
theorem cellsByte : Tryd.prog.cellsOf 5 = 1 := by kernel_rfl
set_option maxRecDepth 100000 in
theorem open_bytes {v : Value} {d : DataW H} {p : List MemPlace}
    (hv : Value.okWide Tryd.prog W .any b0 24 v) (h : DataW.Trod enc Tryd.prog W base spare held 24 v d p) :
    ∃ (A : Option Addr) (l : List UInt8) (c : Nat), v = .slice A l.length c ∧ At W W.heap.size A (cellsB l) ∧ l.length ≤ c ∧ c ≤ 9223372036854775807 := by
  obtain ⟨a0, len, cap, rfl⟩ := okWide_slice Tryd.underlying24 hv
  obtain ⟨fuel, hf⟩ := h
  rcases open_ints Tryd.underlying24 Tryd.underlying5 cellsByte hf with ⟨hcs, _⟩ | ⟨a, len', cap', zs, hcs, _, hl, hm, hz, _, hcell, hwz⟩
  · simp [Value.cells] at hcs
    obtain ⟨rfl, rfl, rfl⟩ := hcs
    exact ⟨none, [], 0, rfl, At.nil _ _ _, by simp, by simp⟩
  · simp [Value.cells] at hcs
    obtain ⟨rfl, rfl, rfl⟩ := hcs
    have hlz : len ≤ zs.length := by rw [hz]; split <;> omega
    have e : ((zs.take len).map fun n => UInt8.ofNat n.toNat).length = len := by simp; omega
    refine ⟨some a, (zs.take len).map fun n => UInt8.ofNat n.toNat, cap, by rw [e], fun hp => ?_, by rw [e]; exact hl, len_le_of hm⟩
    rw [cellsB_length, e] at hp
    have h0 := hcell 0 (by omega)
    have hs : a.spot = none := by
      have := World.cell?_spot h0
      simpa [Addr.add] using this
    refine ⟨a.block, a.off, by cases a; simp_all, ?_, fun j u hu => ?_⟩
    · have := World.block_lt_of_cell? _ _ h0
      simpa [block_add] using this
    · have hj : j < len := by
        have := (List.getElem?_eq_some_iff.1 hu).1
        rwa [cellsB_length, e] at this
      have hc := hcell j (by omega)
      have ha : a.add j = ⟨a.block, a.off + j, none⟩ := by
        obtain ⟨b, o, sp⟩ := a
        simp only at hs
        subst hs
        exact add_plain b o j
      rw [ha] at hc
      rw [hc, ← hu]
      have hjz : j < zs.length := by omega
      have hm := hwz zs[j] (List.getElem_mem hjz)
      have hr : 0 ≤ zs[j] ∧ zs[j] ≤ 255 := by simpa [Lit.wf, IntKind.min, IntKind.max, IntKind.signed, IntKind.bits] using hm
      simp only [cellsB, List.getElem?_map, List.getElem?_take, hj, if_true, List.getElem?_eq_getElem hjz, Option.map_some, List.getD, Option.getD_some]
      congr 2
      have : (UInt8.ofNat zs[j].toNat).toNat = zs[j].toNat := by simp [UInt8.toNat_ofNat']; omega
      rw [this]; omega
end
end Go.Proofs.YtpjfkhbdhdolfaaDoor
