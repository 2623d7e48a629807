/-
  What the laws' walks share: slices that read as bytes or as values; what EncodeKey gives; the sizes of valid values.
-/
import Derived.Test.YtpjfkhbdhdolfaaDoorRefe
import Derived.Test.YtpjfkhbdhdolfaaDoorFits
import Derived.Test.YtpjfkhbdhdolfaaDoorKnown
namespace Go.Proofs.YtpjfkhbdhdolfaaDoor
open Go.RowKit

theorem valid_is {t n : Int} {s : ByteArray} {b : Bool} (h : validB t n s = b) (w : World) :
    Calls Tryd.prog 17 #[.agg #[.int .i64 t, .int .i64 n, .string s]] w fun e w' => e = .returned (.bool b) ∧ Below w.heap.size w w' := by subst h; exact valid_any t n s w
theorem refValid_is {t n : Int} {s : ByteArray} {b : Bool} (h : validB t n s = b) (w : World) (hs : s.size ≤ 9223372036854775807) :
    Calls Tryd.prog 19 #[.agg #[.int .i64 t, .int .i64 n, .string s]] w fun e w' => e = .returned (.bool b) ∧ Below w.heap.size w w' := by subst h; exact refValid_any t n s w hs
/-- What EncodeKey gives: the encoding, or nothing. -/
def encS (l : List V) : List UInt8 := if l.all V.ok = true then encL l else []
theorem own_nil {w : World} {base : Nat} {e : TypeId} {size n c : Nat} {A : Option Addr} {xs : List Value} (h : w.ownsRow base e size (.slice A n c) n xs) : A = none → n = 0 ∧ c = 0 := by
  intro hA
  rcases h.2 with ⟨hv, hn⟩ | ⟨g, cap, cur, hv, _⟩
  · injection hv with _ _ hc; exact ⟨hn, hc⟩
  · injection hv with h1; rw [hA] at h1; cases h1
/-- A slice that reads as these bytes. -/
def IsB (W : World) (v : Value) (l : List UInt8) : Prop := ∃ A c, v = .slice A l.length c ∧ At W W.heap.size A (cellsB l) ∧ (A = none → l.length = 0 ∧ c = 0)
theorem IsB.below {W W' : World} {v : Value} {l : List UInt8} (h : IsB W v l) (hb : Below W.heap.size W W') : IsB W' v l := by
  obtain ⟨A, c, e, h, hn⟩ := h
  exact ⟨A, c, e, (h.below hb).more hb.size, hn⟩
theorem IsB.of_own {W : World} {base : Nat} {v : Value} {l : List UInt8} (h : OwnB W base v l) : IsB W v l := by
  obtain ⟨A, c, rfl⟩ := h.slice
  exact ⟨A, c, rfl, h.at_, own_nil h⟩
/-- A slice that reads as these values. -/
def IsV (W : World) (v : Value) (l : List V) : Prop := ∃ A c, v = .slice A l.length c ∧ At W W.heap.size A (cellsV l) ∧ (A = none → l.length = 0 ∧ c = 0)
theorem IsV.below {W W' : World} {v : Value} {l : List V} (h : IsV W v l) (hb : Below W.heap.size W W') : IsV W' v l := by
  obtain ⟨A, c, e, h, hn⟩ := h
  exact ⟨A, c, e, (h.below hb).more hb.size, hn⟩
theorem IsV.of_own {W : World} {base : Nat} {v : Value} {l : List V} (h : OwnV W base v l) : IsV W v l := by
  obtain ⟨A, c, rfl, hat⟩ := h.slice
  exact ⟨A, c, rfl, hat, own_nil h⟩
theorem isB_of_enc {l : List V} {w : World} {e : Ending} {w' : World} (h : EncPost l w e w') : ∃ v, e = .returned v ∧ IsB w' v (encS l) ∧ Below w.heap.size w w' := by
  obtain ⟨v, he, h1, h2, hb⟩ := h
  refine ⟨v, he, ?_, hb⟩
  unfold encS
  split
  · rename_i hok
    exact IsB.of_own (h1 hok)
  · rename_i hok
    rw [h2 (by simpa using hok)]
    exact ⟨none, 0, rfl, At.nil _ _ _, fun _ => ⟨rfl, rfl⟩⟩
theorem mk_size64 (v : V) : (mkV v).s.size ≤ 64 := by
  unfold mkV
  split
  · simp [ByteArray.size]
  · have h1 : (mkS v.s.data.toList).length ≤ 64 := by simp [mkS]; omega
    simp only [ByteArray.size, List.size_toArray]; omega
theorem mk_size (v : V) : (mkV v).s.size ≤ 9223372036854775807 := by have := mk_size64 v; omega
theorem mk_ranges {l : List V} (h : ∀ v ∈ l, -9223372036854775808 ≤ v.n ∧ v.n ≤ 9223372036854775807) : ∀ v ∈ l.map mkV, -9223372036854775808 ≤ v.n ∧ v.n ≤ 9223372036854775807 := by
  intro v hv
  simp only [List.mem_map] at hv
  obtain ⟨u, hu, rfl⟩ := hv
  exact mkV_n u (h u hu)
theorem mk_sizes (l : List V) : ∀ v ∈ l.map mkV, v.s.size ≤ 9223372036854775807 := by
  intro v hv
  simp only [List.mem_map] at hv
  obtain ⟨u, hu, rfl⟩ := hv
  exact mk_size u
theorem mk_oks (l : List V) : (l.map mkV).all V.ok = true := by
  rw [List.all_eq_true]
  intro v hv
  simp only [List.mem_map] at hv
  obtain ⟨u, hu, rfl⟩ := hv
  exact mkV_ok u
theorem encL_length {l : List V} (h : l.all V.ok = true) : (encL l).length ≤ 66 * l.length := by
  induction l with
  | nil => simp [encL]
  | cons v l ih =>
    simp only [List.all_cons, Bool.and_eq_true] at h
    have := ih h.2
    have hv : v.enc.length ≤ 66 := by
      unfold V.enc
      split
      · rename_i ht
        have hs : v.s.size ≤ 64 := by
          have := h.1
          simp only [V.ok, validB, ht] at this
          simp at this
          exact this.1.2
        simp; omega
      · simp [encI_length]
    simp only [encL, List.flatMap_cons, List.length_append, List.length_cons] at this ⊢
    omega
def LawPost (w : World) (e : Ending) (w' : World) : Prop := e = .returned (.bool true) ∧ Below w.heap.size w w'
end Go.Proofs.YtpjfkhbdhdolfaaDoor
