/-
  Slices in memory: a slice that reads as a list of cells (nil let in); values of three cells; lists of bytes.
-/
import Derived.Test.YtpjfkhbdhdolfaaDoorBaseb
import Derived.Maps.AppendAt
import Derived.Lib.AppendStr
import Derived.OwnWalk
namespace Go.Proofs.YtpjfkhbdhdolfaaDoor
open Go.RowKit

/-- From address A on, below block B, lie the cells xs. -/
def At (w : World) (B : Nat) (A : Option Addr) (xs : List Value) : Prop :=
  0 < xs.length → ∃ b off, A = some ⟨b, off, none⟩ ∧ b < B ∧ ∀ (j : Nat) u, xs[j]? = some u → w.cell? ⟨b, off + j, none⟩ = some u
theorem At.keep {w w' : World} {B : Nat} {A : Option Addr} {xs : List Value} (h : At w B A xs) (hk : ∀ p : Addr, p.block < B → w'.cell? p = w.cell? p) : At w' B A xs := fun hp => by
  obtain ⟨b, off, e, hb, hc⟩ := h hp
  exact ⟨b, off, e, hb, fun j u hu => (hk ⟨b, off + j, none⟩ hb).trans (hc j u hu)⟩
theorem At.below {w w' : World} {B : Nat} {A : Option Addr} {xs : List Value} (h : At w B A xs) (hb : Below B w w') : At w' B A xs := h.keep fun _ hp => hb.cell hp
theorem At.more {w : World} {B B' : Nat} {A : Option Addr} {xs : List Value} (h : At w B A xs) (hB : B ≤ B') : At w B' A xs := fun hp => by
  obtain ⟨b, off, e, hb, hc⟩ := h hp
  exact ⟨b, off, e, by omega, hc⟩
theorem At.nil (w : World) (B : Nat) (A : Option Addr) : At w B A [] := fun h => absurd h (by simp)
theorem At.of_own {w : World} {base : Nat} {e : TypeId} {size n c : Nat} {A : Option Addr} {xs : List Value} (h : w.ownsRow base e size (.slice A n c) n xs) : At w w.heap.size A xs := fun hp => by
  rcases h.2 with ⟨hv, hn⟩ | ⟨g, cap, cur, hv, _, hg, _⟩
  · have := h.1; rw [hn] at this; simp at this; subst this; simp at hp
  · injection hv with hA
    subst hA
    refine ⟨g, 0, rfl, (Array.getElem?_eq_some_iff.1 hg).1, fun j u hu => ?_⟩
    have := h.cells (g := g) rfl j u hu
    rwa [show (⟨g, 0, none⟩ : Addr).add j = ⟨g, 0 + j, none⟩ from by unfold Addr.add; split <;> simp_all] at this

/-- A value of the program, as plain data. -/
structure V where
  t : Int
  n : Int
  s : ByteArray
def V.cells (v : V) : List Value := [.int .i64 v.t, .int .i64 v.n, .string v.s]
def cellsV (l : List V) : List Value := l.flatMap V.cells
theorem cellsV_length : ∀ l : List V, (cellsV l).length = 3 * l.length
  | [] => rfl
  | v :: l => by
    have := cellsV_length l
    simp only [cellsV, List.flatMap_cons, List.length_append, List.length_cons, V.cells, List.length_nil] at this ⊢
    omega
theorem cellsV_at : ∀ (l : List V) (i : Nat) (v : V), l[i]? = some v → (cellsV l)[3 * i]? = some (.int .i64 v.t) ∧ (cellsV l)[3 * i + 1]? = some (.int .i64 v.n) ∧ (cellsV l)[3 * i + 2]? = some (.string v.s)
  | [], i, v, h => by simp at h
  | u :: l, 0, v, h => by simp at h; subst h; simp [cellsV, V.cells]
  | u :: l, i + 1, v, h => by
    have ih := cellsV_at l i v (by simpa using h)
    have e : ∀ j, (cellsV (u :: l))[j + 3]? = (cellsV l)[j]? := fun j => by simp [cellsV, V.cells]
    refine ⟨?_, ?_, ?_⟩
    · rw [show 3 * (i + 1) = 3 * i + 3 by omega, e]; exact ih.1
    · rw [show 3 * (i + 1) + 1 = 3 * i + 1 + 3 by omega, e]; exact ih.2.1
    · rw [show 3 * (i + 1) + 2 = 3 * i + 2 + 3 by omega, e]; exact ih.2.2
theorem cellsV_append (a b : List V) : cellsV (a ++ b) = cellsV a ++ cellsV b := by simp [cellsV]
theorem At.val {w : World} {B : Nat} {A : Option Addr} {l : List V} {i : Nat} (h : At w B A (cellsV l)) (hi : i < l.length) :
    ∃ b off, A = some ⟨b, off, none⟩ ∧ b < B ∧ w.cell? ⟨b, off + i * 3, none⟩ = some (.int .i64 l[i].t) ∧ w.cell? ⟨b, off + i * 3 + 1, none⟩ = some (.int .i64 l[i].n) ∧ w.cell? ⟨b, off + i * 3 + 2, none⟩ = some (.string l[i].s) := by
  obtain ⟨b, off, e, hb, hc⟩ := h (by rw [cellsV_length]; omega)
  obtain ⟨h0, h1, h2⟩ := cellsV_at l i l[i] (List.getElem?_eq_getElem hi)
  refine ⟨b, off, e, hb, ?_, ?_, ?_⟩
  · rw [Nat.mul_comm]; exact hc _ _ h0
  · rw [Nat.mul_comm]; exact hc _ _ h1
  · rw [Nat.mul_comm]; exact hc _ _ h2

/-- Bytes as cells. -/
def cellsB (l : List UInt8) : List Value := l.map fun c => .int .u8 c.toNat
theorem cellsB_length (l : List UInt8) : (cellsB l).length = l.length := by simp [cellsB]
theorem cellsB_append (a b : List UInt8) : cellsB (a ++ b) = cellsB a ++ cellsB b := by simp [cellsB]
end Go.Proofs.YtpjfkhbdhdolfaaDoor
