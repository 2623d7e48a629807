/-
  credenceref1.NatGCD, walked: the greatest common divisor.
-/
import Derived.Test.YtpjfkhbdhdolfaaDoorNate
namespace Go.Proofs.YtpjfkhbdhdolfaaDoor
open Go.RowKit

/-- The number that a slice of digits reads as. -/
def numAt (v : Value) (w : World) : Nat :=
  match v with
  | .slice (some a) n _ => nval ((List.range n).map fun i => match w.cell? ⟨a.block, a.off + i, none⟩ with
    | some (.int _ d) => d.toNat
    | _ => 0)
  | _ => 0
theorem OwnN.num {w : World} {base : Nat} {v : Value} {l : List Nat} (h : OwnN w base v l) : numAt v w = nval l := by
  rcases h.2 with ⟨rfl, hn⟩ | ⟨g, cap, cur, rfl, hr⟩
  · have : l = [] := List.eq_nil_of_length_eq_zero hn
    subst this; rfl
  · show nval ((List.range l.length).map fun i => match w.cell? ⟨g, 0 + i, none⟩ with
      | some (.int _ d) => d.toNat
      | _ => 0) = nval l
    congr 1
    apply List.ext_getElem
    · simp
    · intro j h1 h2
      have hc := h.cell h2
      simp [hc]
theorem gcd_half_left {a b : Nat} (ha : a % 2 = 0) (hb : b % 2 = 1) : Nat.gcd (a / 2) b = Nat.gcd a b := by
  have h2 : Nat.Coprime 2 b := by
    unfold Nat.Coprime
    rw [Nat.gcd_rec, hb]; decide
  have := h2.gcd_mul_left_cancel (a / 2)
  rw [show 2 * (a / 2) = a by omega] at this
  exact this.symm
theorem gcd_half_right {a b : Nat} (ha : a % 2 = 1) (hb : b % 2 = 0) : Nat.gcd a (b / 2) = Nat.gcd a b := by
  rw [Nat.gcd_comm, gcd_half_left hb ha, Nat.gcd_comm]
theorem odd_digit {n : Nat} (h : n ≠ 0) : ∃ h' : 0 < (digs n).length, (digs n)[0] % 2 = n % 2 := by
  have e := digs_step h
  refine ⟨by rw [e]; simp, ?_⟩
  have : (digs n)[0]'(by rw [e]; simp) = n % 4294967296 := by
    rw [List.getElem_of_eq e]; rfl
  rw [this]; omega
/-- A slot that holds a number of the call's own. -/
def NumIn (w wr : World) (v : Value) (n : Nat) : Prop := OwnN wr w.heap.size v (digs n)
theorem NumIn.below {w wr w' : World} {v : Value} {n : Nat} (h : NumIn w wr v n) (hb : Below wr.heap.size wr w') : NumIn w w' v n := OwnN.below h hb
theorem NumIn.is {w wr : World} {v : Value} {n : Nat} (h : NumIn w wr v n) : ∃ A c, v = .slice A (digs n).length c ∧ IsN wr A c (digs n) := OwnN.is h (digs_lt n)
theorem NumIn.num {w wr : World} {v : Value} {n : Nat} (h : NumIn w wr v n) : numAt v wr = n := (OwnN.num h).trans (nval_digs n)
/-- The lowest digit of a number that is not 0: where it lies, and that it is odd as the number is. -/
theorem NumIn.low {wr : World} {A : Option Addr} {c n : Nat} (h : IsN wr A c (digs n)) (hn : n ≠ 0) : ∃ b off d, A = some ⟨b, off, none⟩ ∧ wr.cell? ⟨b, off, none⟩ = some (.int .u32 (d : Nat)) ∧ d % 2 = n % 2 ∧ d < 4294967296 ∧ 0 < (digs n).length := by
  obtain ⟨h0, hd⟩ := odd_digit hn
  obtain ⟨b, off, e, _, hc⟩ := h.digit h0
  exact ⟨b, off, (digs n)[0], e, hc 0 h0, hd, h.ok _ (List.getElem_mem h0), h0⟩
/-- A contract on rows of digits, said of numbers. -/
theorem halfN {wr : World} {A : Option Addr} {c n : Nat} (h : IsN wr A c (digs n)) (hl : (digs n).length ≤ 1073741822) : Calls Tryd.prog 97 #[.slice A (digs n).length c] wr (NatPost (n / 2) wr) := by
  have := half_any A c (digs n) wr h hl
  rwa [nval_digs] at this
theorem doubleN {wr : World} {A : Option Addr} {c n bit : Nat} (h : IsN wr A c (digs n)) (hl : (digs n).length ≤ 1073741822) (hb : bit ≤ 1) : Calls Tryd.prog 99 #[.slice A (digs n).length c, .int .u32 bit] wr (NatPost (2 * n + bit) wr) := by
  have := double_any A c (digs n) bit wr h hl hb
  rwa [nval_digs] at this
theorem cmpN {wr : World} {A B : Option Addr} {c d m n : Nat} (h : IsN wr A c (digs m)) (h' : IsN wr B d (digs n)) (hl : (digs m).length ≤ 1073741822) (hl' : (digs n).length ≤ 1073741822) : Calls Tryd.prog 48 #[.slice A (digs m).length c, .slice B (digs n).length d] wr (CmpPost m n wr) := by
  have := cmp_any A B c d (digs m) (digs n) wr h h' (by omega) (by omega)
  rwa [nval_digs, nval_digs] at this
theorem subN {wr : World} {A B : Option Addr} {c d m n : Nat} (h : IsN wr A c (digs m)) (h' : IsN wr B d (digs n)) (hl : (digs m).length ≤ 1073741822) (hl' : (digs n).length ≤ 1073741822) (hle : n ≤ m) : Calls Tryd.prog 98 #[.slice A (digs m).length c, .slice B (digs n).length d] wr (SubPost (m - n) wr) := by
  have := sub_any A B c d (digs m) (digs n) wr h h' (by omega) (by omega) (by rw [nval_digs, nval_digs]; exact hle)
  rwa [nval_digs, nval_digs] at this
theorem NatPost.num {n : Nat} {w wr : World} {e : Ending} {w' : World} (h : NatPost n wr e w') (hs : w.heap.size ≤ wr.heap.size) : ∃ v, e = .returned v ∧ NumIn w w' v n ∧ Below wr.heap.size wr w' := by
  obtain ⟨v, he, ho, hb⟩ := h
  exact ⟨v, he, OwnN.base_le ho hs, hb⟩
/-- A bound on the length of every number below a bound. -/
theorem len_of {n M k : Nat} (h : n ≤ M) (hM : M < 4294967296 ^ k) : (digs n).length ≤ k := digs_length_le (Nat.lt_of_le_of_lt h hM)
def G1Inv (w : World) (X Y : Nat) (x y sh : Value) (wr : World) : Prop := ∃ a b s : Nat, sh = .int .i64 s ∧ NumIn w wr x a ∧ NumIn w wr y b ∧ 0 < a ∧ 0 < b ∧ a * 2 ^ s = X ∧ b * 2 ^ s = Y ∧ Below w.heap.size w wr
def G2Inv (w : World) (G s k : Nat) (x y : Value) (wr : World) : Prop := ∃ a b : Nat, NumIn w wr x a ∧ NumIn w wr y b ∧ 0 < a ∧ (a % 2 = 1 ∨ b % 2 = 1) ∧ Nat.gcd a b * 2 ^ s = G ∧ a < 4294967296 ^ k ∧ b < 4294967296 ^ k ∧ Below w.heap.size w wr
def G3Inv (w : World) (g a0 b : Nat) (x y : Value) (wr : World) : Prop := ∃ a : Nat, NumIn w wr x a ∧ NumIn w wr y b ∧ 0 < a ∧ a ≤ a0 ∧ (a % 2 = 1 ∨ b % 2 = 1) ∧ Nat.gcd a b = g ∧ Below w.heap.size w wr
def G4Inv (w : World) (g b0 a : Nat) (x y : Value) (wr : World) : Prop := ∃ b : Nat, NumIn w wr x a ∧ NumIn w wr y b ∧ 0 < b ∧ b ≤ b0 ∧ Nat.gcd a b = g ∧ Below w.heap.size w wr
def G5Inv (w : World) (a s : Nat) (x i : Value) (wr : World) : Prop := ∃ t : Nat, t ≤ s ∧ i = .int .i64 t ∧ NumIn w wr x (a * 2 ^ t) ∧ Below w.heap.size w wr
end Go.Proofs.YtpjfkhbdhdolfaaDoor
