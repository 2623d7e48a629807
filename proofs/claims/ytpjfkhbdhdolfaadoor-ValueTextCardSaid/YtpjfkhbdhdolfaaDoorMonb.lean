/-
  The law for drawn regions, at the kind that most statements are of: every operation reads, computes, or makes new memory; nothing that was there is changed. The facts stand in a list.
-/
import Derived.Test.YtpjfkhbdhdolfaaDoorMono
import Derived.Test.YtpjfkhbdhdolfaaDoorBase
namespace Go.Proofs.YtpjfkhbdhdolfaaDoor
open Go.RowKit

/-- The fact of operation j. -/
def factOf (F : List (Value → World → Prop)) (j : Nat) : Value → World → Prop := F.getD j fun _ _ => True
/-- Facts that outlive every step. -/
inductive Stab (w : World) : List (Value → World → Prop) → Prop
  | nil : Stab w []
  | cons {f : Value → World → Prop} {l : List (Value → World → Prop)} (h : ∀ v W W', Below w.heap.size w W → f v W → Below W.heap.size W W' → f v W') (hs : Stab w l) : Stab w (f :: l)
theorem Stab.eq {w : World} {x : Value} {l : List (Value → World → Prop)} (hs : Stab w l) : Stab w ((fun v _ => v = x) :: l) := .cons (fun _ _ _ _ h _ => h) hs
theorem Stab.get {w : World} {l : List (Value → World → Prop)} (h : Stab w l) : ∀ j v W W', Below w.heap.size w W → factOf l j v W → Below W.heap.size W W' → factOf l j v W' := by
  induction h with
  | nil => intro j v W W' _ _ _; simp [factOf]
  | cons h hs ih =>
    intro j v W W' hw hf hb
    cases j with
    | zero => exact h v W W' hw hf hb
    | succ j => exact ih j v W W' hw hf hb
theorem Steps.nil {P : Program} {ops : Array Oper} {dsts : List (Option Nat)} {t : Array Value} {R : Nat → Value → World → Prop} {cons : Nat → Option Nat} {WI : World → Prop} {Ext : Nat → World → World → Prop} {i : Nat} : Steps P ops dsts t R cons WI Ext i [] := trivial
theorem Steps.cons {P : Program} {ops : Array Oper} {dsts : List (Option Nat)} {t : Array Value} {R : Nat → Value → World → Prop} {cons : Nat → Option Nat} {WI : World → Prop} {Ext : Nat → World → World → Prop} {i : Nat} {o : Oper} {l : List Oper}
    (hg : GuardOk ops dsts R cons i o.guard) (h : ∀ (T : Nat → Value) (W : World), Given ops dsts t R cons WI i T W → OpRuns P o T W fun v W' => R i v W' ∧ Ext i W W') (hs : Steps P ops dsts t R cons WI Ext (i + 1) l) : Steps P ops dsts t R cons WI Ext i (o :: l) := ⟨⟨hg, h⟩, hs⟩
theorem wp_region_below {P : Program} {id : Nat} {l : List Oper} {Q : Exit → Act → World → Prop} {a : Act} {w : World} (dsts : List (Option Nat)) (F : List (Value → World → Prop))
    (hm : P.follows .mixedOrders = true) (hac : acyclic l.toArray = true) (hd : l.map (·.dst) = dsts) (hap : apartL a.tmps.size dsts = true) (hst : Stab w F)
    (hstep : Steps P l.toArray dsts a.tmps (factOf F) (fun _ => none) (Below w.heap.size w) (fun _ W W' => Below W.heap.size W W') 0 l)
    (hend : ∀ (us : List Value) (W : World), us.length = dsts.length → (∀ j, j < l.length → factOf F j (us.getD j undef) W) → Below w.heap.size w W → Q .normal ⟨updO a.tmps (dsts.zip us), a.defers⟩ W) : (Code.region id l.toArray true).wp P Q a w :=
  wp_region_mono dsts (factOf F) (fun _ => none) (Below w.heap.size w) (fun _ W W' => Below W.heap.size W W') hm hac (by simpa using hd) hap
    (fun _ W W' h1 h2 => h1.trans (h2.mono h1.size)) (fun _ j v W W' _ hw hR hE => hst.get j v W W' hw hR hE) (Below.refl _ _).drew hstep
    (fun us W h1 h2 h3 => hend us W h1 (fun j hj => h2 j (by simpa using hj) rfl) h3)
theorem len_cons {n : Nat} {us : List Value} (h : us.length = n + 1) : ∃ y l, us = y :: l ∧ l.length = n := by
  cases us with
  | nil => simp at h
  | cons y l => exact ⟨y, l, rfl, by simpa using h⟩
theorem len_nil {us : List Value} (h : us.length = 0) : us = [] := List.eq_nil_of_length_eq_zero h
end Go.Proofs.YtpjfkhbdhdolfaaDoor
