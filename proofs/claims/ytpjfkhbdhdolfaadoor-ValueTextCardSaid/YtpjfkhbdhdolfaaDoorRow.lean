/-
  What the rows of this seat give before the call: the library's variables hold what the program's text lays (Env); and that what was read before a call that changes no old block reads the same behind it.
-/
import Derived.Test.YtpjfkhbdhdolfaaDoorCards
import Derived.Test.YtpjfkhbdhdolfaaDoorTie
import Derived.Test.YtpjfkhbdhdolfaaDoorLibc
import Derived.ProofKit
import Derived.OpenShut
import Derived.Deep.DeepHandedRow
import Derived.Lib.LaidTab
import Derived.Lib.SmallJoins
import Derived.Stop.LaidErr
import Derived.Lay
import Derived.SevenTiedAt
namespace Go.Proofs.YtpjfkhbdhdolfaaDoor
open Go.ChangeShapes Go.WideShapes Go.ChangeAt Go.RowKit

theorem own : ownKnob Tryd.prog.godebug = none := by kernel_rfl
theorem laidOut : laidOutB Tryd.prog = true := by kernel_rfl
/-- What every row of this seat lists. -/
abbrev laidL : List (String × DataW Unit) := Rows.valueOrderRow.laid
theorem gPow10Type : (Tryd.prog.globals[3]?).map (·.type) = some 126 := by kernel_rfl
theorem gErrSyntaxType : (Tryd.prog.globals[1]?).map (·.type) = some 62 := by kernel_rfl
theorem gErrRangeType : (Tryd.prog.globals[2]?).map (·.type) = some 62 := by kernel_rfl
theorem cellsPow10 : Tryd.prog.cellsOf 126 = 20 := by kernel_rfl
theorem cellsU64 : Tryd.prog.cellsOf 71 = 1 := by kernel_rfl
theorem errVar {n : String} {g : Nat} {nm : String} {d : DataW Unit} {r : List (String × DataW Unit)} {W : World} (h : laidMet Tryd.prog ((n, .iface nm d) :: r) W) (hg : Tryd.prog.globalNamed n = some g)
    (ht : (Tryd.prog.globals[g]?).map (·.type) = some 62) : ∃ tp p, W.var? Tryd.prog n = some #[.iface tp p] := by
  obtain ⟨ps, ⟨g', t', cs, fuel, p, q, hg', ht', hvar, hd, _, _⟩, _⟩ := h
  obtain rfl := Option.some.inj (hg.symm.trans hg')
  obtain rfl := Option.some.inj (ht.symm.trans ht')
  obtain ⟨_, u, v, e, _⟩ := iface_of_trod Tryd.underlying62 hd
  exact ⟨u, v, by rw [hvar]; congr 1; exact Array.toList_inj.1 e⟩
theorem env_of {W : World} (hL : laidMetH Tryd.prog laidL W) (hsh : W.ShapedOpen Tryd.prog) : Env W := by
  have hL : laidMet Tryd.prog laidL W := by rwa [MakeChecks.laidMetH_plain _ _ _ (by kernel_rfl)] at hL
  have h3 := hL.tail.tail
  have h5 := h3.tail.tail
  refine ⟨Tryd.laysM155.s1_3 W hsh, Lib.tabIs_of_head gPow10 gPow10Type Tryd.underlying126 Tryd.underlying71 cellsU64 cellsPow10 h3, errVar h5.tail gErrSyntax gErrSyntaxType, errVar h5 gErrRange gErrRangeType⟩
/-- The world of the witness. -/
theorem laid_met (os : Os) (args : Array Value) : laidMet Tryd.prog laidL ((World.laidAll Tryd.prog os laidL).forCall (fun _ _ => 0) ⟨#[], args, []⟩).memory :=
  laidMet_laidAll _ (by kernel_rfl) (by kernel_rfl)

section
variable {H : Type} {enc : TypeId × Value → H}
theorem trodAll_below {P : Program} (hl : laidOutB P = true) {W W' : World} (hb : Below W.heap.size W W') (ts : List TypeId) : ∀ (vs : List Value) (ds : List (DataW H)) (p : List MemPlace), (ts.all fun t => P.readableRec t && decide (t < P.types.size)) = true →
    DataW.TrodAll enc P W 0 (fun _ => true) true ts vs ds p → (∀ x ∈ p, x.block < W.heap.size) → DataW.TrodAll enc P W' 0 (fun b => decide (b < W.heap.size)) true ts vs ds p := by
  induction ts with
  | nil =>
    intro vs ds p _ h _
    obtain ⟨rfl, rfl, rfl⟩ := trodAll_nil h
    exact trodAll_mk0
  | cons t ts ih =>
    intro vs ds p ht h hlt
    obtain ⟨v, vs', d, ds', p1, p2, rfl, rfl, rfl, h0, hr⟩ := trodAll_cons h
    simp only [List.all_cons, Bool.and_eq_true, decide_eq_true_eq] at ht
    exact trodAll_cons_mk (Below.trod hl ht.1.1 ht.1.2 h0 hb fun x hx => hlt x (List.mem_append_left _ hx)) (ih _ _ _ (by simpa using ht.2) hr fun x hx => hlt x (List.mem_append_right _ hx))
/-- A law that returns true and changes no old block: what its row asks behind the call. -/
theorem law_post {f : Func} {s : ChangeSpec} {W W' : World} {args : Array Value} {ds gs : List (DataW H)} {before : List MemPlace}
    (hW : DataW.Whole enc Tryd.prog f.params.toList s.vars false W args.toList ds gs before) (hv : s.vars = []) (hres : f.resultTypes = #[4]) (hts : (f.params.toList.all fun t => Tryd.prog.readableRec t && decide (t < Tryd.prog.types.size)) = true)
    (h1 : (s.fn H (ds ++ gs)).results = [.lit (.bool true)]) (h2 : (s.fn H (ds ++ gs)).args = ds) (h3 : (s.fn H (ds ++ gs)).vars = []) (hb : Below W.heap.size W W') :
    s.post enc Tryd.prog f false true false false W args (.bool true) W' := by
  have hlt := fun x hx => hW.lt x hx
  have hW' := hW
  obtain ⟨p, q, hA, hV, rfl, _, _⟩ := hW
  rw [hv] at hV
  obtain ⟨rfl, rfl⟩ := trodVars_none hV
  refine ⟨ds, [], p ++ [], [], p, [], hW', ?_, ?_, ?_, hb.frame _, fun h => by cases h⟩
  · rw [h1, hres]
    exact trodAll_mk1 (shut_bool Tryd.underlying4 _)
  · rw [h2]
    exact trodAll_below laidOut hb _ _ _ _ hts hA fun x hx => hlt x (by simpa using hx)
  · rw [h3, hv]; rfl
/-- There is an input that fits, at a world that is written out and whose shape is known. -/
theorem witness_at {C : Checked} {os : Os} {f : FuncId} {fn : Func} {s : OpenSpec} {conds : List PathCond} {apart : Bool} {laid : List (String × DataW Unit)} (w0 : World) (args : Array Value) (hos : w0.os = os)
    (hsh : (w0.forCall (fun _ _ => 0) ⟨#[], args, []⟩).Shaped C.prog) (hok : Input.okWideB C.prog (w0.forCall (fun _ _ => 0) ⟨#[], args, []⟩) f ⟨#[], args, []⟩ = true)
    (hrow : s.preRow enc C.prog fn conds apart laid (w0.forCall (fun _ _ => 0) ⟨#[], args, []⟩).memory args) :
    ∃ (w : World) (tape : Tape) (i : Input), w.os = os ∧ (w.forCall tape i).Shaped C.prog ∧ i.vars = [] ∧ Input.okWide C.prog (w.forCall tape i) .any w.heap.size f i ∧
      s.preRow enc C.prog fn conds apart laid (w.forCall tape i).memory i.args ∧ ({} : Assume).holds C.prog (lone (Frame.enter C.prog f i.args .normal) [] (w.forCall tape i)) :=
  ⟨w0, fun _ _ => 0, ⟨#[], args, []⟩, hos, hsh, (Input.okWide_of_okWideB (base := 0) hok).1, (Input.okWide_of_okWideB hok).2, hrow, by
    simp only [Assume.holds]
    exact ⟨by simp, by simp, fun _ => Modest.zero, by simp, by simp⟩⟩
end
end Go.Proofs.YtpjfkhbdhdolfaaDoor
