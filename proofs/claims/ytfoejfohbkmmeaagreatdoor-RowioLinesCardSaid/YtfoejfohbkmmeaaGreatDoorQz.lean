/-
  Proved here: the law RowioLines of package credencelaw10 returns true for every list and every byte, and its arguments read afterwards as before. Conditions: those of the given card alone (the listed variables of Go's library hold what the program's text lays).
-/
import Derived.Test.YtfoejfohbkmmeaaGreatDoorQ02
import Derived.Test.YtfoejfohbkmmeaaGreatDoorQ42
import Derived.Test.YtfoejfohbkmmeaaGreatDoorQ00
namespace Go.Proofs.YtfoejfohbkmmeaaGreatDoor.lines
open Go.ChangeShapes Go.WideShapes Go.ChangeAt Go.RowKit Go.Joins Go.Proofs.YtfoejfohbkmmeaaGreatDoor
open Go.ChangeMaps (open_string)
theorem plain (f : FuncId) (fn : Func) (hf : Tryz.pinned.checked.prog.funcNamed "credence/credencelaw10.RowioLines" = some f) (hfn : Tryz.pinned.checked.prog.funcs[f]? = some fn) :
    true = Tryz.pinned.checked.prog.looks [] ∧ ∀ (j : Nat) t, fn.params[j]? = some t → Tryz.pinned.checked.prog.wantsStandIn t = false := by
  obtain rfl : f = 5 := Nt ((show Tryz.prog.funcNamed "credence/credencelaw10.RowioLines" = some 5 by kernel_rfl).symm.trans hf) |>.symm
  obtain rfl : fn = Tryz.f5 := (Nt (Tryz.func5.symm.trans hfn)).symm
  refine ⟨by kernel_rfl, fun j t ht => ?_⟩
  have hm : t ∈ Tryz.f5.params.toList := by simpa using Qb ht
  have hall : (Tryz.f5.params.toList.all fun u => !Tryz.prog.wantsStandIn u) = true := by kernel_rfl
  exact (show Tryz.prog.wantsStandIn t = false by simpa using Mh.1 hall t hm)
end Go.Proofs.YtfoejfohbkmmeaaGreatDoor.lines
