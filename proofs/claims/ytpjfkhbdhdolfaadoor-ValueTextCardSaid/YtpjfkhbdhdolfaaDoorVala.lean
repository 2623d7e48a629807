import Derived.Test.YtpjfkhbdhdolfaaDoorCmp
import Derived.Test.YtpjfkhbdhdolfaaDoorShelf
import Derived.Deep.QuietTactic
import Derived.BigQuiet
import Derived.StillTailTactics
namespace Go.Proofs.YtpjfkhbdhdolfaaDoor
open Go.RowKit

def cmpV (ta na : Int) (sa : ByteArray) (tb nb : Int) (sb : ByteArray) : Int := or3 (cmpI ta tb) (cmpI na nb) (Lib.compareBytes sa.data.toList sb.data.toList)

set_option maxRecDepth 100000 in
set_option maxHeartbeats 400000 in
theorem compare_any (ta na : Int) (sa : ByteArray) (tb nb : Int) (sb : ByteArray) (w : World) :
    Calls Tryd.prog 16 #[.agg #[.int .i64 ta, .int .i64 na, .string sa], .agg #[.int .i64 tb, .int .i64 nb, .string sb]] w fun e w' => e = .returned (.int .i64 (cmpV ta na sa tb nb sb)) ∧ Below w.heap.size w w' := by
  obtain ⟨W, hW, hb, hz, c0, c1, c2, d0, d1, d2⟩ := box2 w 23 (.int .i64 ta) (.int .i64 na) (.string sa) (.int .i64 tb) (.int .i64 nb) (.string sb)
  have HW := Lib.hid hW; clear hW
  have HZ := Lib.hid hz; clear hz
  go_enter Tryd.func16, Tryd.ntmps16
  go_wp2
  rw [HW.out]
  refine wp_region_still_tail 15 (by kernel_rfl) (by kernel_rfl) ?_
  simp only [List.take_succ_cons, List.take_zero, List.drop_succ_cons, List.drop_zero]
  change wpStill _ _ W.drew _ _ _
  iterate 4 still_step
  still_call (sameL (cmpInt_any _ _ _))
  iterate 4 still_step
  still_call (sameL (cmpInt64_any _ _ _))
  iterate 4 still_step
  still_call (Tryd.strings_Compare _ _ _)
  refine wpStill_nil ?_
  go_wp2_with (go_at_call 39; refine (or_any _ _ (cmpI ta tb) (cmpI na nb) (Lib.compareBytes sa.data.toList sb.data.toList) _ (by simp [go_sem]) (by simp [go_sem]) (by simp [go_sem])).mono ?_; rintro e w' ⟨rfl, rfl⟩)
  go_ret
  exact ⟨rfl, (hb.alloc hb.size _).drew⟩
end Go.Proofs.YtpjfkhbdhdolfaaDoor
