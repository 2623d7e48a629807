import Derived.Test.YtpinhcdcnaaihaaGreatDoorA44
namespace Go.Proofs.YtpinhcdcnaaihaaGreatDoor
open Go.RowKit
theorem pt_cellsZ {W : World} {G : Nat → Prop} : ∀ l : List Int, PT W G (cellsZ l) (flat (l.map intZ))
  | [] => .nil
  | _ :: l => .sc _ (pt_cellsZ l)
theorem pt_intsZ {W : World} {A : Option Addr} {l : List Int} {c : Nat} (hat : At W W.heap.size A (cellsZ l)) (hl : l.length ≤ c) (hc : c ≤ 9223372036854775807) (hn : A = none → c = 0) : PT W (fun _ => False) [.slice A l.length c] [.sl (l.map intZ)] := by
  cases hz : l with
  | nil => exact .sl0 _ _ hn hc .nil
  | cons x m =>
    rw [← hz]
    obtain ⟨b, o, rfl, hb, hcell⟩ := hat (by rw [hz]; simp [cellsZ])
    exact .sl b o c _ (cellsZ l) _ hb (fun h => h) hcell (by simp) (by simpa using hl) hc (pt_cellsZ l) .nil
theorem answers_any {W : World} {A : Option Addr} {l : List Int} {c : Nat} {s : ByteArray} (hat : At W W.heap.size A (cellsZ l)) (hl : l.length ≤ c) (hc : c ≤ 9223372036854775807) (hn : A = none → c = 0) (hr : ∀ e ∈ l, -9223372036854775808 ≤ e ∧ e ≤ 9223372036854775807) (hs : s.size ≤ maxLen) (hE : Env W) :
    Calls Tryz.prog 3 #[.slice A l.length c, .string s] W (LawPost W) := by
  have h := (answers_ct l s (by omega) (by unfold maxLen at hs; omega) hr).2 (fun _ => False) W [.slice A l.length c, .string s] hE (fun g hg => hg.elim) ((pt_intsZ hat hl hc hn).cons (.sc _ .nil))
  refine h.mono ?_
  rintro en w' ⟨v, rfl, hv, hb⟩
  cases hv with
  | sc _ _ => exact ⟨rfl, hb⟩
end Go.Proofs.YtpinhcdcnaaihaaGreatDoor
