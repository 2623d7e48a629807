import Derived.Test.YtpinhcdcnaaihaaGreatDoorA42
namespace Go.Proofs.YtpinhcdcnaaihaaGreatDoor
theorem knownR0 (m : Int) : knownE0.run 0 (callP []) m = some (some (gRow 0 m), some [0]) := by kernel_rfl
theorem knownR4 (m : Int) : knownE4.run 0 (callP []) m = some (some (gRow 0 m), some [0]) := by kernel_rfl
theorem knownR10 (m : Int) : knownE10.run 0 (callP []) m = some (some (gRow 0 m), some [0]) := by kernel_rfl
end Go.Proofs.YtpinhcdcnaaihaaGreatDoor
namespace Go.Proofs.YtpinhcdcnaaihaaGreatDoor
theorem knownR1 (m : Int) : knownE1.run 0 (callP []) m = some (some (gRow 0 m), some [0]) := by kernel_rfl
end Go.Proofs.YtpinhcdcnaaihaaGreatDoor
namespace Go.Proofs.YtpinhcdcnaaihaaGreatDoor
theorem knownR2 (m : Int) : knownE2.run 0 (callP []) m = some (some (gRow 0 m), some [0]) := by kernel_rfl
end Go.Proofs.YtpinhcdcnaaihaaGreatDoor
namespace Go.Proofs.YtpinhcdcnaaihaaGreatDoor
theorem knownR3 (m : Int) : knownE3.run 0 (callP []) m = some (some (gRow 0 m), some [0]) := by kernel_rfl
end Go.Proofs.YtpinhcdcnaaihaaGreatDoor
namespace Go.Proofs.YtpinhcdcnaaihaaGreatDoor
theorem knownR5 (m : Int) : knownE5.run 0 (callP []) m = some (some (gRow 0 m), some [0]) := by kernel_rfl
theorem knownR6 (m : Int) : knownE6.run 0 (callP []) m = some (some (gRow 0 m), some [0]) := by kernel_rfl
end Go.Proofs.YtpinhcdcnaaihaaGreatDoor
namespace Go.Proofs.YtpinhcdcnaaihaaGreatDoor
theorem knownR7 (m : Int) : knownE7.run 0 (callP []) m = some (some (gRow 0 m), some [0]) := by kernel_rfl
end Go.Proofs.YtpinhcdcnaaihaaGreatDoor
namespace Go.Proofs.YtpinhcdcnaaihaaGreatDoor
theorem knownR8 (m : Int) : knownE8.run 0 (callP []) m = some (some (gRow 0 m), some [0]) := by kernel_rfl
end Go.Proofs.YtpinhcdcnaaihaaGreatDoor
namespace Go.Proofs.YtpinhcdcnaaihaaGreatDoor
theorem knownR9 (m : Int) : knownE9.run 0 (callP []) m = some (some (gRow 0 m), some [0]) := by kernel_rfl
end Go.Proofs.YtpinhcdcnaaihaaGreatDoor
namespace Go.Proofs.YtpinhcdcnaaihaaGreatDoor
theorem knownR11 (m : Int) : knownE11.run 0 (callP []) m = some (some (gRow 0 m), some [0]) := by kernel_rfl
end Go.Proofs.YtpinhcdcnaaihaaGreatDoor
namespace Go.Proofs.YtpinhcdcnaaihaaGreatDoor
open Go.RowKit
noncomputable def knownT : List Ent := [knownE11, knownE10, knownE9, knownE8, knownE7, knownE6, knownE5, knownE4, knownE3, knownE2, knownE1, knownE0]
theorem knownOk (base : Nat) : ∀ e ∈ knownT, e.Ok PP base 0 := by
  intro e he
  simp only [knownT, List.mem_cons, List.not_mem_nil, or_false] at he
  rcases he with rfl | rfl | rfl | rfl | rfl | rfl | rfl | rfl | rfl | rfl | rfl | rfl
  · exact Ent.ok (callP_ok fun _ h => by cases h) knownR11
  · exact Ent.ok (callP_ok fun _ h => by cases h) knownR10
  · exact Ent.ok (callP_ok fun _ h => by cases h) knownR9
  · exact Ent.ok (callP_ok fun _ h => by cases h) knownR8
  · exact Ent.ok (callP_ok fun _ h => by cases h) knownR7
  · exact Ent.ok (callP_ok fun _ h => by cases h) knownR6
  · exact Ent.ok (callP_ok fun _ h => by cases h) knownR5
  · exact Ent.ok (callP_ok fun _ h => by cases h) knownR4
  · exact Ent.ok (callP_ok fun _ h => by cases h) knownR3
  · exact Ent.ok (callP_ok fun _ h => by cases h) knownR2
  · exact Ent.ok (callP_ok fun _ h => by cases h) knownR1
  · exact Ent.ok (callP_ok fun _ h => by cases h) knownR0
noncomputable def knownK : Ent := ⟨11, [], lit0 10, .bool true, ⟨[], [], 1952, 10⟩⟩
theorem knownKR (m : Int) : knownK.run 0 (callP knownT) m = some (some (gRow 0 m), some [0]) := by kernel_rfl
theorem gsz : PP.globals.size = 8 := by kernel_rfl
theorem known_ev {w : World} (hE : Env w) : Calls PP 11 #[] w fun x w' => x = .returned (.bool true) ∧ Below w.heap.size w w' := by
  obtain ⟨m, hm⟩ := hE.maxLen
  exact Ent.start (e := knownK) (nx := 10) (Ent.ok (callP_ok (knownOk _)) knownKR) rfl rfl rfl gMaxLt (by rw [gsz]; decide) (by decide) hm
end Go.Proofs.YtpinhcdcnaaihaaGreatDoor
