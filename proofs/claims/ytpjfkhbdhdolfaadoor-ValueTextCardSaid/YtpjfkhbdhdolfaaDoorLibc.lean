/-
  The library's contracts that this seat's walks use, each with the world behind the call said as 'Below' alone.
-/
import Derived.Test.YtpjfkhbdhdolfaaDoorBase
import Derived.Test.YtpjfkhbdhdolfaaDoorShelf
import Derived.Lib.AtoiErrMem
namespace Go.Proofs.YtpjfkhbdhdolfaaDoor
open Go.RowKit

theorem below_grow (w : World) (k : Nat) (os : Array Obj) : Below w.heap.size w (Go.Sort.grow (w.drewN k) os) :=
  ⟨rfl, rfl, rfl, by simp [Go.Sort.grow], fun i hi => by simp [Go.Sort.grow, World.drewN, Array.getElem?_append_left hi]⟩
theorem formatInt_any (n : Int) (w : World) (h0 : -9223372036854775808 ≤ n) (h1 : n ≤ 9223372036854775807) (hE : Env w) :
    Calls Tryd.prog 38 #[.int .i64 n, .int .i64 10] w fun e w' => e = .returned (.string ⟨(Lib.itoa n).toArray⟩) ∧ Below w.heap.size w w' :=
  (Tryd.strconv_FormatInt_10 n h0 h1 w hE.pow10).mono fun e w' ⟨he, k, os, hw⟩ => ⟨he, by subst hw; exact below_grow w k os⟩
theorem parseInt_ok (s : ByteArray) (v : Int) (w : World) (hs : s.size ≤ 281474976710656) (h : Lib.parseIntB 64 s.data.toList = .ok v) :
    Calls Tryd.prog 37 #[.string s, .int .i64 10, .int .i64 64] w fun e w' => e = .returned (.tuple #[.int .i64 v, .nilIface]) ∧ Below w.heap.size w w' :=
  (Tryd.strconv_ParseInt_10_at64_ok s (by omega) v h w).mono fun e w' ⟨he, hw⟩ => ⟨he, by
    rcases hw with rfl | ⟨t, rfl⟩
    · exact Below.refl _ _
    · exact Lib.bytesWorld_below _ _ _⟩
/-- What ParseInt returns where the text is no int64: some number, and an error that is not nil. -/
def SomeErr (w : World) (e : Ending) (w' : World) : Prop := ∃ (v : Int) (N : Nat), e = .returned (.tuple #[.int .i64 v, .iface 103 (.pointer (some ⟨N, 0, none⟩))]) ∧ Below w.heap.size w w'
theorem parseInt_bad (s : ByteArray) (w : World) (hs : s.size ≤ 281474976710656) (h : ∀ v, Lib.parseIntB 64 s.data.toList ≠ .ok v) (hE : Env w) :
    Calls Tryd.prog 37 #[.string s, .int .i64 10, .int .i64 64] w (SomeErr w) := by
  obtain ⟨tp, p, h2⟩ := hE.errSyntax
  obtain ⟨tp', p', h3⟩ := hE.errRange
  cases hp : Lib.parseIntB 64 s.data.toList with
  | ok v => exact absurd hp (h v)
  | _ =>
    first
      | exact (Tryd.strconv_ParseInt_10_at64_range_var s hs hp tp' p' w h3).mono fun e w' ⟨N, he, _, _, hb⟩ => ⟨_, N, he, hb⟩
      | exact (Any.strconv_ParseInt_10_at64_syntax_var Tryd.laysC174 s hs hp tp p w h2).mono fun e w' ⟨N, he, _, _, hb⟩ => ⟨_, N, he, hb⟩
theorem hasPrefix_any (s p : ByteArray) (w : World) :
    Calls Tryd.prog 35 #[.string s, .string p] w fun e w' => e = .returned (.bool (Lib.hasPrefix s.data.toList p.data.toList)) ∧ w = w' :=
  (Tryd.strings_HasPrefix s p w).mono fun _ _ ⟨a, b⟩ => ⟨a, b.symm⟩
theorem replaceAll_any (s old new : ByteArray) (w : World) (hs : s.size ≤ 4294967280) (h1 : 1 ≤ old.size) (h2 : new.size ≤ 2) (hE : Env w) :
    Calls Tryd.prog 36 #[.string s, .string old, .string new] w fun e w' => e = .returned (.string ⟨(Lib.replaceAll s.data.toList old.data.toList new.data.toList).toArray⟩) ∧ Below w.heap.size w w' := by
  obtain ⟨m, hm⟩ := hE.maxLen
  have hc := Lib.countB_le old h1 s.size s (Nat.le_refl _)
  exact Tryd.strings_ReplaceAll s old new m w (by omega) hm h1 (by
    have : Lib.countB s old * new.size ≤ s.size * 2 := Nat.mul_le_mul hc h2
    omega)
end Go.Proofs.YtpjfkhbdhdolfaaDoor
