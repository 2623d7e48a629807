/-
  value.CompareTuples: slices.CompareFunc at Compare.
-/
import Derived.Test.YtpjfkhbdhdolfaaDoorOrd
import Derived.Test.YtpjfkhbdhdolfaaDoorMem
namespace Go.Proofs.YtpjfkhbdhdolfaaDoor
open Go.RowKit

def cmpVV (a b : V) : Int := cmpV a.t a.n a.s b.t b.n b.s
def cmpL : List V → List V → Int
  | [], [] => 0
  | [], _ :: _ => -1
  | _ :: _, [] => 1
  | a :: l, b :: m => if cmpVV a b = 0 then cmpL l m else cmpVV a b
theorem cmpL_step (l m : List V) (k : Nat) (hl : k < l.length) (hm : k < m.length) : cmpL (l.drop k) (m.drop k) = if cmpVV l[k] m[k] = 0 then cmpL (l.drop (k + 1)) (m.drop (k + 1)) else cmpVV l[k] m[k] := by
  rw [List.drop_eq_getElem_cons hl, List.drop_eq_getElem_cons hm, cmpL]

set_option maxRecDepth 100000 in
set_option maxHeartbeats 1000000 in
theorem compareFunc_any (A B : Option Addr) (c d : Nat) (l m : List V) (w : World) (h : At w w.heap.size A (cellsV l)) (h' : At w w.heap.size B (cellsV m)) (hl : l.length ≤ 65536) (_hm : m.length ≤ 65536) :
    Calls Tryd.prog 43 #[.slice A l.length c, .slice B m.length d, .func (.func 16) #[] #[]] w fun e w' => e = .returned (.int .i64 (cmpL l m)) ∧ Below w.heap.size w w' := by
  have HA := Lib.hid h
  have HB := Lib.hid h'
  clear h h'
  go_enter Tryd.func43, Tryd.ntmps43
  go_wp2
  go_loopw [13] (fun i wr => ∃ k : Nat, k ≤ l.length ∧ k ≤ m.length ∧ i = .int .i64 k ∧ cmpL l m = cmpL (l.drop k) (m.drop k) ∧ Below w.heap.size w wr) (fun i _ => l.length - (intOf i).toNat)
  case atStart => exact ⟨0, Nat.zero_le _, Nat.zero_le _, rfl, rfl, Below.refl _ _⟩
  case round =>
    obtain ⟨k, hk, hkm, rfl, heq, hbw⟩ := hrel
    have HQ := Lib.hid heq
    have HBw := Lib.hid hbw
    have HA1 := Lib.hid (HA.out.below hbw)
    have HB1 := Lib.hid (HB.out.below hbw)
    clear heq hbw
    by_cases hlt : k < l.length
    · obtain ⟨b1, o1, rfl, hb1, c0, c1, c2⟩ := HA1.out.val hlt
      by_cases hlm : k < m.length
      · obtain ⟨b2, o2, rfl, hb2, d0, d1, d2⟩ := HB1.out.val hlm
        have hsz := HBw.out.size
        have d0' : ∀ o : Obj, (wr.alloc o).cell? ⟨b2, o2 + k * 3, none⟩ = some (.int .i64 m[k].t) := fun o => (World.cell?_alloc_lt wr o _ (by simp; omega)).trans d0
        have d1' : ∀ o : Obj, (wr.alloc o).cell? ⟨b2, o2 + k * 3 + 1, none⟩ = some (.int .i64 m[k].n) := fun o => (World.cell?_alloc_lt wr o _ (by simp; omega)).trans d1
        have d2' : ∀ o : Obj, (wr.alloc o).cell? ⟨b2, o2 + k * 3 + 2, none⟩ = some (.string m[k].s) := fun o => (World.cell?_alloc_lt wr o _ (by simp; omega)).trans d2
        have HS := Lib.hid (cmpL_step l m k hlt hlm)
        obtain ⟨x, hx⟩ : ∃ x, cmpVV l[k] m[k] = x := ⟨_, rfl⟩
        have HS : Hid (cmpL (l.drop k) (m.drop k) = if x = 0 then cmpL (l.drop (k + 1)) (m.drop (k + 1)) else x) := by rw [← hx]; exact HS
        have HC : Hid (∀ W : World, Calls Tryd.prog 16 #[.agg #[.int .i64 l[k].t, .int .i64 l[k].n, .string l[k].s], .agg #[.int .i64 m[k].t, .int .i64 m[k].n, .string m[k].s]] W fun e w' => e = .returned (.int .i64 x) ∧ Below W.heap.size W w') := fun W => by
          have := compare_any l[k].t l[k].n l[k].s m[k].t m[k].n m[k].s W
          rwa [show cmpV l[k].t l[k].n l[k].s m[k].t m[k].n m[k].s = x from hx] at this
        clear hx
        by_cases hx0 : x = 0
        · subst hx0
          go_wp2_with fail
          clear d0 d1 d2 d0' d1' d2' c0 c1 c2
          refine (HC.out _).mono ?_
          rintro e w1 ⟨rfl, hb3⟩
          have HB3 := Lib.hid hb3
          clear hb3
          go_wp2
          go_roundw
          case rel =>
            refine ⟨k + 1, by omega, by omega, by go_num, by rw [HQ.out, HS.out]; simp, ?_⟩
            exact (((HBw.out.alloc hsz _).alloc (by simp; omega) _).trans (HB3.out.mono (by simp; omega)))
          case measure => simp [intOf]; omega
        · have hx1 : (x != 0) = true := by simpa using hx0
          have hx2 : (x == 0) = false := by simpa using hx0
          go_wp2_with fail
          clear d0 d1 d2 d0' d1' d2' c0 c1 c2
          refine (HC.out _).mono ?_
          rintro e w1 ⟨rfl, hb3⟩
          have HB3 := Lib.hid hb3
          clear hb3
          go_wp2
          go_ret
          exact ⟨by rw [HQ.out, HS.out, if_neg hx0]; rfl, (((HBw.out.alloc hsz _).alloc (by simp; omega) _).trans (HB3.out.mono (by simp; omega)))⟩
      · have HS := Lib.hid (show cmpL (l.drop k) (m.drop k) = 1 by
          rw [List.drop_eq_getElem_cons hlt, List.drop_of_length_le (l := m) (by omega)]; rfl)
        have hsz := HBw.out.size
        go_wp2
        go_ret
        exact ⟨by rw [HQ.out, HS.out]; rfl, HBw.out.alloc hsz _⟩
    · by_cases hlm : k < m.length
      · have HS := Lib.hid (show cmpL (l.drop k) (m.drop k) = -1 by
          rw [List.drop_eq_getElem_cons hlm, List.drop_of_length_le (l := l) (by omega)]; rfl)
        go_wp2
        go_ret
        exact ⟨by rw [HQ.out, HS.out]; rfl, HBw.out⟩
      · have HS := Lib.hid (show cmpL (l.drop k) (m.drop k) = 0 by
          rw [List.drop_of_length_le (l := l) (by omega), List.drop_of_length_le (l := m) (by omega)]; rfl)
        go_wp2
        go_ret
        exact ⟨by rw [HQ.out, HS.out]; rfl, HBw.out⟩
theorem tuples_any (A B : Option Addr) (c d : Nat) (l m : List V) (w : World) (h : At w w.heap.size A (cellsV l)) (h' : At w w.heap.size B (cellsV m)) (hl : l.length ≤ 65536) (hm : m.length ≤ 65536) :
    Calls Tryd.prog 26 #[.slice A l.length c, .slice B m.length d] w fun e w' => e = .returned (.int .i64 (cmpL l m)) ∧ Below w.heap.size w w' := by
  have HC := Lib.hid (compareFunc_any A B c d l m w h h' hl hm)
  clear h h'
  go_enter Tryd.func26, Tryd.ntmps26
  go_wp2_with fail
  refine HC.out.mono ?_
  rintro e w' ⟨rfl, hb⟩
  go_wp2
  go_ret
  exact ⟨rfl, hb⟩
end Go.Proofs.YtpjfkhbdhdolfaaDoor
