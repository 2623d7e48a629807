/-
  The law ValueOrder, walked: for all three values it returns true.
-/
import Derived.Test.YtpjfkhbdhdolfaaDoorKnown
import Derived.Test.YtpjfkhbdhdolfaaDoorOrd
import Derived.Test.YtpjfkhbdhdolfaaDoorEq
namespace Go.Proofs.YtpjfkhbdhdolfaaDoor
open Go.RowKit

/-- Compare's contract where its answer is known by a name. -/
theorem cmp_is {ta na : Int} {sa : ByteArray} {tb nb : Int} {sb : ByteArray} {o : Int} (h : cmpV ta na sa tb nb sb = o) (w : World) :
    Calls Tryd.prog 16 #[.agg #[.int .i64 ta, .int .i64 na, .string sa], .agg #[.int .i64 tb, .int .i64 nb, .string sb]] w fun e w' => e = .returned (.int .i64 o) ∧ Below w.heap.size w w' := by
  subst h; exact compare_any ta na sa tb nb sb w
/-- What is known of the three boxed values and the library's variables, between the calls. -/
structure OS (w : World) (a b c : V) (W : World) : Prop where
  a : IsBlk W w.heap.size 23 #[.int .i64 a.t, .int .i64 a.n, .string a.s]
  b : IsBlk W (w.heap.size + 1) 23 #[.int .i64 b.t, .int .i64 b.n, .string b.s]
  c : IsBlk W (w.heap.size + 1 + 1) 23 #[.int .i64 c.t, .int .i64 c.n, .string c.s]
  env : Env W
  below : Below w.heap.size w W
theorem OS.call {w : World} {a b c : V} {W W' : World} (h : OS w a b c W) (hb : Below W.heap.size W W') : OS w a b c W' :=
  ⟨h.a.below hb h.a.lt, h.b.below hb h.b.lt, h.c.below hb h.c.lt, h.env.below hb (Nat.le_refl _), below_then h.below hb h.below.size⟩
theorem OS.cells {w : World} {a b c : V} {W : World} (h : OS w a b c W) :
    W.cell? ⟨w.heap.size, 0, none⟩ = some (.int .i64 a.t) ∧ W.cell? ⟨w.heap.size, 1, none⟩ = some (.int .i64 a.n) ∧ W.cell? ⟨w.heap.size, 2, none⟩ = some (.string a.s) ∧
    W.cell? ⟨w.heap.size + 1, 0, none⟩ = some (.int .i64 b.t) ∧ W.cell? ⟨w.heap.size + 1, 1, none⟩ = some (.int .i64 b.n) ∧ W.cell? ⟨w.heap.size + 1, 2, none⟩ = some (.string b.s) ∧
    W.cell? ⟨w.heap.size + 1 + 1, 0, none⟩ = some (.int .i64 c.t) ∧ W.cell? ⟨w.heap.size + 1 + 1, 1, none⟩ = some (.int .i64 c.n) ∧ W.cell? ⟨w.heap.size + 1 + 1, 2, none⟩ = some (.string c.s) :=
  ⟨h.a.cell 0, h.a.cell 1, h.a.cell 2, h.b.cell 0, h.b.cell 1, h.b.cell 2, h.c.cell 0, h.c.cell 1, h.c.cell 2⟩
theorem OS.start (w : World) (a b c : V) (hE : Env w) :
    ∃ W, ((w.alloc (.cells #[.int .i64 a.t, .int .i64 a.n, .string a.s] 23)).alloc (.cells #[.int .i64 b.t, .int .i64 b.n, .string b.s] 23)).alloc (.cells #[.int .i64 c.t, .int .i64 c.n, .string c.s] 23) = W ∧ OS w a b c W := by
  obtain ⟨W, hW, hb, hg1, hg2, hg3, hz⟩ := blk3 w 23 23 23 #[.int .i64 a.t, .int .i64 a.n, .string a.s] #[.int .i64 b.t, .int .i64 b.n, .string b.s] #[.int .i64 c.t, .int .i64 c.n, .string c.s]
  exact ⟨W, hW, hg1, hg2, hg3, hE.below hb (Nat.le_refl _), hb⟩

set_option maxRecDepth 100000 in
set_option maxHeartbeats 2000000 in
theorem order_gt (ta na : Int) (sa : ByteArray) (tb nb : Int) (sb : ByteArray) (tc nc : Int) (sc : ByteArray) (w : World) (hE : Env w) (h : cmpV ta na sa tb nb sb = 1) :
    Calls Tryd.prog 4 #[.agg #[.int .i64 ta, .int .i64 na, .string sa], .agg #[.int .i64 tb, .int .i64 nb, .string sb], .agg #[.int .i64 tc, .int .i64 nc, .string sc]] w fun e w' => e = .returned (.bool true) ∧ Below w.heap.size w w' := by
  have o2 : cmpV tb nb sb ta na sa = -1 := by rw [cmpV_neg, h]
  have o3 : cmpV ta na sa ta na sa = 0 := (cmpV_eq _ _ _ _ _ _).2 ⟨rfl, rfl, rfl⟩
  have hne : ¬ (ta = tb ∧ na = nb ∧ sa = sb) := fun e => by have := (cmpV_eq ta na sa tb nb sb).2 e; omega
  have hq := eql_other ta na sa tb nb sb hne
  have C1 := Lib.hid (cmp_is h)
  have C2 := Lib.hid (cmp_is o2)
  have C3 := Lib.hid (cmp_is o3)
  clear o2 o3 h hne
  obtain ⟨W, hW, hS⟩ := OS.start w ⟨ta, na, sa⟩ ⟨tb, nb, sb⟩ ⟨tc, nc, sc⟩ hE
  have HW := Lib.hid hW
  have H0 := Lib.hid hS
  clear hW hS hE
  go_enter Tryd.func4, Tryd.ntmps4
  go_wp2_with fail
  rw [HW.out]
  refine (C1.out _).mono ?_
  rintro e w1 ⟨rfl, hb1⟩
  have H1 := Lib.hid (H0.out.call hb1)
  clear hb1
  obtain ⟨a0, a1, a2, b0, b1, b2, c0, c1, c2⟩ := H1.out.cells
  go_wp2_with fail
  clear a0 a1 a2 b0 b1 b2 c0 c1 c2
  refine (C2.out _).mono ?_
  rintro e w2 ⟨rfl, hb2⟩
  have H2 := Lib.hid (H1.out.call hb2)
  clear hb2
  obtain ⟨a0, a1, a2, b0, b1, b2, c0, c1, c2⟩ := H2.out.cells
  go_wp2_with fail
  clear a0 a1 a2 b0 b1 b2 c0 c1 c2
  refine (C3.out _).mono ?_
  rintro e w3 ⟨rfl, hb3⟩
  have H3 := Lib.hid (H2.out.call hb3)
  clear hb3
  obtain ⟨a0, a1, a2, b0, b1, b2, c0, c1, c2⟩ := H3.out.cells
  go_wp2_with fail
  clear a0 a1 a2 b0 b1 b2 c0 c1 c2
  refine (known_any _ H3.out.env).mono ?_
  rintro e w4 ⟨rfl, hb4⟩
  have H4 := Lib.hid (H3.out.call hb4)
  clear hb4
  obtain ⟨a0, a1, a2, b0, b1, b2, c0, c1, c2⟩ := H4.out.cells
  go_wp2
  go_ret
  exact ⟨rfl, H4.out.below⟩

set_option maxRecDepth 100000 in
set_option maxHeartbeats 2000000 in
theorem order_eq_gt (ta na : Int) (sa : ByteArray) (tc nc : Int) (sc : ByteArray) (w : World) (hE : Env w)  (hbc : 0 < cmpV ta na sa tc nc sc) :
    Calls Tryd.prog 4 #[.agg #[.int .i64 ta, .int .i64 na, .string sa], .agg #[.int .i64 ta, .int .i64 na, .string sa], .agg #[.int .i64 tc, .int .i64 nc, .string sc]] w fun e w' => e = .returned (.bool true) ∧ Below w.heap.size w w' := by
  have o3 : cmpV ta na sa ta na sa = 0 := (cmpV_eq _ _ _ _ _ _).2 ⟨rfl, rfl, rfl⟩
  have C1 := Lib.hid (cmp_is o3)
  have C2 := Lib.hid (cmp_is o3)
  have C3 := Lib.hid (cmp_is o3)
  have hq := eql_same ta na sa
  clear o3
  obtain ⟨x, hx⟩ : ∃ x, cmpV ta na sa tc nc sc = x := ⟨_, rfl⟩
  have C4 := Lib.hid (cmp_is hx)
  rw [hx] at hbc
  clear hx
  obtain ⟨W, hW, hS⟩ := OS.start w ⟨ta, na, sa⟩ ⟨ta, na, sa⟩ ⟨tc, nc, sc⟩ hE
  have HW := Lib.hid hW
  have H0 := Lib.hid hS
  clear hW hS hE
  go_enter Tryd.func4, Tryd.ntmps4
  go_wp2_with fail
  rw [HW.out]
  refine (C1.out _).mono ?_
  rintro e w1 ⟨rfl, hb1⟩
  have H1 := Lib.hid (H0.out.call hb1)
  clear hb1
  obtain ⟨a0, a1, a2, b0, b1, b2, c0, c1, c2⟩ := H1.out.cells
  go_wp2_with fail
  clear a0 a1 a2 b0 b1 b2 c0 c1 c2
  refine (C2.out _).mono ?_
  rintro e w2 ⟨rfl, hb2⟩
  have H2 := Lib.hid (H1.out.call hb2)
  clear hb2
  obtain ⟨a0, a1, a2, b0, b1, b2, c0, c1, c2⟩ := H2.out.cells
  go_wp2_with fail
  clear a0 a1 a2 b0 b1 b2 c0 c1 c2
  refine (C3.out _).mono ?_
  rintro e w3 ⟨rfl, hb3⟩
  have H3 := Lib.hid (H2.out.call hb3)
  clear hb3
  obtain ⟨a0, a1, a2, b0, b1, b2, c0, c1, c2⟩ := H3.out.cells
  go_wp2_with fail
  clear a0 a1 a2 b0 b1 b2 c0 c1 c2
  refine (C4.out _).mono ?_
  rintro e w4 ⟨rfl, hb4⟩
  have H4 := Lib.hid (H3.out.call hb4)
  clear hb4
  obtain ⟨a0, a1, a2, b0, b1, b2, c0, c1, c2⟩ := H4.out.cells
  go_wp2_with fail
  clear a0 a1 a2 b0 b1 b2 c0 c1 c2
  refine (known_any _ H4.out.env).mono ?_
  rintro e w5 ⟨rfl, hb5⟩
  have H5 := Lib.hid (H4.out.call hb5)
  clear hb5
  obtain ⟨a0, a1, a2, b0, b1, b2, c0, c1, c2⟩ := H5.out.cells
  go_wp2
  go_ret
  exact ⟨rfl, H5.out.below⟩

set_option maxRecDepth 100000 in
set_option maxHeartbeats 2000000 in
theorem order_eq_le (ta na : Int) (sa : ByteArray) (tc nc : Int) (sc : ByteArray) (w : World) (hE : Env w)  (hbc : cmpV ta na sa tc nc sc ≤ 0) :
    Calls Tryd.prog 4 #[.agg #[.int .i64 ta, .int .i64 na, .string sa], .agg #[.int .i64 ta, .int .i64 na, .string sa], .agg #[.int .i64 tc, .int .i64 nc, .string sc]] w fun e w' => e = .returned (.bool true) ∧ Below w.heap.size w w' := by
  have o3 : cmpV ta na sa ta na sa = 0 := (cmpV_eq _ _ _ _ _ _).2 ⟨rfl, rfl, rfl⟩
  have C1 := Lib.hid (cmp_is o3)
  have C2 := Lib.hid (cmp_is o3)
  have C3 := Lib.hid (cmp_is o3)
  have hq := eql_same ta na sa
  clear o3
  obtain ⟨x, hx⟩ : ∃ x, cmpV ta na sa tc nc sc = x := ⟨_, rfl⟩
  have C4 := Lib.hid (cmp_is hx)
  rw [hx] at hbc
  clear hx
  have C5 := C4
  obtain ⟨W, hW, hS⟩ := OS.start w ⟨ta, na, sa⟩ ⟨ta, na, sa⟩ ⟨tc, nc, sc⟩ hE
  have HW := Lib.hid hW
  have H0 := Lib.hid hS
  clear hW hS hE
  go_enter Tryd.func4, Tryd.ntmps4
  go_wp2_with fail
  rw [HW.out]
  refine (C1.out _).mono ?_
  rintro e w1 ⟨rfl, hb1⟩
  have H1 := Lib.hid (H0.out.call hb1)
  clear hb1
  obtain ⟨a0, a1, a2, b0, b1, b2, c0, c1, c2⟩ := H1.out.cells
  go_wp2_with fail
  clear a0 a1 a2 b0 b1 b2 c0 c1 c2
  refine (C2.out _).mono ?_
  rintro e w2 ⟨rfl, hb2⟩
  have H2 := Lib.hid (H1.out.call hb2)
  clear hb2
  obtain ⟨a0, a1, a2, b0, b1, b2, c0, c1, c2⟩ := H2.out.cells
  go_wp2_with fail
  clear a0 a1 a2 b0 b1 b2 c0 c1 c2
  refine (C3.out _).mono ?_
  rintro e w3 ⟨rfl, hb3⟩
  have H3 := Lib.hid (H2.out.call hb3)
  clear hb3
  obtain ⟨a0, a1, a2, b0, b1, b2, c0, c1, c2⟩ := H3.out.cells
  go_wp2_with fail
  clear a0 a1 a2 b0 b1 b2 c0 c1 c2
  refine (C4.out _).mono ?_
  rintro e w4 ⟨rfl, hb4⟩
  have H4 := Lib.hid (H3.out.call hb4)
  clear hb4
  obtain ⟨a0, a1, a2, b0, b1, b2, c0, c1, c2⟩ := H4.out.cells
  go_wp2_with fail
  clear a0 a1 a2 b0 b1 b2 c0 c1 c2
  refine (C5.out _).mono ?_
  rintro e w5 ⟨rfl, hb5⟩
  have H5 := Lib.hid (H4.out.call hb5)
  clear hb5
  obtain ⟨a0, a1, a2, b0, b1, b2, c0, c1, c2⟩ := H5.out.cells
  go_wp2_with fail
  clear a0 a1 a2 b0 b1 b2 c0 c1 c2
  refine (known_any _ H5.out.env).mono ?_
  rintro e w6 ⟨rfl, hb6⟩
  have H6 := Lib.hid (H5.out.call hb6)
  clear hb6
  obtain ⟨a0, a1, a2, b0, b1, b2, c0, c1, c2⟩ := H6.out.cells
  go_wp2
  go_ret
  exact ⟨rfl, H6.out.below⟩

set_option maxRecDepth 100000 in
set_option maxHeartbeats 2000000 in
theorem order_lt_gt (ta na : Int) (sa : ByteArray) (tb nb : Int) (sb : ByteArray) (tc nc : Int) (sc : ByteArray) (w : World) (hE : Env w) (h : cmpV ta na sa tb nb sb = -1) (hbc : 0 < cmpV tb nb sb tc nc sc) :
    Calls Tryd.prog 4 #[.agg #[.int .i64 ta, .int .i64 na, .string sa], .agg #[.int .i64 tb, .int .i64 nb, .string sb], .agg #[.int .i64 tc, .int .i64 nc, .string sc]] w fun e w' => e = .returned (.bool true) ∧ Below w.heap.size w w' := by
  have o2 : cmpV tb nb sb ta na sa = 1 := by rw [cmpV_neg, h]; rfl
  have o3 : cmpV ta na sa ta na sa = 0 := (cmpV_eq _ _ _ _ _ _).2 ⟨rfl, rfl, rfl⟩
  have hne : ¬ (ta = tb ∧ na = nb ∧ sa = sb) := fun e => by have := (cmpV_eq ta na sa tb nb sb).2 e; omega
  have hq := eql_other ta na sa tb nb sb hne
  have C1 := Lib.hid (cmp_is h)
  have C2 := Lib.hid (cmp_is o2)
  have C3 := Lib.hid (cmp_is o3)
  clear o2 o3 h hne
  obtain ⟨x, hx⟩ : ∃ x, cmpV tb nb sb tc nc sc = x := ⟨_, rfl⟩
  have C4 := Lib.hid (cmp_is hx)
  rw [hx] at hbc
  clear hx
  obtain ⟨W, hW, hS⟩ := OS.start w ⟨ta, na, sa⟩ ⟨tb, nb, sb⟩ ⟨tc, nc, sc⟩ hE
  have HW := Lib.hid hW
  have H0 := Lib.hid hS
  clear hW hS hE
  go_enter Tryd.func4, Tryd.ntmps4
  go_wp2_with fail
  rw [HW.out]
  refine (C1.out _).mono ?_
  rintro e w1 ⟨rfl, hb1⟩
  have H1 := Lib.hid (H0.out.call hb1)
  clear hb1
  obtain ⟨a0, a1, a2, b0, b1, b2, c0, c1, c2⟩ := H1.out.cells
  go_wp2_with fail
  clear a0 a1 a2 b0 b1 b2 c0 c1 c2
  refine (C2.out _).mono ?_
  rintro e w2 ⟨rfl, hb2⟩
  have H2 := Lib.hid (H1.out.call hb2)
  clear hb2
  obtain ⟨a0, a1, a2, b0, b1, b2, c0, c1, c2⟩ := H2.out.cells
  go_wp2_with fail
  clear a0 a1 a2 b0 b1 b2 c0 c1 c2
  refine (C3.out _).mono ?_
  rintro e w3 ⟨rfl, hb3⟩
  have H3 := Lib.hid (H2.out.call hb3)
  clear hb3
  obtain ⟨a0, a1, a2, b0, b1, b2, c0, c1, c2⟩ := H3.out.cells
  go_wp2_with fail
  clear a0 a1 a2 b0 b1 b2 c0 c1 c2
  refine (C4.out _).mono ?_
  rintro e w4 ⟨rfl, hb4⟩
  have H4 := Lib.hid (H3.out.call hb4)
  clear hb4
  obtain ⟨a0, a1, a2, b0, b1, b2, c0, c1, c2⟩ := H4.out.cells
  go_wp2_with fail
  clear a0 a1 a2 b0 b1 b2 c0 c1 c2
  refine (known_any _ H4.out.env).mono ?_
  rintro e w5 ⟨rfl, hb5⟩
  have H5 := Lib.hid (H4.out.call hb5)
  clear hb5
  obtain ⟨a0, a1, a2, b0, b1, b2, c0, c1, c2⟩ := H5.out.cells
  go_wp2
  go_ret
  exact ⟨rfl, H5.out.below⟩

set_option maxRecDepth 100000 in
set_option maxHeartbeats 2000000 in
theorem order_lt_le (ta na : Int) (sa : ByteArray) (tb nb : Int) (sb : ByteArray) (tc nc : Int) (sc : ByteArray) (w : World) (hE : Env w) (h : cmpV ta na sa tb nb sb = -1) (hbc : cmpV tb nb sb tc nc sc ≤ 0) (hac : cmpV ta na sa tc nc sc ≤ 0) :
    Calls Tryd.prog 4 #[.agg #[.int .i64 ta, .int .i64 na, .string sa], .agg #[.int .i64 tb, .int .i64 nb, .string sb], .agg #[.int .i64 tc, .int .i64 nc, .string sc]] w fun e w' => e = .returned (.bool true) ∧ Below w.heap.size w w' := by
  have o2 : cmpV tb nb sb ta na sa = 1 := by rw [cmpV_neg, h]; rfl
  have o3 : cmpV ta na sa ta na sa = 0 := (cmpV_eq _ _ _ _ _ _).2 ⟨rfl, rfl, rfl⟩
  have hne : ¬ (ta = tb ∧ na = nb ∧ sa = sb) := fun e => by have := (cmpV_eq ta na sa tb nb sb).2 e; omega
  have hq := eql_other ta na sa tb nb sb hne
  have C1 := Lib.hid (cmp_is h)
  have C2 := Lib.hid (cmp_is o2)
  have C3 := Lib.hid (cmp_is o3)
  clear o2 o3 h hne
  obtain ⟨x, hx⟩ : ∃ x, cmpV tb nb sb tc nc sc = x := ⟨_, rfl⟩
  have C4 := Lib.hid (cmp_is hx)
  rw [hx] at hbc
  clear hx
  obtain ⟨y, hy⟩ : ∃ y, cmpV ta na sa tc nc sc = y := ⟨_, rfl⟩
  have C5 := Lib.hid (cmp_is hy)
  rw [hy] at hac
  clear hy
  obtain ⟨W, hW, hS⟩ := OS.start w ⟨ta, na, sa⟩ ⟨tb, nb, sb⟩ ⟨tc, nc, sc⟩ hE
  have HW := Lib.hid hW
  have H0 := Lib.hid hS
  clear hW hS hE
  go_enter Tryd.func4, Tryd.ntmps4
  go_wp2_with fail
  rw [HW.out]
  refine (C1.out _).mono ?_
  rintro e w1 ⟨rfl, hb1⟩
  have H1 := Lib.hid (H0.out.call hb1)
  clear hb1
  obtain ⟨a0, a1, a2, b0, b1, b2, c0, c1, c2⟩ := H1.out.cells
  go_wp2_with fail
  clear a0 a1 a2 b0 b1 b2 c0 c1 c2
  refine (C2.out _).mono ?_
  rintro e w2 ⟨rfl, hb2⟩
  have H2 := Lib.hid (H1.out.call hb2)
  clear hb2
  obtain ⟨a0, a1, a2, b0, b1, b2, c0, c1, c2⟩ := H2.out.cells
  go_wp2_with fail
  clear a0 a1 a2 b0 b1 b2 c0 c1 c2
  refine (C3.out _).mono ?_
  rintro e w3 ⟨rfl, hb3⟩
  have H3 := Lib.hid (H2.out.call hb3)
  clear hb3
  obtain ⟨a0, a1, a2, b0, b1, b2, c0, c1, c2⟩ := H3.out.cells
  go_wp2_with fail
  clear a0 a1 a2 b0 b1 b2 c0 c1 c2
  refine (C4.out _).mono ?_
  rintro e w4 ⟨rfl, hb4⟩
  have H4 := Lib.hid (H3.out.call hb4)
  clear hb4
  obtain ⟨a0, a1, a2, b0, b1, b2, c0, c1, c2⟩ := H4.out.cells
  go_wp2_with fail
  clear a0 a1 a2 b0 b1 b2 c0 c1 c2
  refine (C5.out _).mono ?_
  rintro e w5 ⟨rfl, hb5⟩
  have H5 := Lib.hid (H4.out.call hb5)
  clear hb5
  obtain ⟨a0, a1, a2, b0, b1, b2, c0, c1, c2⟩ := H5.out.cells
  go_wp2_with fail
  clear a0 a1 a2 b0 b1 b2 c0 c1 c2
  refine (known_any _ H5.out.env).mono ?_
  rintro e w6 ⟨rfl, hb6⟩
  have H6 := Lib.hid (H5.out.call hb6)
  clear hb6
  obtain ⟨a0, a1, a2, b0, b1, b2, c0, c1, c2⟩ := H6.out.cells
  go_wp2
  go_ret
  exact ⟨rfl, H6.out.below⟩

theorem order_any (ta na : Int) (sa : ByteArray) (tb nb : Int) (sb : ByteArray) (tc nc : Int) (sc : ByteArray) (w : World) (hE : Env w) :
    Calls Tryd.prog 4 #[.agg #[.int .i64 ta, .int .i64 na, .string sa], .agg #[.int .i64 tb, .int .i64 nb, .string sb], .agg #[.int .i64 tc, .int .i64 nc, .string sc]] w fun e w' => e = .returned (.bool true) ∧ Below w.heap.size w w' := by
  have hb := cmpV_bound ta na sa tb nb sb
  have ht := cmpV_trans ta na sa tb nb sb tc nc sc
  have h3 : cmpV ta na sa tb nb sb = 1 ∨ cmpV ta na sa tb nb sb = 0 ∨ cmpV ta na sa tb nb sb = -1 := by omega
  rcases h3 with h | h | h
  · exact order_gt ta na sa tb nb sb tc nc sc w hE h
  · obtain ⟨rfl, rfl, rfl⟩ := (cmpV_eq _ _ _ _ _ _).1 h
    rcases Int.lt_or_le 0 (cmpV ta na sa tc nc sc) with hbc | hbc
    · exact order_eq_gt ta na sa tc nc sc w hE hbc
    · exact order_eq_le ta na sa tc nc sc w hE hbc
  · rcases Int.lt_or_le 0 (cmpV tb nb sb tc nc sc) with hbc | hbc
    · exact order_lt_gt ta na sa tb nb sb tc nc sc w hE h hbc
    · exact order_lt_le ta na sa tb nb sb tc nc sc w hE h hbc (ht (by omega) hbc)
end Go.Proofs.YtpjfkhbdhdolfaaDoor
