/-
  The law ValueRound, walked: for every two values it returns true.
-/
import Derived.Test.YtpjfkhbdhdolfaaDoorKnown
import Derived.Test.YtpjfkhbdhdolfaaDoorMk
import Derived.Test.YtpjfkhbdhdolfaaDoorEq
import Derived.Deep.RegionHeld3
import Derived.Deep.DrawnRows
import Derived.Test.YtpjfkhbdhdolfaaDoorInv
namespace Go.Proofs.YtpjfkhbdhdolfaaDoor
open Go.RowKit
attribute [local go_sem ↓] Go.wp_at_zero Go.wp_at_succ

/-- Two boxed values and the library's variables, between the calls. -/
structure S2 (w : World) (g h : Nat) (a b : V) (W : World) : Prop where
  a : IsBlk W g 23 #[.int .i64 a.t, .int .i64 a.n, .string a.s]
  b : IsBlk W h 23 #[.int .i64 b.t, .int .i64 b.n, .string b.s]
  env : Env W
  below : Below w.heap.size w W
theorem S2.call {w : World} {g h : Nat} {a b : V} {W W' : World} (k : S2 w g h a b W) (hb : Below W.heap.size W W') : S2 w g h a b W' :=
  ⟨k.a.below hb k.a.lt, k.b.below hb k.b.lt, k.env.below hb (Nat.le_refl _), below_then k.below hb k.below.size⟩
theorem S2.alloc {w : World} {g h : Nat} {a b : V} {W : World} (k : S2 w g h a b W) (o : Obj) : S2 w g h a b (W.alloc o) := k.call ((Below.refl _ _).alloc (Nat.le_refl _) _)
theorem S2.drew {w : World} {g h : Nat} {a b : V} {W : World} (k : S2 w g h a b W) : S2 w g h a b W.drew := k.call (Below.refl _ _).drew
theorem S2.room {w : World} {g h : Nat} {a b : V} {W : World} (k : S2 w g h a b W) : h + 1 ≤ W.heap.size := k.b.lt
theorem S2.store {w : World} {a b : V} {W W' : World} {g : Nat} (k : S2 w w.heap.size (w.heap.size + 1) a b W) (hg : w.heap.size + 2 ≤ g) (hb : Below g W W') (hE : Env w) : S2 w w.heap.size (w.heap.size + 1) a b W' := by
  have h2 : Below w.heap.size w W' := k.below.trans (hb.mono (by omega))
  exact ⟨k.a.below hb (by omega), k.b.below hb (by omega), hE.below h2 (Nat.le_refl _), h2⟩
theorem S2.full {w : World} {g h : Nat} {a b : V} {W : World} (k : S2 w g h a b W) :
    W.cell? ⟨g, 0, none⟩ = some (.int .i64 a.t) ∧ W.cell? ⟨g, 1, none⟩ = some (.int .i64 a.n) ∧ W.cell? ⟨g, 2, none⟩ = some (.string a.s) ∧
    W.cell? ⟨h, 0, none⟩ = some (.int .i64 b.t) ∧ W.cell? ⟨h, 1, none⟩ = some (.int .i64 b.n) ∧ W.cell? ⟨h, 2, none⟩ = some (.string b.s) ∧ S2 w g h a b W :=
  ⟨k.a.cell 0, k.a.cell 1, k.a.cell 2, k.b.cell 0, k.b.cell 1, k.b.cell 2, k⟩
theorem S2.start (w : World) (a b : V) (hE : Env w) :
    ∃ W, (w.alloc (.cells #[.int .i64 a.t, .int .i64 a.n, .string a.s] 23)).alloc (.cells #[.int .i64 b.t, .int .i64 b.n, .string b.s] 23) = W ∧ S2 w w.heap.size (w.heap.size + 1) a b W := by
  obtain ⟨W, hW, hb, hg1, hg2, hz⟩ := blk2 w 23 23 #[.int .i64 a.t, .int .i64 a.n, .string a.s] #[.int .i64 b.t, .int .i64 b.n, .string b.s]
  exact ⟨W, hW, hg1, hg2, hE.below hb (Nat.le_refl _), hb⟩

theorem dec_length : ∀ (k u : Nat), u < 10 ^ k → 0 < k → (Lib.decDigits u).length ≤ k
  | 0, _, _, h => absurd h (by omega)
  | k + 1, u, hu, _ => by
    rw [Lib.decDigits]
    split
    · simp
    · rename_i h
      have hk : 0 < k := by
        rcases Nat.eq_zero_or_pos k with rfl | h'
        · simp at hu; omega
        · exact h'
      have := dec_length k (u / 10) (by rw [Nat.div_lt_iff_lt_mul (by decide)]; rw [Nat.pow_succ] at hu; exact hu) hk
      simp; omega
theorem fmt_size {t n : Int} {s : ByteArray} (hv : validB t n s = true) (hn : -9223372036854775808 ≤ n ∧ n ≤ 9223372036854775807) : (⟨(fmtL t n s).toArray⟩ : ByteArray).size ≤ 4294967280 := by
  have e : (⟨(fmtL t n s).toArray⟩ : ByteArray).size = (fmtL t n s).length := by simp [ByteArray.size]
  rw [e]
  by_cases ht : t = 1
  · subst ht
    have hf : fmtL 1 n s = Lib.itoa n := by simp [fmtL, hv]
    rw [hf]
    have p20 : (10 ^ 20 : Nat) = 100000000000000000000 := by decide
    by_cases h : n < 0
    · have := dec_length 20 n.natAbs (by rw [p20]; omega) (by decide)
      simp [Lib.itoa, h]; omega
    · have := dec_length 20 n.toNat (by rw [p20]; omega) (by decide)
      simp [Lib.itoa, h]; omega
  · obtain ⟨rfl, rfl, hs, _⟩ := two_of_valid ht hv
    have hf : fmtL 2 0 s = [39] ++ dbl s.data.toList ++ [39] := by simp [fmtL, hv]
    have := dbl_length_le s.data.toList
    rw [hf]; simp at this ⊢; omega
theorem valid_is {t n : Int} {s : ByteArray} {b : Bool} (h : validB t n s = b) (w : World) :
    Calls Tryd.prog 17 #[.agg #[.int .i64 t, .int .i64 n, .string s]] w fun e w' => e = .returned (.bool b) ∧ Below w.heap.size w w' := by subst h; exact valid_any t n s w
/-- Three boxed values, between the calls. -/
structure S3 (w : World) (g h k : Nat) (a b c : V) (W : World) : Prop where
  two : S2 w g h a b W
  c : IsBlk W k 23 #[.int .i64 c.t, .int .i64 c.n, .string c.s]
theorem S3.call {w : World} {g h k : Nat} {a b c : V} {W W' : World} (s : S3 w g h k a b c W) (hb : Below W.heap.size W W') : S3 w g h k a b c W' := ⟨s.two.call hb, s.c.below hb s.c.lt⟩
theorem S3.drew {w : World} {g h k : Nat} {a b c : V} {W : World} (s : S3 w g h k a b c W) : S3 w g h k a b c W.drew := s.call (Below.refl _ _).drew
theorem S3.full {w : World} {g h k : Nat} {a b c : V} {W : World} (s : S3 w g h k a b c W) :
    (W.cell? ⟨g, 0, none⟩ = some (.int .i64 a.t) ∧ W.cell? ⟨g, 1, none⟩ = some (.int .i64 a.n) ∧ W.cell? ⟨g, 2, none⟩ = some (.string a.s)) ∧
    (W.cell? ⟨h, 0, none⟩ = some (.int .i64 b.t) ∧ W.cell? ⟨h, 1, none⟩ = some (.int .i64 b.n) ∧ W.cell? ⟨h, 2, none⟩ = some (.string b.s)) ∧
    (W.cell? ⟨k, 0, none⟩ = some (.int .i64 c.t) ∧ W.cell? ⟨k, 1, none⟩ = some (.int .i64 c.n) ∧ W.cell? ⟨k, 2, none⟩ = some (.string c.s)) ∧ S3 w g h k a b c W :=
  ⟨⟨s.two.a.cell 0, s.two.a.cell 1, s.two.a.cell 2⟩, ⟨s.two.b.cell 0, s.two.b.cell 1, s.two.b.cell 2⟩, ⟨s.c.cell 0, s.c.cell 1, s.c.cell 2⟩, s⟩
/-- What holds inside the statement that makes the two valid values. -/
def RJ (w : World) (a b p q : V) (L : Array Bool) (us : List Value) (W' : World) : Prop := match us with
    | [u5, u6, u19, u20, u21, u22] => ∃ g5 g6 : Nat, S2 w w.heap.size (w.heap.size + 1) a b W' ∧
      (L.getD 0 false = true → u19 = .agg #[.int .i64 a.t, .int .i64 a.n, .string a.s]) ∧ (L.getD 1 false = true → u20 = .agg #[.int .i64 p.t, .int .i64 p.n, .string p.s]) ∧
      (L.getD 2 false = true → u21 = .agg #[.int .i64 b.t, .int .i64 b.n, .string b.s]) ∧ (L.getD 3 false = true → u22 = .agg #[.int .i64 q.t, .int .i64 q.n, .string q.s]) ∧
      (L.getD 4 false = true → u5 = .pointer (some ⟨g5, 0, none⟩) ∧ w.heap.size + 2 ≤ g5 ∧ ∃ x0 x1 x2, IsBlk W' g5 23 #[x0, x1, x2]) ∧
      (L.getD 5 false = true → u6 = .pointer (some ⟨g6, 0, none⟩) ∧ w.heap.size + 2 ≤ g6 ∧ ∃ x0 x1 x2, IsBlk W' g6 23 #[x0, x1, x2]) ∧
      (L.getD 4 false = true → L.getD 5 false = true → g5 ≠ g6) ∧
      (L.getD 6 false = true → L.getD 4 false = true ∧ IsBlk W' g5 23 #[.int .i64 p.t, .int .i64 p.n, .string p.s]) ∧
      (L.getD 7 false = true → L.getD 5 false = true ∧ IsBlk W' g6 23 #[.int .i64 q.t, .int .i64 q.n, .string q.s])
    | _ => False

set_option maxRecDepth 100000 in
set_option maxHeartbeats 4000000 in
theorem round_small (a b : V) (w : World) (hE : Env w) (ha : a.s.size ≤ 80) (hb : b.s.size ≤ 80) (p q : V) (hp : mkV a = p) (hq : mkV b = q) (hpn : -9223372036854775808 ≤ p.n ∧ p.n ≤ 9223372036854775807) (hqn : -9223372036854775808 ≤ q.n ∧ q.n ≤ 9223372036854775807) (bb : Bool) (hf1 : (fmtL p.t p.n p.s == fmtL q.t q.n q.s) = bb) (hf2 : ∀ w : World, (binOp .eql 23 (.agg #[.int .i64 p.t, .int .i64 p.n, .string p.s]) (.agg #[.int .i64 q.t, .int .i64 q.n, .string q.s])).run Tryd.prog w = .ok (.bool bb) w) :
    Calls Tryd.prog 5 #[.agg #[.int .i64 a.t, .int .i64 a.n, .string a.s], .agg #[.int .i64 b.t, .int .i64 b.n, .string b.s]] w fun e w' => e = .returned (.bool true) ∧ Below w.heap.size w w' := by
  have C1 := Lib.hid (mk_any a)
  have C2 := Lib.hid (mk_any b)
  have hpv : validB p.t p.n p.s = true := by rw [← hp]; exact mkV_ok a
  have C3 := Lib.hid (fun W (hE : Env W) => format_any p.t p.n p.s W hpn.1 hpn.2 hE)
  have C4 := Lib.hid (fun W (hE : Env W) => parse_ok p.t p.n p.s ⟨(fmtL p.t p.n p.s).toArray⟩ W (fmt_size hpv hpn) hpv (by simp) hpn.1 hpn.2 hE)
  have C5 := Lib.hid (fun W => valid_is hpv W)
  have C6 := Lib.hid (fun W (hE : Env W) => format_any q.t q.n q.s W hqn.1 hqn.2 hE)
  have HF1 := Lib.hid hf1
  have HF2 := Lib.hid hf2
  clear hpv hpn hqn hf1 hf2
  rw [hp] at C1
  rw [hq] at C2
  obtain ⟨W, hW, hS⟩ := S2.start w a b hE
  have HW := Lib.hid hW
  clear hp hq hW
  obtain ⟨ta, na, sa⟩ := a
  obtain ⟨tb, nb, sb⟩ := b
  simp only at C1 C2 ha hb HW hS
  obtain ⟨a0, a1, a2, b0, b1, b2, hS⟩ := hS.full
  go_enter Tryd.func5, Tryd.ntmps5
  go_wp2_with fail
  rw [HW.out]
  have HE := Lib.hid hE
  clear a0 a1 a2 b0 b1 b2 hE
  refine wp_region_slots [5, 6, 19, 20, 21, 22] (RJ w ⟨ta, na, sa⟩ ⟨tb, nb, sb⟩ p q) (by kernel_rfl) (by kernel_rfl) ?_ ?_ ?_
  · exact ⟨0, 0, hS.drew, fun h => absurd h on_none, fun h => absurd h on_none, fun h => absurd h on_none, fun h => absurd h on_none, fun h => absurd h on_none, fun h => absurd h on_none, fun h => absurd h on_none, fun h => absurd h on_none, fun h => absurd h on_none⟩
  · intro L us W' i o hsz0 hun ho hall hJ
    match us, hJ with
    | [u5, u6, u19, u20, u21, u22], hJ =>
      obtain ⟨g5, g6, hS, p0, p1, p2, p3, p4, p5, p45, p6, p7⟩ := hJ
      have hi : i < 8 := by
        have := (Array.getElem?_eq_some_iff.1 ho).1
        simpa using this
      have hsz : L.size = 8 := by simpa using hsz0
      clear hsz0
      have hcase : i = 0 ∨ i = 1 ∨ i = 2 ∨ i = 3 ∨ i = 4 ∨ i = 5 ∨ i = 6 ∨ i = 7 := by omega
      have HS := Lib.hid hS
      have P0 := Lib.hid p0
      have P1 := Lib.hid p1
      have P2 := Lib.hid p2
      have P3 := Lib.hid p3
      have P4 := Lib.hid p4
      have P5 := Lib.hid p5
      have P45 := Lib.hid p45
      have P6 := Lib.hid p6
      have P7 := Lib.hid p7
      have HSZ := Lib.hid hsz
      have HUN := Lib.hid hun
      clear hJ hS p0 p1 p2 p3 p4 p5 p45 p6 p7 hsz hun hi
      rcases hcase with rfl | rfl | rfl | rfl | rfl | rfl | rfl | rfl
      · simp at ho
        subst ho
        simp [Waited, Region.binds] at hall
        simp only [upd, List.zip_cons_cons, List.zip_nil_right, List.setIfInBounds_toArray, List.set_cons_succ, List.set_cons_zero]
        obtain ⟨a0, a1, a2, b0, b1, b2, _⟩ := HS.out.full
        go_wp2
        clear a0 a1 a2 b0 b1 b2
        refine ⟨[u5, u6, .agg #[.int .i64 ta, .int .i64 na, .string sa], u20, u21, u22], rfl, g5, g6, HS.out, ?_, ?_, ?_, ?_, ?_, ?_, ?_, ?_, ?_⟩
        · exact fun _ => rfl
        · exact fun h => P1.out (by rwa [on_other (by decide)] at h)
        · exact fun h => P2.out (by rwa [on_other (by decide)] at h)
        · exact fun h => P3.out (by rwa [on_other (by decide)] at h)
        · exact fun h => by
            have h := P4.out (by rwa [on_other (by decide)] at h)
            obtain ⟨h1, h2, x0, x1, x2, h3⟩ := h
            exact ⟨h1, h2, x0, x1, x2, h3⟩
        · exact fun h => by
            have h := P5.out (by rwa [on_other (by decide)] at h)
            obtain ⟨h1, h2, x0, x1, x2, h3⟩ := h
            exact ⟨h1, h2, x0, x1, x2, h3⟩
        · exact fun h h' => P45.out (by rwa [on_other (by decide)] at h) (by rwa [on_other (by decide)] at h')
        · exact fun h => by
            obtain ⟨h1, h2⟩ := P6.out (by rwa [on_other (by decide)] at h)
            exact ⟨by rwa [on_other (by decide)], h2⟩
        · exact fun h => by
            obtain ⟨h1, h2⟩ := P7.out (by rwa [on_other (by decide)] at h)
            exact ⟨by rwa [on_other (by decide)], h2⟩
      · simp at ho
        subst ho
        simp [Waited, Region.binds] at hall
        simp only [upd, List.zip_cons_cons, List.zip_nil_right, List.setIfInBounds_toArray, List.set_cons_succ, List.set_cons_zero]
        obtain rfl := P0.out (by simpa using hall)
        go_wp2_with fail
        refine (C1.out _).mono ?_
        rintro e W1 ⟨rfl, hb1⟩
        have HB1 := Lib.hid hb1
        clear hb1
        go_wp2
        refine ⟨[u5, u6, .agg #[.int .i64 ta, .int .i64 na, .string sa], .agg #[.int .i64 p.t, .int .i64 p.n, .string p.s], u21, u22], rfl, g5, g6, HS.out.call HB1.out, ?_, ?_, ?_, ?_, ?_, ?_, ?_, ?_, ?_⟩
        · exact fun _ => rfl
        · exact fun _ => rfl
        · exact fun h => P2.out (by rwa [on_other (by decide)] at h)
        · exact fun h => P3.out (by rwa [on_other (by decide)] at h)
        · exact fun h => by
            have h := P4.out (by rwa [on_other (by decide)] at h)
            obtain ⟨h1, h2, x0, x1, x2, h3⟩ := h
            exact ⟨h1, h2, x0, x1, x2, h3.below HB1.out h3.lt⟩
        · exact fun h => by
            have h := P5.out (by rwa [on_other (by decide)] at h)
            obtain ⟨h1, h2, x0, x1, x2, h3⟩ := h
            exact ⟨h1, h2, x0, x1, x2, h3.below HB1.out h3.lt⟩
        · exact fun h h' => P45.out (by rwa [on_other (by decide)] at h) (by rwa [on_other (by decide)] at h')
        · exact fun h => by
            obtain ⟨h1, h2⟩ := P6.out (by rwa [on_other (by decide)] at h)
            exact ⟨by rwa [on_other (by decide)], h2.below HB1.out h2.lt⟩
        · exact fun h => by
            obtain ⟨h1, h2⟩ := P7.out (by rwa [on_other (by decide)] at h)
            exact ⟨by rwa [on_other (by decide)], h2.below HB1.out h2.lt⟩
      · simp at ho
        subst ho
        simp [Waited, Region.binds] at hall
        simp only [upd, List.zip_cons_cons, List.zip_nil_right, List.setIfInBounds_toArray, List.set_cons_succ, List.set_cons_zero]
        obtain ⟨a0, a1, a2, b0, b1, b2, _⟩ := HS.out.full
        go_wp2
        clear a0 a1 a2 b0 b1 b2
        refine ⟨[u5, u6, u19, u20, .agg #[.int .i64 tb, .int .i64 nb, .string sb], u22], rfl, g5, g6, HS.out, ?_, ?_, ?_, ?_, ?_, ?_, ?_, ?_, ?_⟩
        · exact fun h => P0.out (by rwa [on_other (by decide)] at h)
        · exact fun h => P1.out (by rwa [on_other (by decide)] at h)
        · exact fun _ => rfl
        · exact fun h => P3.out (by rwa [on_other (by decide)] at h)
        · exact fun h => by
            have h := P4.out (by rwa [on_other (by decide)] at h)
            obtain ⟨h1, h2, x0, x1, x2, h3⟩ := h
            exact ⟨h1, h2, x0, x1, x2, h3⟩
        · exact fun h => by
            have h := P5.out (by rwa [on_other (by decide)] at h)
            obtain ⟨h1, h2, x0, x1, x2, h3⟩ := h
            exact ⟨h1, h2, x0, x1, x2, h3⟩
        · exact fun h h' => P45.out (by rwa [on_other (by decide)] at h) (by rwa [on_other (by decide)] at h')
        · exact fun h => by
            obtain ⟨h1, h2⟩ := P6.out (by rwa [on_other (by decide)] at h)
            exact ⟨by rwa [on_other (by decide)], h2⟩
        · exact fun h => by
            obtain ⟨h1, h2⟩ := P7.out (by rwa [on_other (by decide)] at h)
            exact ⟨by rwa [on_other (by decide)], h2⟩
      · simp at ho
        subst ho
        simp [Waited, Region.binds] at hall
        simp only [upd, List.zip_cons_cons, List.zip_nil_right, List.setIfInBounds_toArray, List.set_cons_succ, List.set_cons_zero]
        obtain rfl := P2.out (by simpa using hall.1)
        go_wp2_with fail
        refine (C2.out _).mono ?_
        rintro e W1 ⟨rfl, hb1⟩
        have HB1 := Lib.hid hb1
        clear hb1
        go_wp2
        refine ⟨[u5, u6, u19, u20, .agg #[.int .i64 tb, .int .i64 nb, .string sb], .agg #[.int .i64 q.t, .int .i64 q.n, .string q.s]], rfl, g5, g6, HS.out.call HB1.out, ?_, ?_, ?_, ?_, ?_, ?_, ?_, ?_, ?_⟩
        · exact fun h => P0.out (by rwa [on_other (by decide)] at h)
        · exact fun h => P1.out (by rwa [on_other (by decide)] at h)
        · exact fun _ => rfl
        · exact fun _ => rfl
        · exact fun h => by
            have h := P4.out (by rwa [on_other (by decide)] at h)
            obtain ⟨h1, h2, x0, x1, x2, h3⟩ := h
            exact ⟨h1, h2, x0, x1, x2, h3.below HB1.out h3.lt⟩
        · exact fun h => by
            have h := P5.out (by rwa [on_other (by decide)] at h)
            obtain ⟨h1, h2, x0, x1, x2, h3⟩ := h
            exact ⟨h1, h2, x0, x1, x2, h3.below HB1.out h3.lt⟩
        · exact fun h h' => P45.out (by rwa [on_other (by decide)] at h) (by rwa [on_other (by decide)] at h')
        · exact fun h => by
            obtain ⟨h1, h2⟩ := P6.out (by rwa [on_other (by decide)] at h)
            exact ⟨by rwa [on_other (by decide)], h2.below HB1.out h2.lt⟩
        · exact fun h => by
            obtain ⟨h1, h2⟩ := P7.out (by rwa [on_other (by decide)] at h)
            exact ⟨by rwa [on_other (by decide)], h2.below HB1.out h2.lt⟩
      · simp at ho
        subst ho
        simp [Waited, Region.binds] at hall
        simp only [upd, List.zip_cons_cons, List.zip_nil_right, List.setIfInBounds_toArray, List.set_cons_succ, List.set_cons_zero]
        go_wp2
        refine ⟨[.pointer (some ⟨W'.heap.size, 0, none⟩), u6, u19, u20, u21, u22], rfl, W'.heap.size, g6, HS.out.alloc _, ?_, ?_, ?_, ?_, ?_, ?_, ?_, ?_, ?_⟩
        · exact fun h => P0.out (by rwa [on_other (by decide)] at h)
        · exact fun h => P1.out (by rwa [on_other (by decide)] at h)
        · exact fun h => P2.out (by rwa [on_other (by decide)] at h)
        · exact fun h => P3.out (by rwa [on_other (by decide)] at h)
        · exact fun _ => ⟨rfl, HS.out.room, _, _, _, IsBlk.made _ _ _⟩
        · exact fun h => by
            have h := P5.out (by rwa [on_other (by decide)] at h)
            obtain ⟨h1, h2, x0, x1, x2, h3⟩ := h
            exact ⟨h1, h2, x0, x1, x2, h3.alloc _⟩
        · exact fun _ h => by
            obtain ⟨h1, h2, x0, x1, x2, h3⟩ := P5.out (by rwa [on_other (by decide)] at h)
            have := h3.lt
            omega
        · exact fun h => by
            obtain ⟨h1, _⟩ := P6.out (by rwa [on_other (by decide)] at h)
            rw [getD_both HUN.out] at h1
            cases h1
        · exact fun h => by
            obtain ⟨h1, h2⟩ := P7.out (by rwa [on_other (by decide)] at h)
            exact ⟨by rwa [on_other (by decide)], h2.alloc _⟩
      · simp at ho
        subst ho
        simp [Waited, Region.binds] at hall
        simp only [upd, List.zip_cons_cons, List.zip_nil_right, List.setIfInBounds_toArray, List.set_cons_succ, List.set_cons_zero]
        go_wp2
        refine ⟨[u5, .pointer (some ⟨W'.heap.size, 0, none⟩), u19, u20, u21, u22], rfl, g5, W'.heap.size, HS.out.alloc _, ?_, ?_, ?_, ?_, ?_, ?_, ?_, ?_, ?_⟩
        · exact fun h => P0.out (by rwa [on_other (by decide)] at h)
        · exact fun h => P1.out (by rwa [on_other (by decide)] at h)
        · exact fun h => P2.out (by rwa [on_other (by decide)] at h)
        · exact fun h => P3.out (by rwa [on_other (by decide)] at h)
        · exact fun h => by
            have h := P4.out (by rwa [on_other (by decide)] at h)
            obtain ⟨h1, h2, x0, x1, x2, h3⟩ := h
            exact ⟨h1, h2, x0, x1, x2, h3.alloc _⟩
        · exact fun _ => ⟨rfl, HS.out.room, _, _, _, IsBlk.made _ _ _⟩
        · exact fun h _ => by
            obtain ⟨h1, h2, x0, x1, x2, h3⟩ := P4.out (by rwa [on_other (by decide)] at h)
            have := h3.lt
            omega
        · exact fun h => by
            obtain ⟨h1, h2⟩ := P6.out (by rwa [on_other (by decide)] at h)
            exact ⟨by rwa [on_other (by decide)], h2.alloc _⟩
        · exact fun h => by
            obtain ⟨h1, _⟩ := P7.out (by rwa [on_other (by decide)] at h)
            rw [getD_both HUN.out] at h1
            cases h1
      · simp at ho
        subst ho
        simp [Waited, Region.binds] at hall
        simp only [upd, List.zip_cons_cons, List.zip_nil_right, List.setIfInBounds_toArray, List.set_cons_succ, List.set_cons_zero]
        have hk := (by simpa using hall.1 : L.getD 4 false = true)
        have hv := (by simpa using hall.2.1 : L.getD 1 false = true)
        clear hall
        obtain ⟨e5, hg5, x0, x1, x2, hbk⟩ := P4.out hk
        subst e5
        obtain rfl := P1.out hv
        obtain ⟨c0, c1, c2, f0, f1, f2⟩ := hbk.three
        have HBK := Lib.hid hbk
        have HK := Lib.hid hk
        have HV := Lib.hid hv
        clear hbk hk hv
        go_wp2
        clear c0 c1 c2 f0 f1 f2
        obtain ⟨W1, h1, hg1, hb1, hz1, hk1⟩ := store3 HBK.out (.int .i64 p.t) (.int .i64 p.n) (.string p.s)
        rw [h1]
        clear h1
        have hfar : L.getD 5 false = true → g6 ≠ g5 := fun h => Ne.symm (P45.out HK.out h)
        refine ⟨[.pointer (some ⟨g5, 0, none⟩), u6, u19, .agg #[.int .i64 p.t, .int .i64 p.n, .string p.s], u21, u22], rfl, g5, g6, HS.out.store hg5 hb1 HE.out, ?_, ?_, ?_, ?_, ?_, ?_, ?_, ?_, ?_⟩
        · exact fun h => P0.out (by rwa [on_other (by decide)] at h)
        · exact fun _ => rfl
        · exact fun h => P2.out (by rwa [on_other (by decide)] at h)
        · exact fun h => P3.out (by rwa [on_other (by decide)] at h)
        · exact fun _ => ⟨rfl, hg5, _, _, _, hg1⟩
        · exact fun h => by
            have h : L.getD 5 false = true := (by rwa [on_other (by decide)] at h)
            obtain ⟨h1, h2, x0, x1, x2, h3⟩ := P5.out h
            exact ⟨h1, h2, x0, x1, x2, (hk1 _ (hfar h)).trans h3⟩
        · exact fun h h' => P45.out (by rwa [on_other (by decide)] at h) (by rwa [on_other (by decide)] at h')
        · exact fun _ => ⟨by rw [on_other (by decide)]; exact HK.out, hg1⟩
        · exact fun h => by
            obtain ⟨h1, h2⟩ := P7.out (by rwa [on_other (by decide)] at h)
            exact ⟨by rwa [on_other (by decide)], (hk1 _ (hfar h1)).trans h2⟩
      · simp at ho
        subst ho
        simp [Waited, Region.binds] at hall
        simp only [upd, List.zip_cons_cons, List.zip_nil_right, List.setIfInBounds_toArray, List.set_cons_succ, List.set_cons_zero]
        have hk := (by simpa using hall.1 : L.getD 5 false = true)
        have hv := (by simpa using hall.2.1 : L.getD 3 false = true)
        clear hall
        obtain ⟨e5, hg5, x0, x1, x2, hbk⟩ := P5.out hk
        subst e5
        obtain rfl := P3.out hv
        obtain ⟨c0, c1, c2, f0, f1, f2⟩ := hbk.three
        have HBK := Lib.hid hbk
        have HK := Lib.hid hk
        have HV := Lib.hid hv
        clear hbk hk hv
        go_wp2
        clear c0 c1 c2 f0 f1 f2
        obtain ⟨W1, h1, hg1, hb1, hz1, hk1⟩ := store3 HBK.out (.int .i64 q.t) (.int .i64 q.n) (.string q.s)
        rw [h1]
        clear h1
        have hfar : L.getD 4 false = true → g5 ≠ g6 := fun h => P45.out h HK.out
        refine ⟨[u5, .pointer (some ⟨g6, 0, none⟩), u19, u20, u21, .agg #[.int .i64 q.t, .int .i64 q.n, .string q.s]], rfl, g5, g6, HS.out.store hg5 hb1 HE.out, ?_, ?_, ?_, ?_, ?_, ?_, ?_, ?_, ?_⟩
        · exact fun h => P0.out (by rwa [on_other (by decide)] at h)
        · exact fun h => P1.out (by rwa [on_other (by decide)] at h)
        · exact fun h => P2.out (by rwa [on_other (by decide)] at h)
        · exact fun _ => rfl
        · exact fun h => by
            have h : L.getD 4 false = true := (by rwa [on_other (by decide)] at h)
            obtain ⟨h1, h2, x0, x1, x2, h3⟩ := P4.out h
            exact ⟨h1, h2, x0, x1, x2, (hk1 _ (hfar h)).trans h3⟩
        · exact fun _ => ⟨rfl, hg5, _, _, _, hg1⟩
        · exact fun h h' => P45.out (by rwa [on_other (by decide)] at h) (by rwa [on_other (by decide)] at h')
        · exact fun h => by
            obtain ⟨h1, h2⟩ := P6.out (by rwa [on_other (by decide)] at h)
            exact ⟨by rwa [on_other (by decide)], (hk1 _ (hfar h1)).trans h2⟩
        · exact fun _ => ⟨by rw [on_other (by decide)]; exact HK.out, hg1⟩
  · intro L us W' hall hJ
    match us, hJ with
    | [u5, u6, u19, u20, u21, u22], hJ =>
      obtain ⟨g5, g6, hS, p0, p1, p2, p3, p4, p5, p45, p6, p7⟩ := hJ
      obtain rfl := p0 (hall 0 (by simp))
      obtain rfl := p1 (hall 1 (by simp))
      obtain rfl := p2 (hall 2 (by simp))
      obtain rfl := p3 (hall 3 (by simp))
      obtain ⟨rfl, hg5, _⟩ := p4 (hall 4 (by simp))
      obtain ⟨rfl, hg6, _⟩ := p5 (hall 5 (by simp))
      have hR : S2 w g5 g6 p q W' := ⟨(p6 (hall 6 (by simp))).2, (p7 (hall 7 (by simp))).2, hS.env, hS.below⟩
      clear hall p0 p1 p2 p3 p4 p5 p45 p6 p7 hS hJ
      have HR := Lib.hid hR
      obtain ⟨c0, c1, c2, _, _, _, _⟩ := hR.full
      clear hR
      simp only [upd, List.zip_cons_cons, List.zip_nil_right, List.setIfInBounds_toArray, List.set_cons_succ, List.set_cons_zero]
      go_wp2_with fail
      clear c0 c1 c2
      refine (C3.out _ HR.out.env).mono ?_
      rintro e W1 ⟨rfl, hb1⟩
      have HR1 := Lib.hid (HR.out.call hb1)
      clear hb1
      go_wp2_with fail
      refine (C4.out _ HR1.out.env).mono ?_
      rintro e W2 ⟨rfl, hb2⟩
      have HR2 := Lib.hid (HR1.out.call hb2)
      clear hb2
      have hk : S3 w g5 g6 W2.heap.size p q p (W2.alloc (.cells #[.int .i64 p.t, .int .i64 p.n, .string p.s] 23)) := ⟨HR2.out.alloc _, IsBlk.made _ _ _⟩
      generalize hg : W2.heap.size = g7 at hk
      have HG := Lib.hid hg
      clear hg
      go_wp2
      rw [HG.out]
      generalize W2.alloc (.cells #[.int .i64 p.t, .int .i64 p.n, .string p.s] 23) = W3 at hk ⊢
      have hq0 := eql_same p.t p.n p.s
      have hf1 := HF1.out
      have hf2 := HF2.out
      clear HG HR HR1 HR2
      go_region_held3 (fun W' => (W'.cell? ⟨g5, 0, none⟩ = some (.int .i64 p.t) ∧ W'.cell? ⟨g5, 1, none⟩ = some (.int .i64 p.n) ∧ W'.cell? ⟨g5, 2, none⟩ = some (.string p.s)) ∧ (W'.cell? ⟨g6, 0, none⟩ = some (.int .i64 q.t) ∧ W'.cell? ⟨g6, 1, none⟩ = some (.int .i64 q.n) ∧ W'.cell? ⟨g6, 2, none⟩ = some (.string q.s)) ∧ (W'.cell? ⟨g7, 0, none⟩ = some (.int .i64 p.t) ∧ W'.cell? ⟨g7, 1, none⟩ = some (.int .i64 p.n) ∧ W'.cell? ⟨g7, 2, none⟩ = some (.string p.s)) ∧ S3 w g5 g6 g7 p q p W')
        ((first | exact S3.full (S3.drew hk) | exact S3.full hks))
        (first
          | (go_at_call 17; refine (C5.out _).mono ?_; rintro e w' ⟨rfl, hb⟩; have hks := S3.call (‹_ ∧ _ ∧ _ ∧ S3 w g5 g6 g7 p q p _›).2.2.2 hb)
          | (go_at_call_of 14 (Value.agg #[Value.int IntKind.i64 p.t, Value.int IntKind.i64 p.n, Value.string p.s]); refine (C3.out _ (S2.env (S3.two (‹_ ∧ _ ∧ _ ∧ S3 w g5 g6 g7 p q p _›).2.2.2))).mono ?_; rintro e w' ⟨rfl, hb⟩; have hks := S3.call (‹_ ∧ _ ∧ _ ∧ S3 w g5 g6 g7 p q p _›).2.2.2 hb)
          | (go_at_call_of 14 (Value.agg #[Value.int IntKind.i64 q.t, Value.int IntKind.i64 q.n, Value.string q.s]); refine (C6.out _ (S2.env (S3.two (‹_ ∧ _ ∧ _ ∧ S3 w g5 g6 g7 p q p _›).2.2.2))).mono ?_; rintro e w' ⟨rfl, hb⟩; have hks := S3.call (‹_ ∧ _ ∧ _ ∧ S3 w g5 g6 g7 p q p _›).2.2.2 hb)
          | (go_at_call 15; refine (known_any _ (S2.env (S3.two (‹_ ∧ _ ∧ _ ∧ S3 w g5 g6 g7 p q p _›).2.2.2))).mono ?_; rintro e w' ⟨rfl, hb⟩; have hks := S3.call (‹_ ∧ _ ∧ _ ∧ S3 w g5 g6 g7 p q p _›).2.2.2 hb))
      all_goals go_wp2
      all_goals go_ret
      all_goals exact ⟨rfl, hks.two.below⟩

set_option maxRecDepth 100000 in
theorem round_long_a (a b : V) (w : World) (ha : 80 < a.s.size) :
    Calls Tryd.prog 5 #[.agg #[.int .i64 a.t, .int .i64 a.n, .string a.s], .agg #[.int .i64 b.t, .int .i64 b.n, .string b.s]] w fun e w' => e = .returned (.bool true) ∧ Below w.heap.size w w' := by
  go_enter Tryd.func5, Tryd.ntmps5
  go_wp2
  go_ret
  exact ⟨rfl, ((Below.refl _ _).alloc (Nat.le_refl _) _).alloc (by simp) _⟩
set_option maxRecDepth 100000 in
theorem round_long_b (a b : V) (w : World) (ha : a.s.size ≤ 80) (hb : 80 < b.s.size) :
    Calls Tryd.prog 5 #[.agg #[.int .i64 a.t, .int .i64 a.n, .string a.s], .agg #[.int .i64 b.t, .int .i64 b.n, .string b.s]] w fun e w' => e = .returned (.bool true) ∧ Below w.heap.size w w' := by
  go_enter Tryd.func5, Tryd.ntmps5
  go_wp2
  go_ret
  exact ⟨rfl, ((Below.refl _ _).alloc (Nat.le_refl _) _).alloc (by simp) _⟩
theorem round_any (a b : V) (w : World) (hE : Env w) (han : -9223372036854775808 ≤ a.n ∧ a.n ≤ 9223372036854775807) (hbn : -9223372036854775808 ≤ b.n ∧ b.n ≤ 9223372036854775807) :
    Calls Tryd.prog 5 #[.agg #[.int .i64 a.t, .int .i64 a.n, .string a.s], .agg #[.int .i64 b.t, .int .i64 b.n, .string b.s]] w fun e w' => e = .returned (.bool true) ∧ Below w.heap.size w w' := by
  rcases Nat.lt_or_ge 80 a.s.size with ha | ha
  · exact round_long_a a b w ha
  rcases Nat.lt_or_ge 80 b.s.size with hb | hb
  · exact round_long_b a b w ha hb
  have hp := mkV_n a han
  have hq := mkV_n b hbn
  have vp := mkV_ok a
  have vq := mkV_ok b
  by_cases he : (mkV a).t = (mkV b).t ∧ (mkV a).n = (mkV b).n ∧ (mkV a).s = (mkV b).s
  · have e : mkV a = mkV b := by
      cases h1 : mkV a; cases h2 : mkV b
      rw [h1, h2] at he
      simp only at he
      obtain ⟨rfl, rfl, rfl⟩ := he
      rfl
    exact round_small a b w hE ha hb (mkV a) (mkV b) rfl rfl hp hq true (by rw [e]; simp) (by rw [e]; exact eql_same _ _ _)
  · exact round_small a b w hE ha hb (mkV a) (mkV b) rfl rfl hp hq false (by
      rw [beq_eq_false_iff_ne]
      exact fun e => he (fmt_inj vp vq hp.1 hp.2 hq.1 hq.2 e)) (eql_other _ _ _ _ _ _ he)
end Go.Proofs.YtpjfkhbdhdolfaaDoor
