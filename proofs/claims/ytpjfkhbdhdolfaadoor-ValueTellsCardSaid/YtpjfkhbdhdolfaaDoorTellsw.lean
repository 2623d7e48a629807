/-
  The law ValueTells, walked: for every two lists of values, every integer and every string it returns true.
-/
import Derived.Test.YtpjfkhbdhdolfaaDoorMonb
import Derived.Test.YtpjfkhbdhdolfaaDoorRefe
import Derived.Test.YtpjfkhbdhdolfaaDoorFits
import Derived.Test.YtpjfkhbdhdolfaaDoorKnown
namespace Go.Proofs.YtpjfkhbdhdolfaaDoor
open Go.RowKit

theorem valid_is {t n : Int} {s : ByteArray} {b : Bool} (h : validB t n s = b) (w : World) :
    Calls Tryd.prog 17 #[.agg #[.int .i64 t, .int .i64 n, .string s]] w fun e w' => e = .returned (.bool b) ∧ Below w.heap.size w w' := by subst h; exact valid_any t n s w
theorem refValid_is {t n : Int} {s : ByteArray} {b : Bool} (h : validB t n s = b) (w : World) (hs : s.size ≤ 9223372036854775807) :
    Calls Tryd.prog 19 #[.agg #[.int .i64 t, .int .i64 n, .string s]] w fun e w' => e = .returned (.bool b) ∧ Below w.heap.size w w' := by subst h; exact refValid_any t n s w hs
/-- What EncodeKey gives: the encoding, or nothing. -/
def encS (l : List V) : List UInt8 := if l.all V.ok = true then encL l else []
/-- A slice that reads as these bytes. -/
def IsB (W : World) (v : Value) (l : List UInt8) : Prop := ∃ A c, v = .slice A l.length c ∧ At W W.heap.size A (cellsB l)
theorem IsB.below {W W' : World} {v : Value} {l : List UInt8} (h : IsB W v l) (hb : Below W.heap.size W W') : IsB W' v l := by
  obtain ⟨A, c, e, h⟩ := h
  exact ⟨A, c, e, (h.below hb).more hb.size⟩
theorem isB_of_enc {l : List V} {w : World} {e : Ending} {w' : World} (h : EncPost l w e w') : ∃ v, e = .returned v ∧ IsB w' v (encS l) ∧ Below w.heap.size w w' := by
  obtain ⟨v, he, h1, h2, hb⟩ := h
  refine ⟨v, he, ?_, hb⟩
  unfold encS
  split
  · rename_i hok
    have ho := h1 hok
    obtain ⟨A, c, rfl⟩ := ho.slice
    exact ⟨A, c, rfl, ho.at_⟩
  · rename_i hok
    rw [h2 (by simpa using hok)]
    exact ⟨none, 0, rfl, At.nil _ _ _⟩
def TL6 (b1 o1 ca k : Nat) (a : List V) (v : V) : List (Value → World → Prop) := [
  fun r _ => r = .slice (some ⟨b1, o1, none⟩) a.length ca,
  fun r _ => r = .int .i64 (k : Int),
  fun r _ => r = .pointer (some ⟨b1, o1 + k * 3, none⟩),
  fun r _ => r = .agg #[.int .i64 v.t, .int .i64 v.n, .string v.s],
  fun r _ => r = .bool (validB v.t v.n v.s),
  fun r _ => r = .slice (some ⟨b1, o1, none⟩) a.length ca,
  fun r _ => r = .int .i64 (k : Int),
  fun r _ => r = .pointer (some ⟨b1, o1 + k * 3, none⟩),
  fun r _ => r = .agg #[.int .i64 v.t, .int .i64 v.n, .string v.s],
  fun r _ => r = .bool (validB v.t v.n v.s),
  fun r _ => r = .bool false,
  fun r _ => r = .bool false,
  fun r _ => r = .slice (some ⟨b1, o1, none⟩) a.length ca,
  fun r _ => r = .int .i64 (k : Int),
  fun r _ => r = .pointer (some ⟨b1, o1 + k * 3, none⟩),
  fun r _ => r = .agg #[.int .i64 v.t, .int .i64 v.n, .string v.s],
  fun r _ => r = .agg #[.int .i64 (mkV v).t, .int .i64 (mkV v).n, .string (mkV v).s],
  fun r _ => r = .bool true,
  fun r _ => r = .slice (some ⟨b1, o1, none⟩) a.length ca,
  fun r _ => r = .int .i64 (k : Int),
  fun r _ => r = .pointer (some ⟨b1, o1 + k * 3, none⟩),
  fun r _ => r = .agg #[.int .i64 v.t, .int .i64 v.n, .string v.s],
  fun r _ => r = .agg #[.int .i64 (mkV v).t, .int .i64 (mkV v).n, .string (mkV v).s],
  fun r _ => r = .bool true,
  fun r _ => r = .bool false,
  fun r _ => r = .bool false]
theorem TL6_stab (b1 o1 ca k : Nat) (a : List V) (v : V) (W0 : World) : Stab W0 (TL6 b1 o1 ca k a v) :=
  .eq <| .eq <| .eq <| .eq <| .eq <| .eq <| .eq <| .eq <| .eq <| .eq <| .eq <| .eq <| .eq <| .eq <| .eq <| .eq <| .eq <| .eq <| .eq <| .eq <| .eq <| .eq <| .eq <| .eq <| .eq <| .eq <| .nil
def TL11 (b1 o1 ca k b2 o2 cb j : Nat) (a b : List V) (v u : V) : List (Value → World → Prop) := [
  fun r _ => r = .slice (some ⟨b1, o1, none⟩) a.length ca,
  fun r _ => r = .int .i64 (k : Int),
  fun r _ => r = .pointer (some ⟨b1, o1 + k * 3, none⟩),
  fun r _ => r = .agg #[.int .i64 v.t, .int .i64 v.n, .string v.s],
  fun r _ => r = .slice (some ⟨b2, o2, none⟩) b.length cb,
  fun r _ => r = .int .i64 (j : Int),
  fun r _ => r = .pointer (some ⟨b2, o2 + j * 3, none⟩),
  fun r _ => r = .agg #[.int .i64 u.t, .int .i64 u.n, .string u.s],
  fun r _ => r = .int .i64 (cmpV v.t v.n v.s u.t u.n u.s),
  fun r _ => r = .slice (some ⟨b1, o1, none⟩) a.length ca,
  fun r _ => r = .int .i64 (k : Int),
  fun r _ => r = .pointer (some ⟨b1, o1 + k * 3, none⟩),
  fun r _ => r = .agg #[.int .i64 v.t, .int .i64 v.n, .string v.s],
  fun r _ => r = .slice (some ⟨b2, o2, none⟩) b.length cb,
  fun r _ => r = .int .i64 (j : Int),
  fun r _ => r = .pointer (some ⟨b2, o2 + j * 3, none⟩),
  fun r _ => r = .agg #[.int .i64 u.t, .int .i64 u.n, .string u.s],
  fun r _ => r = .int .i64 (cmpV v.t v.n v.s u.t u.n u.s),
  fun r _ => r = .bool false]
theorem TL11_stab (b1 o1 ca k b2 o2 cb j : Nat) (a b : List V) (v u : V) (W0 : World) : Stab W0 (TL11 b1 o1 ca k b2 o2 cb j a b v u) :=
  .eq <| .eq <| .eq <| .eq <| .eq <| .eq <| .eq <| .eq <| .eq <| .eq <| .eq <| .eq <| .eq <| .eq <| .eq <| .eq <| .eq <| .eq <| .eq <| .nil
def TL14 (A B Ap Aq : Option Addr) (ca cb cp cq : Nat) (a b p q : List V) (n : Int) (s : ByteArray) : List (Value → World → Prop) := [
  fun r _ => r = .int .i64 n,
  fun r _ => r = .agg #[.int .i64 1, .int .i64 n, .string ⟨#[]⟩],
  fun r _ => r = .int .i64 n,
  fun r _ => r = .agg #[.int .i64 1, .int .i64 n, .string ⟨#[]⟩],
  fun r _ => r = .bool true,
  fun r _ => r = .bool true,
  fun r _ => r = .string s,
  fun r _ => r = .agg #[.int .i64 2, .int .i64 0, .string s],
  fun r _ => r = .string s,
  fun r _ => r = .agg #[.int .i64 2, .int .i64 0, .string s],
  fun r _ => r = .bool true,
  fun r _ => r = .bool true,
  fun r _ => r = .bool true,
  fun r _ => r = .slice A a.length ca,
  fun r _ => r = .slice B b.length cb,
  fun r _ => r = .int .i64 (cmpL a b),
  fun r _ => r = .slice A a.length ca,
  fun r _ => r = .slice B b.length cb,
  fun r _ => r = .int .i64 (cmpL a b),
  fun r _ => r = .bool true,
  fun r _ => r = .bool true,
  fun r _ => r = .bool true,
  fun r _ => r = .slice Ap p.length cp,
  fun r _ => r = .slice Aq q.length cq,
  fun r _ => r = .int .i64 (cmpL p q),
  fun r _ => r = .slice Ap p.length cp,
  fun r _ => r = .slice Aq q.length cq,
  fun r _ => r = .int .i64 (cmpL p q),
  fun r _ => r = .bool true,
  fun r _ => r = .bool true,
  fun r _ => r = .bool true,
  fun r _ => r = .slice A a.length ca,
  fun r W => IsB W r (encS a),
  fun r _ => r = .string ⟨(encS a).toArray⟩,
  fun r _ => r = .slice A a.length ca,
  fun r W => IsB W r (encS a),
  fun r _ => r = .string ⟨(encS a).toArray⟩,
  fun r _ => r = .bool true,
  fun r _ => r = .bool true,
  fun r _ => r = .bool true,
  fun r _ => r = .slice Ap p.length cp,
  fun r W => IsB W r (encS p),
  fun r _ => r = .string ⟨(encS p).toArray⟩,
  fun r _ => r = .slice Ap p.length cp,
  fun r W => IsB W r (encS p),
  fun r _ => r = .string ⟨(encS p).toArray⟩,
  fun r _ => r = .bool true,
  fun r _ => r = .bool true,
  fun r _ => r = .bool true,
  fun r _ => r = .bool true,
  fun r _ => r = .bool true,
  fun r _ => r = .bool true]
theorem TL14_stab (A B Ap Aq : Option Addr) (ca cb cp cq : Nat) (a b p q : List V) (n : Int) (s : ByteArray) (W0 : World) : Stab W0 (TL14 A B Ap Aq ca cb cp cq a b p q n s) :=
  .eq <| .eq <| .eq <| .eq <| .eq <| .eq <| .eq <| .eq <| .eq <| .eq <| .eq <| .eq <| .eq <| .eq <| .eq <| .eq <| .eq <| .eq <| .eq <| .eq <| .eq <| .eq <| .eq <| .eq <| .eq <| .eq <| .eq <| .eq <| .eq <| .eq <| .eq <| .eq <| .cons (fun _ _ _ _ h hb => h.below hb) <| .eq <| .eq <| .cons (fun _ _ _ _ h hb => h.below hb) <| .eq <| .eq <| .eq <| .eq <| .eq <| .cons (fun _ _ _ _ h hb => h.below hb) <| .eq <| .eq <| .cons (fun _ _ _ _ h hb => h.below hb) <| .eq <| .eq <| .eq <| .eq <| .eq <| .eq <| .eq <| .nil

theorem mk_size (v : V) : (mkV v).s.size ≤ 9223372036854775807 := by
  have h := mkV_ok v
  unfold mkV at h ⊢
  split
  · simp [ByteArray.size]
  · have h1 : (mkS v.s.data.toList).length ≤ 64 := by simp [mkS]; omega
    simp only [ByteArray.size, List.size_toArray]; omega

theorem mk_ranges {l : List V} (h : ∀ v ∈ l, -9223372036854775808 ≤ v.n ∧ v.n ≤ 9223372036854775807) : ∀ v ∈ l.map mkV, -9223372036854775808 ≤ v.n ∧ v.n ≤ 9223372036854775807 := by
  intro v hv
  simp only [List.mem_map] at hv
  obtain ⟨u, hu, rfl⟩ := hv
  exact mkV_n u (h u hu)
theorem mk_sizes (l : List V) : ∀ v ∈ l.map mkV, v.s.size ≤ 9223372036854775807 := by
  intro v hv
  simp only [List.mem_map] at hv
  obtain ⟨u, hu, rfl⟩ := hv
  exact mk_size u
def TellsPost (w : World) (e : Ending) (w' : World) : Prop := e = .returned (.bool true) ∧ Below w.heap.size w w'
set_option maxRecDepth 100000 in
set_option maxHeartbeats 4000000 in
theorem tells_main (A B : Option Addr) (ca cb : Nat) (a b : List V) (n : Int) (s : ByteArray) (w : World) (hA : At w w.heap.size A (cellsV a)) (hB : At w w.heap.size B (cellsV b)) (hE : Env w)
    (hra : ∀ v ∈ a, -9223372036854775808 ≤ v.n ∧ v.n ≤ 9223372036854775807) (hsa : ∀ v ∈ a, v.s.size ≤ 9223372036854775807) (hfa : fitsB a = true) (hfb : fitsB b = true) (hs : s.size ≤ 100) :
    Calls Tryd.prog 6 #[.slice A a.length ca, .slice B b.length cb, .int .i64 n, .string s] w (TellsPost w) := by
  have hla : a.length ≤ 8 := by simp [fitsB] at hfa; exact hfa.1
  have hlb : b.length ≤ 8 := by simp [fitsB] at hfb; exact hfb.1
  have HFA := Lib.hid (fits_any A ca a w hA (by omega))
  have HFB := Lib.hid (fits_any B cb b w hB (by omega))
  rw [hfa] at HFA
  rw [hfb] at HFB
  have HA := Lib.hid hA
  have HB := Lib.hid hB
  have HE := Lib.hid hE
  have HRA := Lib.hid hra
  have HSA := Lib.hid hsa
  clear hA hB hE hra hsa hfa hfb
  go_enter Tryd.func6, Tryd.ntmps6
  go_wp2_with fail
  refine HFA.out.mono ?_
  rintro e w' ⟨rfl, rfl⟩
  go_wp2_with fail
  refine HFB.out.mono ?_
  rintro e w' ⟨rfl, rfl⟩
  go_wp2
  go_loopw [9] (fun i wr => ∃ k : Nat, k ≤ a.length ∧ i = .int .i64 k ∧ Below w.heap.size w wr) (fun i _ => a.length - (intOf i).toNat)
  case atStart => exact ⟨0, Nat.zero_le _, rfl, Below.refl _ _⟩
  case round =>
    obtain ⟨k, hk, rfl, hbw⟩ := hrel
    have HBW := Lib.hid hbw
    have hsz := hbw.size
    clear hbw
    by_cases hlt : k < a.length
    · obtain ⟨b1, o1, rfl, hbc, c0, c1, c2⟩ := (HA.out.below HBW.out).val hlt
      have hbc : b1 < wr.heap.size := by omega
      have HRV := Lib.hid (HRA.out a[k] (List.getElem_mem hlt))
      have hsv := HSA.out a[k] (List.getElem_mem hlt)
      generalize a[k] = v at c0 c1 c2 HRV hsv
      have hok := mkV_ok v
      have hsu := mk_size v
      have C0 := Lib.hid c0
      have C1 := Lib.hid c1
      have C2 := Lib.hid c2
      have HOK := Lib.hid hok
      clear c0 c1 c2 hok
      go_wp2
      have hok := HOK.out
      unfold V.ok at hok
      have c0 := C0.out
      have c1 := C1.out
      have c2 := C2.out
      refine wp_region_below [some 32, some 33, some 34, some 35, some 36, some 37, some 38, some 39, some 40, some 41, some 42, some 43, some 44, some 45, some 46, some 47, some 48, some 49, some 50, some 51, some 52, some 53, some 54, some 55, some 56, some 57] (TL6 b1 o1 ca k a v) (by kernel_rfl) (by kernel_rfl) (by rfl) (by rfl) (TL6_stab b1 o1 ca k a v _) ?_ ?_
      ·
        refine Steps.cons trivial (fun T W hg => ?_) ?_
        · have e0 : T 0 = .slice (some ⟨b1, o1, none⟩) a.length ca := hg.keep 0 (by rfl)
          have hwi := hg.wi
          clear hg
          refine OpRuns.of_ok (v := .slice (some ⟨b1, o1, none⟩) a.length ca) (W' := W) ?_ ⟨rfl, Below.refl _ _⟩
          simp only [execOp, evT, e0]
          go_simp
        refine Steps.cons trivial (fun T W hg => ?_) ?_
        · have e9 : T 9 = .int .i64 (k : Int) := hg.keep 9 (by rfl)
          have hwi := hg.wi
          clear hg
          refine OpRuns.of_ok (v := .int .i64 (k : Int)) (W' := W) ?_ ⟨rfl, Below.refl _ _⟩
          simp only [execOp, evT, e9]
          go_simp
        refine Steps.cons trivial (fun T W hg => ?_) ?_
        · have e32 : T 32 = .slice (some ⟨b1, o1, none⟩) a.length ca := hg.fact 1 0 32 (by kernel_rfl)
          have e33 : T 33 = .int .i64 (k : Int) := hg.fact 1 1 33 (by kernel_rfl)
          have hwi := hg.wi
          clear hg
          refine OpRuns.of_ok (v := .pointer (some ⟨b1, o1 + k * 3, none⟩)) (W' := W) ?_ ⟨rfl, Below.refl _ _⟩
          simp only [execOp, evT, e32, e33]
          go_simp
        refine Steps.cons trivial (fun T W hg => ?_) ?_
        · have e34 : T 34 = .pointer (some ⟨b1, o1 + k * 3, none⟩) := hg.fact 1 2 34 (by kernel_rfl)
          have hwi := hg.wi
          clear hg
          refine OpRuns.of_ok (v := .agg #[.int .i64 v.t, .int .i64 v.n, .string v.s]) (W' := W) ?_ ⟨rfl, Below.refl _ _⟩
          have c0' := (hwi.cell (p := ⟨b1, o1 + k * 3, none⟩) hbc).trans c0
          have c1' := (hwi.cell (p := ⟨b1, o1 + k * 3 + 1, none⟩) hbc).trans c1
          have c2' := (hwi.cell (p := ⟨b1, o1 + k * 3 + 2, none⟩) hbc).trans c2
          simp only [execOp, evT, e34]
          go_simp
        refine Steps.cons trivial (fun T W hg => ?_) ?_
        · have e35 : T 35 = .agg #[.int .i64 v.t, .int .i64 v.n, .string v.s] := hg.fact 1 3 35 (by kernel_rfl)
          have hwi := hg.wi
          clear hg
          refine OpRuns.of_call ?_ ((valid_any v.t v.n v.s _).mono fun e W' ⟨he, hb⟩ => ⟨_, he, rfl, hb⟩)
          simp only [execOp, resolve, invoke, List.map_toArray, List.map_cons, List.map_nil, evT, e35]
          go_simp
        refine Steps.cons trivial (fun T W hg => ?_) ?_
        · have e0 : T 0 = .slice (some ⟨b1, o1, none⟩) a.length ca := hg.keep 0 (by rfl)
          have hwi := hg.wi
          clear hg
          refine OpRuns.of_ok (v := .slice (some ⟨b1, o1, none⟩) a.length ca) (W' := W) ?_ ⟨rfl, Below.refl _ _⟩
          simp only [execOp, evT, e0]
          go_simp
        refine Steps.cons trivial (fun T W hg => ?_) ?_
        · have e9 : T 9 = .int .i64 (k : Int) := hg.keep 9 (by rfl)
          have hwi := hg.wi
          clear hg
          refine OpRuns.of_ok (v := .int .i64 (k : Int)) (W' := W) ?_ ⟨rfl, Below.refl _ _⟩
          simp only [execOp, evT, e9]
          go_simp
        refine Steps.cons trivial (fun T W hg => ?_) ?_
        · have e37 : T 37 = .slice (some ⟨b1, o1, none⟩) a.length ca := hg.fact 1 5 37 (by kernel_rfl)
          have e38 : T 38 = .int .i64 (k : Int) := hg.fact 1 6 38 (by kernel_rfl)
          have hwi := hg.wi
          clear hg
          refine OpRuns.of_ok (v := .pointer (some ⟨b1, o1 + k * 3, none⟩)) (W' := W) ?_ ⟨rfl, Below.refl _ _⟩
          simp only [execOp, evT, e37, e38]
          go_simp
        refine Steps.cons trivial (fun T W hg => ?_) ?_
        · have e39 : T 39 = .pointer (some ⟨b1, o1 + k * 3, none⟩) := hg.fact 1 7 39 (by kernel_rfl)
          have hwi := hg.wi
          clear hg
          refine OpRuns.of_ok (v := .agg #[.int .i64 v.t, .int .i64 v.n, .string v.s]) (W' := W) ?_ ⟨rfl, Below.refl _ _⟩
          have c0' := (hwi.cell (p := ⟨b1, o1 + k * 3, none⟩) hbc).trans c0
          have c1' := (hwi.cell (p := ⟨b1, o1 + k * 3 + 1, none⟩) hbc).trans c1
          have c2' := (hwi.cell (p := ⟨b1, o1 + k * 3 + 2, none⟩) hbc).trans c2
          simp only [execOp, evT, e39]
          go_simp
        refine Steps.cons trivial (fun T W hg => ?_) ?_
        · have e40 : T 40 = .agg #[.int .i64 v.t, .int .i64 v.n, .string v.s] := hg.fact 1 8 40 (by kernel_rfl)
          have hwi := hg.wi
          clear hg
          refine OpRuns.of_call ?_ ((refValid_any v.t v.n v.s _ hsv).mono fun e W' ⟨he, hb⟩ => ⟨_, he, rfl, hb⟩)
          simp only [execOp, resolve, invoke, List.map_toArray, List.map_cons, List.map_nil, evT, e40]
          go_simp
        refine Steps.cons trivial (fun T W hg => ?_) ?_
        · have e36 : T 36 = .bool (validB v.t v.n v.s) := hg.fact 1 4 36 (by kernel_rfl)
          have e41 : T 41 = .bool (validB v.t v.n v.s) := hg.fact 1 9 41 (by kernel_rfl)
          have hwi := hg.wi
          clear hg
          refine OpRuns.of_ok (v := .bool false) (W' := W) ?_ ⟨rfl, Below.refl _ _⟩
          simp only [execOp, evT, e36, e41]
          go_simp
        refine Steps.cons trivial (fun T W hg => ?_) ?_
        · have e42 : T 42 = .bool false := hg.fact 1 10 42 (by kernel_rfl)
          have hwi := hg.wi
          clear hg
          refine OpRuns.of_ok (v := .bool false) (W' := W) ?_ ⟨rfl, Below.refl _ _⟩
          simp only [execOp, evT, e42]
          go_simp
        refine Steps.cons ⟨1, 43, by kernel_rfl, fun _ _ h => h⟩ (fun T W hg => ?_) ?_
        · have e0 : T 0 = .slice (some ⟨b1, o1, none⟩) a.length ca := hg.keep 0 (by rfl)
          have hwi := hg.wi
          clear hg
          refine OpRuns.of_ok (v := .slice (some ⟨b1, o1, none⟩) a.length ca) (W' := W) ?_ ⟨rfl, Below.refl _ _⟩
          simp only [execOp, evT, e0]
          go_simp
        refine Steps.cons ⟨1, 43, by kernel_rfl, fun _ _ h => h⟩ (fun T W hg => ?_) ?_
        · have e9 : T 9 = .int .i64 (k : Int) := hg.keep 9 (by rfl)
          have hwi := hg.wi
          clear hg
          refine OpRuns.of_ok (v := .int .i64 (k : Int)) (W' := W) ?_ ⟨rfl, Below.refl _ _⟩
          simp only [execOp, evT, e9]
          go_simp
        refine Steps.cons ⟨1, 43, by kernel_rfl, fun _ _ h => h⟩ (fun T W hg => ?_) ?_
        · have e44 : T 44 = .slice (some ⟨b1, o1, none⟩) a.length ca := hg.fact 1 12 44 (by kernel_rfl)
          have e45 : T 45 = .int .i64 (k : Int) := hg.fact 1 13 45 (by kernel_rfl)
          have hwi := hg.wi
          clear hg
          refine OpRuns.of_ok (v := .pointer (some ⟨b1, o1 + k * 3, none⟩)) (W' := W) ?_ ⟨rfl, Below.refl _ _⟩
          simp only [execOp, evT, e44, e45]
          go_simp
        refine Steps.cons ⟨1, 43, by kernel_rfl, fun _ _ h => h⟩ (fun T W hg => ?_) ?_
        · have e46 : T 46 = .pointer (some ⟨b1, o1 + k * 3, none⟩) := hg.fact 1 14 46 (by kernel_rfl)
          have hwi := hg.wi
          clear hg
          refine OpRuns.of_ok (v := .agg #[.int .i64 v.t, .int .i64 v.n, .string v.s]) (W' := W) ?_ ⟨rfl, Below.refl _ _⟩
          have c0' := (hwi.cell (p := ⟨b1, o1 + k * 3, none⟩) hbc).trans c0
          have c1' := (hwi.cell (p := ⟨b1, o1 + k * 3 + 1, none⟩) hbc).trans c1
          have c2' := (hwi.cell (p := ⟨b1, o1 + k * 3 + 2, none⟩) hbc).trans c2
          simp only [execOp, evT, e46]
          go_simp
        refine Steps.cons ⟨1, 43, by kernel_rfl, fun _ _ h => h⟩ (fun T W hg => ?_) ?_
        · have e47 : T 47 = .agg #[.int .i64 v.t, .int .i64 v.n, .string v.s] := hg.fact 1 15 47 (by kernel_rfl)
          have hwi := hg.wi
          clear hg
          refine OpRuns.of_call ?_ ((mk_any v _).mono fun e W' ⟨he, hb⟩ => ⟨_, he, rfl, hb⟩)
          simp only [execOp, resolve, invoke, List.map_toArray, List.map_cons, List.map_nil, evT, e47]
          go_simp
        refine Steps.cons ⟨1, 43, by kernel_rfl, fun _ _ h => h⟩ (fun T W hg => ?_) ?_
        · have e48 : T 48 = .agg #[.int .i64 (mkV v).t, .int .i64 (mkV v).n, .string (mkV v).s] := hg.fact 1 16 48 (by kernel_rfl)
          have hwi := hg.wi
          clear hg
          refine OpRuns.of_call ?_ ((valid_is hok _).mono fun e W' ⟨he, hb⟩ => ⟨_, he, rfl, hb⟩)
          simp only [execOp, resolve, invoke, List.map_toArray, List.map_cons, List.map_nil, evT, e48]
          go_simp
        refine Steps.cons ⟨1, 43, by kernel_rfl, fun _ _ h => h⟩ (fun T W hg => ?_) ?_
        · have e0 : T 0 = .slice (some ⟨b1, o1, none⟩) a.length ca := hg.keep 0 (by rfl)
          have hwi := hg.wi
          clear hg
          refine OpRuns.of_ok (v := .slice (some ⟨b1, o1, none⟩) a.length ca) (W' := W) ?_ ⟨rfl, Below.refl _ _⟩
          simp only [execOp, evT, e0]
          go_simp
        refine Steps.cons ⟨1, 43, by kernel_rfl, fun _ _ h => h⟩ (fun T W hg => ?_) ?_
        · have e9 : T 9 = .int .i64 (k : Int) := hg.keep 9 (by rfl)
          have hwi := hg.wi
          clear hg
          refine OpRuns.of_ok (v := .int .i64 (k : Int)) (W' := W) ?_ ⟨rfl, Below.refl _ _⟩
          simp only [execOp, evT, e9]
          go_simp
        refine Steps.cons ⟨1, 43, by kernel_rfl, fun _ _ h => h⟩ (fun T W hg => ?_) ?_
        · have e50 : T 50 = .slice (some ⟨b1, o1, none⟩) a.length ca := hg.fact 1 18 50 (by kernel_rfl)
          have e51 : T 51 = .int .i64 (k : Int) := hg.fact 1 19 51 (by kernel_rfl)
          have hwi := hg.wi
          clear hg
          refine OpRuns.of_ok (v := .pointer (some ⟨b1, o1 + k * 3, none⟩)) (W' := W) ?_ ⟨rfl, Below.refl _ _⟩
          simp only [execOp, evT, e50, e51]
          go_simp
        refine Steps.cons ⟨1, 43, by kernel_rfl, fun _ _ h => h⟩ (fun T W hg => ?_) ?_
        · have e52 : T 52 = .pointer (some ⟨b1, o1 + k * 3, none⟩) := hg.fact 1 20 52 (by kernel_rfl)
          have hwi := hg.wi
          clear hg
          refine OpRuns.of_ok (v := .agg #[.int .i64 v.t, .int .i64 v.n, .string v.s]) (W' := W) ?_ ⟨rfl, Below.refl _ _⟩
          have c0' := (hwi.cell (p := ⟨b1, o1 + k * 3, none⟩) hbc).trans c0
          have c1' := (hwi.cell (p := ⟨b1, o1 + k * 3 + 1, none⟩) hbc).trans c1
          have c2' := (hwi.cell (p := ⟨b1, o1 + k * 3 + 2, none⟩) hbc).trans c2
          simp only [execOp, evT, e52]
          go_simp
        refine Steps.cons ⟨1, 43, by kernel_rfl, fun _ _ h => h⟩ (fun T W hg => ?_) ?_
        · have e53 : T 53 = .agg #[.int .i64 v.t, .int .i64 v.n, .string v.s] := hg.fact 1 21 53 (by kernel_rfl)
          have hwi := hg.wi
          clear hg
          refine OpRuns.of_call ?_ ((mk_any v _).mono fun e W' ⟨he, hb⟩ => ⟨_, he, rfl, hb⟩)
          simp only [execOp, resolve, invoke, List.map_toArray, List.map_cons, List.map_nil, evT, e53]
          go_simp
        refine Steps.cons ⟨1, 43, by kernel_rfl, fun _ _ h => h⟩ (fun T W hg => ?_) ?_
        · have e54 : T 54 = .agg #[.int .i64 (mkV v).t, .int .i64 (mkV v).n, .string (mkV v).s] := hg.fact 1 22 54 (by kernel_rfl)
          have hwi := hg.wi
          clear hg
          refine OpRuns.of_call ?_ ((refValid_is hok _ hsu).mono fun e W' ⟨he, hb⟩ => ⟨_, he, rfl, hb⟩)
          simp only [execOp, resolve, invoke, List.map_toArray, List.map_cons, List.map_nil, evT, e54]
          go_simp
        refine Steps.cons ⟨1, 43, by kernel_rfl, fun _ _ h => h⟩ (fun T W hg => ?_) ?_
        · have e49 : T 49 = .bool true := hg.fact 1 17 49 (by kernel_rfl)
          have e55 : T 55 = .bool true := hg.fact 1 23 55 (by kernel_rfl)
          have hwi := hg.wi
          clear hg
          refine OpRuns.of_ok (v := .bool false) (W' := W) ?_ ⟨rfl, Below.refl _ _⟩
          simp only [execOp, evT, e49, e55]
          go_simp
        refine Steps.cons trivial (fun T W hg => ?_) ?_
        · have e43 : T 43 = .bool false := hg.fact 1 11 43 (by kernel_rfl)
          have e56 : T 56 = .bool false := hg.fact 1 24 56 (by kernel_rfl)
          have hwi := hg.wi
          clear hg
          refine OpRuns.of_ok (v := .bool false) (W' := W) ?_ ⟨rfl, Below.refl _ _⟩
          simp only [execOp, evT, e43, e56]
          go_simp
        exact Steps.nil
      · intro us W1 hlen hF hb
        obtain ⟨y0, us0, rfl, hl0⟩ := len_cons hlen
        clear hlen
        obtain ⟨y1, us1, rfl, hl1⟩ := len_cons hl0
        clear hl0
        obtain ⟨y2, us2, rfl, hl2⟩ := len_cons hl1
        clear hl1
        obtain ⟨y3, us3, rfl, hl3⟩ := len_cons hl2
        clear hl2
        obtain ⟨y4, us4, rfl, hl4⟩ := len_cons hl3
        clear hl3
        obtain ⟨y5, us5, rfl, hl5⟩ := len_cons hl4
        clear hl4
        obtain ⟨y6, us6, rfl, hl6⟩ := len_cons hl5
        clear hl5
        obtain ⟨y7, us7, rfl, hl7⟩ := len_cons hl6
        clear hl6
        obtain ⟨y8, us8, rfl, hl8⟩ := len_cons hl7
        clear hl7
        obtain ⟨y9, us9, rfl, hl9⟩ := len_cons hl8
        clear hl8
        obtain ⟨y10, us10, rfl, hl10⟩ := len_cons hl9
        clear hl9
        obtain ⟨y11, us11, rfl, hl11⟩ := len_cons hl10
        clear hl10
        obtain ⟨y12, us12, rfl, hl12⟩ := len_cons hl11
        clear hl11
        obtain ⟨y13, us13, rfl, hl13⟩ := len_cons hl12
        clear hl12
        obtain ⟨y14, us14, rfl, hl14⟩ := len_cons hl13
        clear hl13
        obtain ⟨y15, us15, rfl, hl15⟩ := len_cons hl14
        clear hl14
        obtain ⟨y16, us16, rfl, hl16⟩ := len_cons hl15
        clear hl15
        obtain ⟨y17, us17, rfl, hl17⟩ := len_cons hl16
        clear hl16
        obtain ⟨y18, us18, rfl, hl18⟩ := len_cons hl17
        clear hl17
        obtain ⟨y19, us19, rfl, hl19⟩ := len_cons hl18
        clear hl18
        obtain ⟨y20, us20, rfl, hl20⟩ := len_cons hl19
        clear hl19
        obtain ⟨y21, us21, rfl, hl21⟩ := len_cons hl20
        clear hl20
        obtain ⟨y22, us22, rfl, hl22⟩ := len_cons hl21
        clear hl21
        obtain ⟨y23, us23, rfl, hl23⟩ := len_cons hl22
        clear hl22
        obtain ⟨y24, us24, rfl, hl24⟩ := len_cons hl23
        clear hl23
        obtain ⟨y25, us25, rfl, hl25⟩ := len_cons hl24
        clear hl24
        obtain rfl := len_nil hl25
        clear hl25
        have f25 : y25 = .bool false := hF 25 (by decide)
        clear hF
        subst f25
        simp only [updO, List.zip_cons_cons, List.zip_nil_right, List.setIfInBounds_toArray, List.set_cons_succ, List.set_cons_zero]
        have HB1 := Lib.hid hb
        clear hb hok hsu c0 c1 c2
        go_wp2
        clear hsv HRV C0 C1 C2 HOK
        obtain ⟨wo, hwo⟩ : ∃ wo : World, wo = wr := ⟨_, rfl⟩
        subst hwo
        go_loopw [10] (fun i w' => ∃ j : Nat, j ≤ b.length ∧ i = .int .i64 j ∧ Below w.heap.size w w') (fun i _ => b.length - (intOf i).toNat)
        case atStart => exact ⟨0, Nat.zero_le _, rfl, HBW.out.trans (HB1.out.mono hsz)⟩
        case round =>
          obtain ⟨j, hj, rfl, hbj⟩ := hrel
          have HBJ := Lib.hid hbj
          have hszj := hbj.size
          clear hbj
          by_cases hltj : j < b.length
          · obtain ⟨b1', o1', e1, hbc', c0, c1, c2⟩ := (HA.out.below HBJ.out).val hlt
            cases e1
            obtain ⟨b2, o2, rfl, hbd, d0, d1, d2⟩ := (HB.out.below HBJ.out).val hltj
            have hbc : b1 < wr.heap.size := by omega
            have hbd : b2 < wr.heap.size := by omega
            clear hbc'
            generalize a[k] = v at c0 c1 c2
            generalize b[j] = u at d0 d1 d2
            have C0 := Lib.hid c0
            have C1 := Lib.hid c1
            have C2 := Lib.hid c2
            have D0 := Lib.hid d0
            have D1 := Lib.hid d1
            have D2 := Lib.hid d2
            clear c0 c1 c2 d0 d1 d2
            go_wp2
            have c0 := C0.out
            have c1 := C1.out
            have c2 := C2.out
            have d0 := D0.out
            have d1 := D1.out
            have d2 := D2.out
            refine wp_region_below [some 64, some 65, some 66, some 67, some 68, some 69, some 70, some 71, some 72, some 73, some 74, some 75, some 76, some 77, some 78, some 79, some 80, some 81, some 82] (TL11 b1 o1 ca k b2 o2 cb j a b v u) (by kernel_rfl) (by kernel_rfl) (by rfl) (by rfl) (TL11_stab b1 o1 ca k b2 o2 cb j a b v u _) ?_ ?_
            ·
              refine Steps.cons trivial (fun T W hg => ?_) ?_
              · have e0 : T 0 = .slice (some ⟨b1, o1, none⟩) a.length ca := hg.keep 0 (by rfl)
                have hwi := hg.wi
                clear hg
                refine OpRuns.of_ok (v := .slice (some ⟨b1, o1, none⟩) a.length ca) (W' := W) ?_ ⟨rfl, Below.refl _ _⟩
                simp only [execOp, evT, e0]
                go_simp
              refine Steps.cons trivial (fun T W hg => ?_) ?_
              · have e9 : T 9 = .int .i64 (k : Int) := hg.keep 9 (by rfl)
                have hwi := hg.wi
                clear hg
                refine OpRuns.of_ok (v := .int .i64 (k : Int)) (W' := W) ?_ ⟨rfl, Below.refl _ _⟩
                simp only [execOp, evT, e9]
                go_simp
              refine Steps.cons trivial (fun T W hg => ?_) ?_
              · have e64 : T 64 = .slice (some ⟨b1, o1, none⟩) a.length ca := hg.fact 1 0 64 (by kernel_rfl)
                have e65 : T 65 = .int .i64 (k : Int) := hg.fact 1 1 65 (by kernel_rfl)
                have hwi := hg.wi
                clear hg
                refine OpRuns.of_ok (v := .pointer (some ⟨b1, o1 + k * 3, none⟩)) (W' := W) ?_ ⟨rfl, Below.refl _ _⟩
                simp only [execOp, evT, e64, e65]
                go_simp
              refine Steps.cons trivial (fun T W hg => ?_) ?_
              · have e66 : T 66 = .pointer (some ⟨b1, o1 + k * 3, none⟩) := hg.fact 1 2 66 (by kernel_rfl)
                have hwi := hg.wi
                clear hg
                refine OpRuns.of_ok (v := .agg #[.int .i64 v.t, .int .i64 v.n, .string v.s]) (W' := W) ?_ ⟨rfl, Below.refl _ _⟩
                have c0' := (hwi.cell (p := ⟨b1, o1 + k * 3, none⟩) hbc).trans c0
                have c1' := (hwi.cell (p := ⟨b1, o1 + k * 3 + 1, none⟩) hbc).trans c1
                have c2' := (hwi.cell (p := ⟨b1, o1 + k * 3 + 2, none⟩) hbc).trans c2
                simp only [execOp, evT, e66]
                go_simp
              refine Steps.cons trivial (fun T W hg => ?_) ?_
              · have e1 : T 1 = .slice (some ⟨b2, o2, none⟩) b.length cb := hg.keep 1 (by rfl)
                have hwi := hg.wi
                clear hg
                refine OpRuns.of_ok (v := .slice (some ⟨b2, o2, none⟩) b.length cb) (W' := W) ?_ ⟨rfl, Below.refl _ _⟩
                simp only [execOp, evT, e1]
                go_simp
              refine Steps.cons trivial (fun T W hg => ?_) ?_
              · have e10 : T 10 = .int .i64 (j : Int) := hg.keep 10 (by rfl)
                have hwi := hg.wi
                clear hg
                refine OpRuns.of_ok (v := .int .i64 (j : Int)) (W' := W) ?_ ⟨rfl, Below.refl _ _⟩
                simp only [execOp, evT, e10]
                go_simp
              refine Steps.cons trivial (fun T W hg => ?_) ?_
              · have e68 : T 68 = .slice (some ⟨b2, o2, none⟩) b.length cb := hg.fact 1 4 68 (by kernel_rfl)
                have e69 : T 69 = .int .i64 (j : Int) := hg.fact 1 5 69 (by kernel_rfl)
                have hwi := hg.wi
                clear hg
                refine OpRuns.of_ok (v := .pointer (some ⟨b2, o2 + j * 3, none⟩)) (W' := W) ?_ ⟨rfl, Below.refl _ _⟩
                simp only [execOp, evT, e68, e69]
                go_simp
              refine Steps.cons trivial (fun T W hg => ?_) ?_
              · have e70 : T 70 = .pointer (some ⟨b2, o2 + j * 3, none⟩) := hg.fact 1 6 70 (by kernel_rfl)
                have hwi := hg.wi
                clear hg
                refine OpRuns.of_ok (v := .agg #[.int .i64 u.t, .int .i64 u.n, .string u.s]) (W' := W) ?_ ⟨rfl, Below.refl _ _⟩
                have c0' := (hwi.cell (p := ⟨b2, o2 + j * 3, none⟩) hbd).trans d0
                have c1' := (hwi.cell (p := ⟨b2, o2 + j * 3 + 1, none⟩) hbd).trans d1
                have c2' := (hwi.cell (p := ⟨b2, o2 + j * 3 + 2, none⟩) hbd).trans d2
                simp only [execOp, evT, e70]
                go_simp
              refine Steps.cons trivial (fun T W hg => ?_) ?_
              · have e67 : T 67 = .agg #[.int .i64 v.t, .int .i64 v.n, .string v.s] := hg.fact 1 3 67 (by kernel_rfl)
                have e71 : T 71 = .agg #[.int .i64 u.t, .int .i64 u.n, .string u.s] := hg.fact 1 7 71 (by kernel_rfl)
                have hwi := hg.wi
                clear hg
                refine OpRuns.of_call ?_ ((compare_any v.t v.n v.s u.t u.n u.s _).mono fun e W' ⟨he, hb⟩ => ⟨_, he, rfl, hb⟩)
                simp only [execOp, resolve, invoke, List.map_toArray, List.map_cons, List.map_nil, evT, e67, e71]
                go_simp
              refine Steps.cons trivial (fun T W hg => ?_) ?_
              · have e0 : T 0 = .slice (some ⟨b1, o1, none⟩) a.length ca := hg.keep 0 (by rfl)
                have hwi := hg.wi
                clear hg
                refine OpRuns.of_ok (v := .slice (some ⟨b1, o1, none⟩) a.length ca) (W' := W) ?_ ⟨rfl, Below.refl _ _⟩
                simp only [execOp, evT, e0]
                go_simp
              refine Steps.cons trivial (fun T W hg => ?_) ?_
              · have e9 : T 9 = .int .i64 (k : Int) := hg.keep 9 (by rfl)
                have hwi := hg.wi
                clear hg
                refine OpRuns.of_ok (v := .int .i64 (k : Int)) (W' := W) ?_ ⟨rfl, Below.refl _ _⟩
                simp only [execOp, evT, e9]
                go_simp
              refine Steps.cons trivial (fun T W hg => ?_) ?_
              · have e73 : T 73 = .slice (some ⟨b1, o1, none⟩) a.length ca := hg.fact 1 9 73 (by kernel_rfl)
                have e74 : T 74 = .int .i64 (k : Int) := hg.fact 1 10 74 (by kernel_rfl)
                have hwi := hg.wi
                clear hg
                refine OpRuns.of_ok (v := .pointer (some ⟨b1, o1 + k * 3, none⟩)) (W' := W) ?_ ⟨rfl, Below.refl _ _⟩
                simp only [execOp, evT, e73, e74]
                go_simp
              refine Steps.cons trivial (fun T W hg => ?_) ?_
              · have e75 : T 75 = .pointer (some ⟨b1, o1 + k * 3, none⟩) := hg.fact 1 11 75 (by kernel_rfl)
                have hwi := hg.wi
                clear hg
                refine OpRuns.of_ok (v := .agg #[.int .i64 v.t, .int .i64 v.n, .string v.s]) (W' := W) ?_ ⟨rfl, Below.refl _ _⟩
                have c0' := (hwi.cell (p := ⟨b1, o1 + k * 3, none⟩) hbc).trans c0
                have c1' := (hwi.cell (p := ⟨b1, o1 + k * 3 + 1, none⟩) hbc).trans c1
                have c2' := (hwi.cell (p := ⟨b1, o1 + k * 3 + 2, none⟩) hbc).trans c2
                simp only [execOp, evT, e75]
                go_simp
              refine Steps.cons trivial (fun T W hg => ?_) ?_
              · have e1 : T 1 = .slice (some ⟨b2, o2, none⟩) b.length cb := hg.keep 1 (by rfl)
                have hwi := hg.wi
                clear hg
                refine OpRuns.of_ok (v := .slice (some ⟨b2, o2, none⟩) b.length cb) (W' := W) ?_ ⟨rfl, Below.refl _ _⟩
                simp only [execOp, evT, e1]
                go_simp
              refine Steps.cons trivial (fun T W hg => ?_) ?_
              · have e10 : T 10 = .int .i64 (j : Int) := hg.keep 10 (by rfl)
                have hwi := hg.wi
                clear hg
                refine OpRuns.of_ok (v := .int .i64 (j : Int)) (W' := W) ?_ ⟨rfl, Below.refl _ _⟩
                simp only [execOp, evT, e10]
                go_simp
              refine Steps.cons trivial (fun T W hg => ?_) ?_
              · have e77 : T 77 = .slice (some ⟨b2, o2, none⟩) b.length cb := hg.fact 1 13 77 (by kernel_rfl)
                have e78 : T 78 = .int .i64 (j : Int) := hg.fact 1 14 78 (by kernel_rfl)
                have hwi := hg.wi
                clear hg
                refine OpRuns.of_ok (v := .pointer (some ⟨b2, o2 + j * 3, none⟩)) (W' := W) ?_ ⟨rfl, Below.refl _ _⟩
                simp only [execOp, evT, e77, e78]
                go_simp
              refine Steps.cons trivial (fun T W hg => ?_) ?_
              · have e79 : T 79 = .pointer (some ⟨b2, o2 + j * 3, none⟩) := hg.fact 1 15 79 (by kernel_rfl)
                have hwi := hg.wi
                clear hg
                refine OpRuns.of_ok (v := .agg #[.int .i64 u.t, .int .i64 u.n, .string u.s]) (W' := W) ?_ ⟨rfl, Below.refl _ _⟩
                have c0' := (hwi.cell (p := ⟨b2, o2 + j * 3, none⟩) hbd).trans d0
                have c1' := (hwi.cell (p := ⟨b2, o2 + j * 3 + 1, none⟩) hbd).trans d1
                have c2' := (hwi.cell (p := ⟨b2, o2 + j * 3 + 2, none⟩) hbd).trans d2
                simp only [execOp, evT, e79]
                go_simp
              refine Steps.cons trivial (fun T W hg => ?_) ?_
              · have e76 : T 76 = .agg #[.int .i64 v.t, .int .i64 v.n, .string v.s] := hg.fact 1 12 76 (by kernel_rfl)
                have e80 : T 80 = .agg #[.int .i64 u.t, .int .i64 u.n, .string u.s] := hg.fact 1 16 80 (by kernel_rfl)
                have hwi := hg.wi
                clear hg
                refine OpRuns.of_call ?_ ((refCompare_any v.t v.n v.s u.t u.n u.s _).mono fun e W' ⟨he, hb⟩ => ⟨_, he, rfl, hb⟩)
                simp only [execOp, resolve, invoke, List.map_toArray, List.map_cons, List.map_nil, evT, e76, e80]
                go_simp
              refine Steps.cons trivial (fun T W hg => ?_) ?_
              · have e72 : T 72 = .int .i64 (cmpV v.t v.n v.s u.t u.n u.s) := hg.fact 1 8 72 (by kernel_rfl)
                have e81 : T 81 = .int .i64 (cmpV v.t v.n v.s u.t u.n u.s) := hg.fact 1 17 81 (by kernel_rfl)
                have hwi := hg.wi
                clear hg
                refine OpRuns.of_ok (v := .bool false) (W' := W) ?_ ⟨rfl, Below.refl _ _⟩
                simp only [execOp, evT, e72, e81]
                go_simp
              exact Steps.nil
            · intro us W1 hlen hF hb
              obtain ⟨y0, us0, rfl, hl0⟩ := len_cons hlen
              clear hlen
              obtain ⟨y1, us1, rfl, hl1⟩ := len_cons hl0
              clear hl0
              obtain ⟨y2, us2, rfl, hl2⟩ := len_cons hl1
              clear hl1
              obtain ⟨y3, us3, rfl, hl3⟩ := len_cons hl2
              clear hl2
              obtain ⟨y4, us4, rfl, hl4⟩ := len_cons hl3
              clear hl3
              obtain ⟨y5, us5, rfl, hl5⟩ := len_cons hl4
              clear hl4
              obtain ⟨y6, us6, rfl, hl6⟩ := len_cons hl5
              clear hl5
              obtain ⟨y7, us7, rfl, hl7⟩ := len_cons hl6
              clear hl6
              obtain ⟨y8, us8, rfl, hl8⟩ := len_cons hl7
              clear hl7
              obtain ⟨y9, us9, rfl, hl9⟩ := len_cons hl8
              clear hl8
              obtain ⟨y10, us10, rfl, hl10⟩ := len_cons hl9
              clear hl9
              obtain ⟨y11, us11, rfl, hl11⟩ := len_cons hl10
              clear hl10
              obtain ⟨y12, us12, rfl, hl12⟩ := len_cons hl11
              clear hl11
              obtain ⟨y13, us13, rfl, hl13⟩ := len_cons hl12
              clear hl12
              obtain ⟨y14, us14, rfl, hl14⟩ := len_cons hl13
              clear hl13
              obtain ⟨y15, us15, rfl, hl15⟩ := len_cons hl14
              clear hl14
              obtain ⟨y16, us16, rfl, hl16⟩ := len_cons hl15
              clear hl15
              obtain ⟨y17, us17, rfl, hl17⟩ := len_cons hl16
              clear hl16
              obtain ⟨y18, us18, rfl, hl18⟩ := len_cons hl17
              clear hl17
              obtain rfl := len_nil hl18
              clear hl18
              have f18 : y18 = .bool false := hF 18 (by decide)
              clear hF
              subst f18
              simp only [updO, List.zip_cons_cons, List.zip_nil_right, List.setIfInBounds_toArray, List.set_cons_succ, List.set_cons_zero]
              have HB3 := Lib.hid hb
              clear hb c0 c1 c2 d0 d1 d2
              go_wp2
              go_roundw
              case rel => exact ⟨j + 1, by omega, by go_num, HBJ.out.trans (HB3.out.mono hszj)⟩
              case measure => simp [intOf]; omega
          · go_wp2
            go_roundw
            case rel => exact ⟨k + 1, by omega, by go_num, HBJ.out⟩
            case measure => simp [intOf]; omega
    · have HA1 := Lib.hid ((HA.out.below HBW.out).more hsz)
      have HB1 := Lib.hid ((HB.out.below HBW.out).more hsz)
      obtain ⟨p, hp⟩ : ∃ p, a.map mkV = p := ⟨_, rfl⟩
      obtain ⟨q, hq⟩ : ∃ q, b.map mkV = q := ⟨_, rfl⟩
      have hlp : p.length ≤ 8 := by rw [← hp]; simpa using hla
      have hlq : q.length ≤ 8 := by rw [← hq]; simpa using hlb
      have HPE := Lib.hid hp
      have HQE := Lib.hid hq
      have HRP := Lib.hid (mk_ranges HRA.out)
      have HSP := Lib.hid (mk_sizes a)
      rw [hp] at HRP HSP
      clear hp hq
      go_wp2_with fail
      refine (valids_any A ca a _ HA1.out (by omega)).mono ?_
      rintro e w1 ⟨pv, rfl, hop, hb1⟩
      rw [HPE.out] at hop
      obtain ⟨Ap, cp, rfl, hatp⟩ := hop.slice
      have HP1 := Lib.hid hatp
      have HBW1 := Lib.hid hb1
      have hsz1 := hb1.size
      clear hop hatp hb1
      go_wp2_with fail
      refine (valids_any B cb b _ ((HB1.out.below HBW1.out).more hsz1) (by omega)).mono ?_
      rintro e w2 ⟨qv, rfl, hoq, hb2⟩
      rw [HQE.out] at hoq
      obtain ⟨Aq, cq, rfl, hatq⟩ := hoq.slice
      have hsz2 := hb2.size
      have HBW2 := Lib.hid (below_then HBW1.out hb2 hsz1)
      have HP := Lib.hid ((HP1.out.below hb2).more hsz2)
      have HQ := Lib.hid hatq
      have HA2 := Lib.hid ((HA1.out.below HBW2.out).more HBW2.out.size)
      have HB2 := Lib.hid ((HB1.out.below HBW2.out).more HBW2.out.size)
      have HE2 := Lib.hid ((HE.out.below HBW.out (Nat.le_refl _)).below HBW2.out (Nat.le_refl _))
      have HBWA := Lib.hid (HBW.out.trans (HBW2.out.mono hsz))
      clear hoq hatq hb2 HB1 HA1 HP1
      go_wp2
      refine wp_region_below [some 87, some 88, some 89, some 90, some 91, some 92, some 93, some 94, some 95, some 96, some 97, some 98, some 99, some 100, some 101, some 102, some 103, some 104, some 105, some 106, some 107, some 108, some 109, some 110, some 111, some 112, some 113, some 114, some 115, some 116, some 117, some 118, some 119, some 120, some 121, some 122, some 123, some 124, some 125, some 126, some 127, some 128, some 129, some 130, some 131, some 132, some 133, some 134, some 135, some 136, some 137, some 8] (TL14 A B Ap Aq ca cb cp cq a b p q n s) (by kernel_rfl) (by kernel_rfl) (by rfl) (by rfl) (TL14_stab A B Ap Aq ca cb cp cq a b p q n s _) ?_ ?_
      ·
        refine Steps.cons trivial (fun T W hg => ?_) ?_
        · have e2 : T 2 = .int .i64 n := hg.keep 2 (by rfl)
          have hwi := hg.wi
          clear hg
          refine OpRuns.of_ok (v := .int .i64 n) (W' := W) ?_ ⟨rfl, Below.refl _ _⟩
          simp only [execOp, evT, e2]
          go_simp
        refine Steps.cons trivial (fun T W hg => ?_) ?_
        · have e87 : T 87 = .int .i64 n := hg.fact 1 0 87 (by kernel_rfl)
          have hwi := hg.wi
          clear hg
          refine OpRuns.of_call ?_ ((newInt_any n _).mono fun e W' ⟨he, hb⟩ => ⟨_, he, rfl, hb⟩)
          simp only [execOp, resolve, invoke, List.map_toArray, List.map_cons, List.map_nil, evT, e87]
          go_simp
        refine Steps.cons trivial (fun T W hg => ?_) ?_
        · have e2 : T 2 = .int .i64 n := hg.keep 2 (by rfl)
          have hwi := hg.wi
          clear hg
          refine OpRuns.of_ok (v := .int .i64 n) (W' := W) ?_ ⟨rfl, Below.refl _ _⟩
          simp only [execOp, evT, e2]
          go_simp
        refine Steps.cons trivial (fun T W hg => ?_) ?_
        · have e89 : T 89 = .int .i64 n := hg.fact 1 2 89 (by kernel_rfl)
          have hwi := hg.wi
          clear hg
          refine OpRuns.of_call ?_ ((refInt_any n _).mono fun e W' ⟨he, hb⟩ => ⟨_, he, rfl, hb⟩)
          simp only [execOp, resolve, invoke, List.map_toArray, List.map_cons, List.map_nil, evT, e89]
          go_simp
        refine Steps.cons trivial (fun T W hg => ?_) ?_
        · have e88 : T 88 = .agg #[.int .i64 1, .int .i64 n, .string ⟨#[]⟩] := hg.fact 1 1 88 (by kernel_rfl)
          have e90 : T 90 = .agg #[.int .i64 1, .int .i64 n, .string ⟨#[]⟩] := hg.fact 1 3 90 (by kernel_rfl)
          have hwi := hg.wi
          clear hg
          refine OpRuns.of_ok (v := .bool true) (W' := W) ?_ ⟨rfl, Below.refl _ _⟩
          simp only [execOp, evT, e88, e90]
          go_simp
        refine Steps.cons trivial (fun T W hg => ?_) ?_
        · have e91 : T 91 = .bool true := hg.fact 1 4 91 (by kernel_rfl)
          have hwi := hg.wi
          clear hg
          refine OpRuns.of_ok (v := .bool true) (W' := W) ?_ ⟨rfl, Below.refl _ _⟩
          simp only [execOp, evT, e91]
          go_simp
        refine Steps.cons ⟨1, 92, by kernel_rfl, fun _ _ h => h⟩ (fun T W hg => ?_) ?_
        · have e3 : T 3 = .string s := hg.keep 3 (by rfl)
          have hwi := hg.wi
          clear hg
          refine OpRuns.of_ok (v := .string s) (W' := W) ?_ ⟨rfl, Below.refl _ _⟩
          simp only [execOp, evT, e3]
          go_simp
        refine Steps.cons ⟨1, 92, by kernel_rfl, fun _ _ h => h⟩ (fun T W hg => ?_) ?_
        · have e93 : T 93 = .string s := hg.fact 1 6 93 (by kernel_rfl)
          have hwi := hg.wi
          clear hg
          refine OpRuns.of_call ?_ ((newString_any s _).mono fun e W' ⟨he, hb⟩ => ⟨_, he, rfl, hb⟩)
          simp only [execOp, resolve, invoke, List.map_toArray, List.map_cons, List.map_nil, evT, e93]
          go_simp
        refine Steps.cons ⟨1, 92, by kernel_rfl, fun _ _ h => h⟩ (fun T W hg => ?_) ?_
        · have e3 : T 3 = .string s := hg.keep 3 (by rfl)
          have hwi := hg.wi
          clear hg
          refine OpRuns.of_ok (v := .string s) (W' := W) ?_ ⟨rfl, Below.refl _ _⟩
          simp only [execOp, evT, e3]
          go_simp
        refine Steps.cons ⟨1, 92, by kernel_rfl, fun _ _ h => h⟩ (fun T W hg => ?_) ?_
        · have e95 : T 95 = .string s := hg.fact 1 8 95 (by kernel_rfl)
          have hwi := hg.wi
          clear hg
          refine OpRuns.of_call ?_ ((refStr_any s _).mono fun e W' ⟨he, hb⟩ => ⟨_, he, rfl, hb⟩)
          simp only [execOp, resolve, invoke, List.map_toArray, List.map_cons, List.map_nil, evT, e95]
          go_simp
        refine Steps.cons ⟨1, 92, by kernel_rfl, fun _ _ h => h⟩ (fun T W hg => ?_) ?_
        · have e94 : T 94 = .agg #[.int .i64 2, .int .i64 0, .string s] := hg.fact 1 7 94 (by kernel_rfl)
          have e96 : T 96 = .agg #[.int .i64 2, .int .i64 0, .string s] := hg.fact 1 9 96 (by kernel_rfl)
          have hwi := hg.wi
          clear hg
          refine OpRuns.of_ok (v := .bool true) (W' := W) ?_ ⟨rfl, Below.refl _ _⟩
          simp only [execOp, evT, e94, e96]
          go_simp
        refine Steps.cons trivial (fun T W hg => ?_) ?_
        · have e92 : T 92 = .bool true := hg.fact 1 5 92 (by kernel_rfl)
          have e97 : T 97 = .bool true := hg.fact 1 10 97 (by kernel_rfl)
          have hwi := hg.wi
          clear hg
          refine OpRuns.of_ok (v := .bool true) (W' := W) ?_ ⟨rfl, Below.refl _ _⟩
          simp only [execOp, evT, e92, e97]
          go_simp
        refine Steps.cons trivial (fun T W hg => ?_) ?_
        · have e98 : T 98 = .bool true := hg.fact 1 11 98 (by kernel_rfl)
          have hwi := hg.wi
          clear hg
          refine OpRuns.of_ok (v := .bool true) (W' := W) ?_ ⟨rfl, Below.refl _ _⟩
          simp only [execOp, evT, e98]
          go_simp
        refine Steps.cons ⟨1, 99, by kernel_rfl, fun _ _ h => h⟩ (fun T W hg => ?_) ?_
        · have e0 : T 0 = .slice A a.length ca := hg.keep 0 (by rfl)
          have hwi := hg.wi
          clear hg
          refine OpRuns.of_ok (v := .slice A a.length ca) (W' := W) ?_ ⟨rfl, Below.refl _ _⟩
          simp only [execOp, evT, e0]
          go_simp
        refine Steps.cons ⟨1, 99, by kernel_rfl, fun _ _ h => h⟩ (fun T W hg => ?_) ?_
        · have e1 : T 1 = .slice B b.length cb := hg.keep 1 (by rfl)
          have hwi := hg.wi
          clear hg
          refine OpRuns.of_ok (v := .slice B b.length cb) (W' := W) ?_ ⟨rfl, Below.refl _ _⟩
          simp only [execOp, evT, e1]
          go_simp
        refine Steps.cons ⟨1, 99, by kernel_rfl, fun _ _ h => h⟩ (fun T W hg => ?_) ?_
        · have e100 : T 100 = .slice A a.length ca := hg.fact 1 13 100 (by kernel_rfl)
          have e101 : T 101 = .slice B b.length cb := hg.fact 1 14 101 (by kernel_rfl)
          have hwi := hg.wi
          clear hg
          refine OpRuns.of_call ?_ ((tuples_any A B ca cb a b _ ((HA2.out.below hwi).more hwi.size) ((HB2.out.below hwi).more hwi.size) (by omega) (by omega)).mono fun e W' ⟨he, hb⟩ => ⟨_, he, rfl, hb⟩)
          simp only [execOp, resolve, invoke, List.map_toArray, List.map_cons, List.map_nil, evT, e100, e101]
          go_simp
        refine Steps.cons ⟨1, 99, by kernel_rfl, fun _ _ h => h⟩ (fun T W hg => ?_) ?_
        · have e0 : T 0 = .slice A a.length ca := hg.keep 0 (by rfl)
          have hwi := hg.wi
          clear hg
          refine OpRuns.of_ok (v := .slice A a.length ca) (W' := W) ?_ ⟨rfl, Below.refl _ _⟩
          simp only [execOp, evT, e0]
          go_simp
        refine Steps.cons ⟨1, 99, by kernel_rfl, fun _ _ h => h⟩ (fun T W hg => ?_) ?_
        · have e1 : T 1 = .slice B b.length cb := hg.keep 1 (by rfl)
          have hwi := hg.wi
          clear hg
          refine OpRuns.of_ok (v := .slice B b.length cb) (W' := W) ?_ ⟨rfl, Below.refl _ _⟩
          simp only [execOp, evT, e1]
          go_simp
        refine Steps.cons ⟨1, 99, by kernel_rfl, fun _ _ h => h⟩ (fun T W hg => ?_) ?_
        · have e103 : T 103 = .slice A a.length ca := hg.fact 1 16 103 (by kernel_rfl)
          have e104 : T 104 = .slice B b.length cb := hg.fact 1 17 104 (by kernel_rfl)
          have hwi := hg.wi
          clear hg
          refine OpRuns.of_call ?_ ((refTuples_any A B ca cb a b _ ((HA2.out.below hwi).more hwi.size) ((HB2.out.below hwi).more hwi.size) (by omega) (by omega)).mono fun e W' ⟨he, hb⟩ => ⟨_, he, rfl, hb⟩)
          simp only [execOp, resolve, invoke, List.map_toArray, List.map_cons, List.map_nil, evT, e103, e104]
          go_simp
        refine Steps.cons ⟨1, 99, by kernel_rfl, fun _ _ h => h⟩ (fun T W hg => ?_) ?_
        · have e102 : T 102 = .int .i64 (cmpL a b) := hg.fact 1 15 102 (by kernel_rfl)
          have e105 : T 105 = .int .i64 (cmpL a b) := hg.fact 1 18 105 (by kernel_rfl)
          have hwi := hg.wi
          clear hg
          refine OpRuns.of_ok (v := .bool true) (W' := W) ?_ ⟨rfl, Below.refl _ _⟩
          simp only [execOp, evT, e102, e105]
          go_simp
        refine Steps.cons trivial (fun T W hg => ?_) ?_
        · have e99 : T 99 = .bool true := hg.fact 1 12 99 (by kernel_rfl)
          have e106 : T 106 = .bool true := hg.fact 1 19 106 (by kernel_rfl)
          have hwi := hg.wi
          clear hg
          refine OpRuns.of_ok (v := .bool true) (W' := W) ?_ ⟨rfl, Below.refl _ _⟩
          simp only [execOp, evT, e99, e106]
          go_simp
        refine Steps.cons trivial (fun T W hg => ?_) ?_
        · have e107 : T 107 = .bool true := hg.fact 1 20 107 (by kernel_rfl)
          have hwi := hg.wi
          clear hg
          refine OpRuns.of_ok (v := .bool true) (W' := W) ?_ ⟨rfl, Below.refl _ _⟩
          simp only [execOp, evT, e107]
          go_simp
        refine Steps.cons ⟨1, 108, by kernel_rfl, fun _ _ h => h⟩ (fun T W hg => ?_) ?_
        · have e11 : T 11 = .slice Ap p.length cp := hg.keep 11 (by rfl)
          have hwi := hg.wi
          clear hg
          refine OpRuns.of_ok (v := .slice Ap p.length cp) (W' := W) ?_ ⟨rfl, Below.refl _ _⟩
          simp only [execOp, evT, e11]
          go_simp
        refine Steps.cons ⟨1, 108, by kernel_rfl, fun _ _ h => h⟩ (fun T W hg => ?_) ?_
        · have e12 : T 12 = .slice Aq q.length cq := hg.keep 12 (by rfl)
          have hwi := hg.wi
          clear hg
          refine OpRuns.of_ok (v := .slice Aq q.length cq) (W' := W) ?_ ⟨rfl, Below.refl _ _⟩
          simp only [execOp, evT, e12]
          go_simp
        refine Steps.cons ⟨1, 108, by kernel_rfl, fun _ _ h => h⟩ (fun T W hg => ?_) ?_
        · have e109 : T 109 = .slice Ap p.length cp := hg.fact 1 22 109 (by kernel_rfl)
          have e110 : T 110 = .slice Aq q.length cq := hg.fact 1 23 110 (by kernel_rfl)
          have hwi := hg.wi
          clear hg
          refine OpRuns.of_call ?_ ((tuples_any Ap Aq cp cq p q _ ((HP.out.below hwi).more hwi.size) ((HQ.out.below hwi).more hwi.size) (by omega) (by omega)).mono fun e W' ⟨he, hb⟩ => ⟨_, he, rfl, hb⟩)
          simp only [execOp, resolve, invoke, List.map_toArray, List.map_cons, List.map_nil, evT, e109, e110]
          go_simp
        refine Steps.cons ⟨1, 108, by kernel_rfl, fun _ _ h => h⟩ (fun T W hg => ?_) ?_
        · have e11 : T 11 = .slice Ap p.length cp := hg.keep 11 (by rfl)
          have hwi := hg.wi
          clear hg
          refine OpRuns.of_ok (v := .slice Ap p.length cp) (W' := W) ?_ ⟨rfl, Below.refl _ _⟩
          simp only [execOp, evT, e11]
          go_simp
        refine Steps.cons ⟨1, 108, by kernel_rfl, fun _ _ h => h⟩ (fun T W hg => ?_) ?_
        · have e12 : T 12 = .slice Aq q.length cq := hg.keep 12 (by rfl)
          have hwi := hg.wi
          clear hg
          refine OpRuns.of_ok (v := .slice Aq q.length cq) (W' := W) ?_ ⟨rfl, Below.refl _ _⟩
          simp only [execOp, evT, e12]
          go_simp
        refine Steps.cons ⟨1, 108, by kernel_rfl, fun _ _ h => h⟩ (fun T W hg => ?_) ?_
        · have e112 : T 112 = .slice Ap p.length cp := hg.fact 1 25 112 (by kernel_rfl)
          have e113 : T 113 = .slice Aq q.length cq := hg.fact 1 26 113 (by kernel_rfl)
          have hwi := hg.wi
          clear hg
          refine OpRuns.of_call ?_ ((refTuples_any Ap Aq cp cq p q _ ((HP.out.below hwi).more hwi.size) ((HQ.out.below hwi).more hwi.size) (by omega) (by omega)).mono fun e W' ⟨he, hb⟩ => ⟨_, he, rfl, hb⟩)
          simp only [execOp, resolve, invoke, List.map_toArray, List.map_cons, List.map_nil, evT, e112, e113]
          go_simp
        refine Steps.cons ⟨1, 108, by kernel_rfl, fun _ _ h => h⟩ (fun T W hg => ?_) ?_
        · have e111 : T 111 = .int .i64 (cmpL p q) := hg.fact 1 24 111 (by kernel_rfl)
          have e114 : T 114 = .int .i64 (cmpL p q) := hg.fact 1 27 114 (by kernel_rfl)
          have hwi := hg.wi
          clear hg
          refine OpRuns.of_ok (v := .bool true) (W' := W) ?_ ⟨rfl, Below.refl _ _⟩
          simp only [execOp, evT, e111, e114]
          go_simp
        refine Steps.cons trivial (fun T W hg => ?_) ?_
        · have e108 : T 108 = .bool true := hg.fact 1 21 108 (by kernel_rfl)
          have e115 : T 115 = .bool true := hg.fact 1 28 115 (by kernel_rfl)
          have hwi := hg.wi
          clear hg
          refine OpRuns.of_ok (v := .bool true) (W' := W) ?_ ⟨rfl, Below.refl _ _⟩
          simp only [execOp, evT, e108, e115]
          go_simp
        refine Steps.cons trivial (fun T W hg => ?_) ?_
        · have e116 : T 116 = .bool true := hg.fact 1 29 116 (by kernel_rfl)
          have hwi := hg.wi
          clear hg
          refine OpRuns.of_ok (v := .bool true) (W' := W) ?_ ⟨rfl, Below.refl _ _⟩
          simp only [execOp, evT, e116]
          go_simp
        refine Steps.cons ⟨1, 117, by kernel_rfl, fun _ _ h => h⟩ (fun T W hg => ?_) ?_
        · have e0 : T 0 = .slice A a.length ca := hg.keep 0 (by rfl)
          have hwi := hg.wi
          clear hg
          refine OpRuns.of_ok (v := .slice A a.length ca) (W' := W) ?_ ⟨rfl, Below.refl _ _⟩
          simp only [execOp, evT, e0]
          go_simp
        refine Steps.cons ⟨1, 117, by kernel_rfl, fun _ _ h => h⟩ (fun T W hg => ?_) ?_
        · have e118 : T 118 = .slice A a.length ca := hg.fact 1 31 118 (by kernel_rfl)
          have hwi := hg.wi
          clear hg
          refine OpRuns.of_call ?_ ((enc_walk A ca a _ ((HA2.out.below hwi).more hwi.size) (by omega) HRA.out).mono fun e W' h => ?_)
          · simp only [execOp, resolve, invoke, List.map_toArray, List.map_cons, List.map_nil, evT, e118]; go_simp
          · obtain ⟨v, he, hv, hb⟩ := isB_of_enc h
            exact ⟨v, he, hv, hb⟩
        refine Steps.cons ⟨1, 117, by kernel_rfl, fun _ _ h => h⟩ (fun T W hg => ?_) ?_
        · have p119 : (fun r W => IsB W r (encS a)) (T 119) W := hg.fact 1 32 119 (by kernel_rfl)
          simp only at p119
          have hwi := hg.wi
          clear hg
          refine OpRuns.of_ok (v := .string ⟨(encS a).toArray⟩) (W' := W) ?_ ⟨rfl, Below.refl _ _⟩
          obtain ⟨A', c', e119, hat⟩ := p119
          have hcv := conv_at c' hat
          simp only [execOp, evT, e119]
          go_simp
        refine Steps.cons ⟨1, 117, by kernel_rfl, fun _ _ h => h⟩ (fun T W hg => ?_) ?_
        · have e0 : T 0 = .slice A a.length ca := hg.keep 0 (by rfl)
          have hwi := hg.wi
          clear hg
          refine OpRuns.of_ok (v := .slice A a.length ca) (W' := W) ?_ ⟨rfl, Below.refl _ _⟩
          simp only [execOp, evT, e0]
          go_simp
        refine Steps.cons ⟨1, 117, by kernel_rfl, fun _ _ h => h⟩ (fun T W hg => ?_) ?_
        · have e121 : T 121 = .slice A a.length ca := hg.fact 1 34 121 (by kernel_rfl)
          have hwi := hg.wi
          clear hg
          refine OpRuns.of_call ?_ ((refEnc_walk A ca a _ ((HA2.out.below hwi).more hwi.size) (by omega) HRA.out HSA.out).mono fun e W' h => ?_)
          · simp only [execOp, resolve, invoke, List.map_toArray, List.map_cons, List.map_nil, evT, e121]; go_simp
          · obtain ⟨v, he, hv, hb⟩ := isB_of_enc h
            exact ⟨v, he, hv, hb⟩
        refine Steps.cons ⟨1, 117, by kernel_rfl, fun _ _ h => h⟩ (fun T W hg => ?_) ?_
        · have p122 : (fun r W => IsB W r (encS a)) (T 122) W := hg.fact 1 35 122 (by kernel_rfl)
          simp only at p122
          have hwi := hg.wi
          clear hg
          refine OpRuns.of_ok (v := .string ⟨(encS a).toArray⟩) (W' := W) ?_ ⟨rfl, Below.refl _ _⟩
          obtain ⟨A', c', e122, hat⟩ := p122
          have hcv := conv_at c' hat
          simp only [execOp, evT, e122]
          go_simp
        refine Steps.cons ⟨1, 117, by kernel_rfl, fun _ _ h => h⟩ (fun T W hg => ?_) ?_
        · have e120 : T 120 = .string ⟨(encS a).toArray⟩ := hg.fact 1 33 120 (by kernel_rfl)
          have e123 : T 123 = .string ⟨(encS a).toArray⟩ := hg.fact 1 36 123 (by kernel_rfl)
          have hwi := hg.wi
          clear hg
          refine OpRuns.of_ok (v := .bool true) (W' := W) ?_ ⟨rfl, Below.refl _ _⟩
          simp only [execOp, evT, e120, e123]
          go_simp
        refine Steps.cons trivial (fun T W hg => ?_) ?_
        · have e117 : T 117 = .bool true := hg.fact 1 30 117 (by kernel_rfl)
          have e124 : T 124 = .bool true := hg.fact 1 37 124 (by kernel_rfl)
          have hwi := hg.wi
          clear hg
          refine OpRuns.of_ok (v := .bool true) (W' := W) ?_ ⟨rfl, Below.refl _ _⟩
          simp only [execOp, evT, e117, e124]
          go_simp
        refine Steps.cons trivial (fun T W hg => ?_) ?_
        · have e125 : T 125 = .bool true := hg.fact 1 38 125 (by kernel_rfl)
          have hwi := hg.wi
          clear hg
          refine OpRuns.of_ok (v := .bool true) (W' := W) ?_ ⟨rfl, Below.refl _ _⟩
          simp only [execOp, evT, e125]
          go_simp
        refine Steps.cons ⟨1, 126, by kernel_rfl, fun _ _ h => h⟩ (fun T W hg => ?_) ?_
        · have e11 : T 11 = .slice Ap p.length cp := hg.keep 11 (by rfl)
          have hwi := hg.wi
          clear hg
          refine OpRuns.of_ok (v := .slice Ap p.length cp) (W' := W) ?_ ⟨rfl, Below.refl _ _⟩
          simp only [execOp, evT, e11]
          go_simp
        refine Steps.cons ⟨1, 126, by kernel_rfl, fun _ _ h => h⟩ (fun T W hg => ?_) ?_
        · have e127 : T 127 = .slice Ap p.length cp := hg.fact 1 40 127 (by kernel_rfl)
          have hwi := hg.wi
          clear hg
          refine OpRuns.of_call ?_ ((enc_walk Ap cp p _ ((HP.out.below hwi).more hwi.size) (by omega) HRP.out).mono fun e W' h => ?_)
          · simp only [execOp, resolve, invoke, List.map_toArray, List.map_cons, List.map_nil, evT, e127]; go_simp
          · obtain ⟨v, he, hv, hb⟩ := isB_of_enc h
            exact ⟨v, he, hv, hb⟩
        refine Steps.cons ⟨1, 126, by kernel_rfl, fun _ _ h => h⟩ (fun T W hg => ?_) ?_
        · have p128 : (fun r W => IsB W r (encS p)) (T 128) W := hg.fact 1 41 128 (by kernel_rfl)
          simp only at p128
          have hwi := hg.wi
          clear hg
          refine OpRuns.of_ok (v := .string ⟨(encS p).toArray⟩) (W' := W) ?_ ⟨rfl, Below.refl _ _⟩
          obtain ⟨A', c', e128, hat⟩ := p128
          have hcv := conv_at c' hat
          simp only [execOp, evT, e128]
          go_simp
        refine Steps.cons ⟨1, 126, by kernel_rfl, fun _ _ h => h⟩ (fun T W hg => ?_) ?_
        · have e11 : T 11 = .slice Ap p.length cp := hg.keep 11 (by rfl)
          have hwi := hg.wi
          clear hg
          refine OpRuns.of_ok (v := .slice Ap p.length cp) (W' := W) ?_ ⟨rfl, Below.refl _ _⟩
          simp only [execOp, evT, e11]
          go_simp
        refine Steps.cons ⟨1, 126, by kernel_rfl, fun _ _ h => h⟩ (fun T W hg => ?_) ?_
        · have e130 : T 130 = .slice Ap p.length cp := hg.fact 1 43 130 (by kernel_rfl)
          have hwi := hg.wi
          clear hg
          refine OpRuns.of_call ?_ ((refEnc_walk Ap cp p _ ((HP.out.below hwi).more hwi.size) (by omega) HRP.out HSP.out).mono fun e W' h => ?_)
          · simp only [execOp, resolve, invoke, List.map_toArray, List.map_cons, List.map_nil, evT, e130]; go_simp
          · obtain ⟨v, he, hv, hb⟩ := isB_of_enc h
            exact ⟨v, he, hv, hb⟩
        refine Steps.cons ⟨1, 126, by kernel_rfl, fun _ _ h => h⟩ (fun T W hg => ?_) ?_
        · have p131 : (fun r W => IsB W r (encS p)) (T 131) W := hg.fact 1 44 131 (by kernel_rfl)
          simp only at p131
          have hwi := hg.wi
          clear hg
          refine OpRuns.of_ok (v := .string ⟨(encS p).toArray⟩) (W' := W) ?_ ⟨rfl, Below.refl _ _⟩
          obtain ⟨A', c', e131, hat⟩ := p131
          have hcv := conv_at c' hat
          simp only [execOp, evT, e131]
          go_simp
        refine Steps.cons ⟨1, 126, by kernel_rfl, fun _ _ h => h⟩ (fun T W hg => ?_) ?_
        · have e129 : T 129 = .string ⟨(encS p).toArray⟩ := hg.fact 1 42 129 (by kernel_rfl)
          have e132 : T 132 = .string ⟨(encS p).toArray⟩ := hg.fact 1 45 132 (by kernel_rfl)
          have hwi := hg.wi
          clear hg
          refine OpRuns.of_ok (v := .bool true) (W' := W) ?_ ⟨rfl, Below.refl _ _⟩
          simp only [execOp, evT, e129, e132]
          go_simp
        refine Steps.cons trivial (fun T W hg => ?_) ?_
        · have e126 : T 126 = .bool true := hg.fact 1 39 126 (by kernel_rfl)
          have e133 : T 133 = .bool true := hg.fact 1 46 133 (by kernel_rfl)
          have hwi := hg.wi
          clear hg
          refine OpRuns.of_ok (v := .bool true) (W' := W) ?_ ⟨rfl, Below.refl _ _⟩
          simp only [execOp, evT, e126, e133]
          go_simp
        refine Steps.cons trivial (fun T W hg => ?_) ?_
        · have e134 : T 134 = .bool true := hg.fact 1 47 134 (by kernel_rfl)
          have hwi := hg.wi
          clear hg
          refine OpRuns.of_ok (v := .bool true) (W' := W) ?_ ⟨rfl, Below.refl _ _⟩
          simp only [execOp, evT, e134]
          go_simp
        refine Steps.cons ⟨1, 135, by kernel_rfl, fun _ _ h => h⟩ (fun T W hg => ?_) ?_
        · have hwi := hg.wi
          clear hg
          refine OpRuns.of_call ?_ ((known_any _ (HE2.out.below hwi (Nat.le_refl _))).mono fun e W' ⟨he, hb⟩ => ⟨_, he, rfl, hb⟩)
          simp only [execOp, resolve, invoke, List.map_toArray, List.map_nil, evT]
          go_simp
        refine Steps.cons trivial (fun T W hg => ?_) ?_
        · have e135 : T 135 = .bool true := hg.fact 1 48 135 (by kernel_rfl)
          have e136 : T 136 = .bool true := hg.fact 1 49 136 (by kernel_rfl)
          have hwi := hg.wi
          clear hg
          refine OpRuns.of_ok (v := .bool true) (W' := W) ?_ ⟨rfl, Below.refl _ _⟩
          simp only [execOp, evT, e135, e136]
          go_simp
        refine Steps.cons trivial (fun T W hg => ?_) ?_
        · have e137 : T 137 = .bool true := hg.fact 1 50 137 (by kernel_rfl)
          have hwi := hg.wi
          clear hg
          refine OpRuns.of_ok (v := .bool true) (W' := W) ?_ ⟨rfl, Below.refl _ _⟩
          simp only [execOp, evT, e137]
          go_simp
        exact Steps.nil
      · intro us W1 hlen hF hb
        obtain ⟨y0, us0, rfl, hl0⟩ := len_cons hlen
        clear hlen
        obtain ⟨y1, us1, rfl, hl1⟩ := len_cons hl0
        clear hl0
        obtain ⟨y2, us2, rfl, hl2⟩ := len_cons hl1
        clear hl1
        obtain ⟨y3, us3, rfl, hl3⟩ := len_cons hl2
        clear hl2
        obtain ⟨y4, us4, rfl, hl4⟩ := len_cons hl3
        clear hl3
        obtain ⟨y5, us5, rfl, hl5⟩ := len_cons hl4
        clear hl4
        obtain ⟨y6, us6, rfl, hl6⟩ := len_cons hl5
        clear hl5
        obtain ⟨y7, us7, rfl, hl7⟩ := len_cons hl6
        clear hl6
        obtain ⟨y8, us8, rfl, hl8⟩ := len_cons hl7
        clear hl7
        obtain ⟨y9, us9, rfl, hl9⟩ := len_cons hl8
        clear hl8
        obtain ⟨y10, us10, rfl, hl10⟩ := len_cons hl9
        clear hl9
        obtain ⟨y11, us11, rfl, hl11⟩ := len_cons hl10
        clear hl10
        obtain ⟨y12, us12, rfl, hl12⟩ := len_cons hl11
        clear hl11
        obtain ⟨y13, us13, rfl, hl13⟩ := len_cons hl12
        clear hl12
        obtain ⟨y14, us14, rfl, hl14⟩ := len_cons hl13
        clear hl13
        obtain ⟨y15, us15, rfl, hl15⟩ := len_cons hl14
        clear hl14
        obtain ⟨y16, us16, rfl, hl16⟩ := len_cons hl15
        clear hl15
        obtain ⟨y17, us17, rfl, hl17⟩ := len_cons hl16
        clear hl16
        obtain ⟨y18, us18, rfl, hl18⟩ := len_cons hl17
        clear hl17
        obtain ⟨y19, us19, rfl, hl19⟩ := len_cons hl18
        clear hl18
        obtain ⟨y20, us20, rfl, hl20⟩ := len_cons hl19
        clear hl19
        obtain ⟨y21, us21, rfl, hl21⟩ := len_cons hl20
        clear hl20
        obtain ⟨y22, us22, rfl, hl22⟩ := len_cons hl21
        clear hl21
        obtain ⟨y23, us23, rfl, hl23⟩ := len_cons hl22
        clear hl22
        obtain ⟨y24, us24, rfl, hl24⟩ := len_cons hl23
        clear hl23
        obtain ⟨y25, us25, rfl, hl25⟩ := len_cons hl24
        clear hl24
        obtain ⟨y26, us26, rfl, hl26⟩ := len_cons hl25
        clear hl25
        obtain ⟨y27, us27, rfl, hl27⟩ := len_cons hl26
        clear hl26
        obtain ⟨y28, us28, rfl, hl28⟩ := len_cons hl27
        clear hl27
        obtain ⟨y29, us29, rfl, hl29⟩ := len_cons hl28
        clear hl28
        obtain ⟨y30, us30, rfl, hl30⟩ := len_cons hl29
        clear hl29
        obtain ⟨y31, us31, rfl, hl31⟩ := len_cons hl30
        clear hl30
        obtain ⟨y32, us32, rfl, hl32⟩ := len_cons hl31
        clear hl31
        obtain ⟨y33, us33, rfl, hl33⟩ := len_cons hl32
        clear hl32
        obtain ⟨y34, us34, rfl, hl34⟩ := len_cons hl33
        clear hl33
        obtain ⟨y35, us35, rfl, hl35⟩ := len_cons hl34
        clear hl34
        obtain ⟨y36, us36, rfl, hl36⟩ := len_cons hl35
        clear hl35
        obtain ⟨y37, us37, rfl, hl37⟩ := len_cons hl36
        clear hl36
        obtain ⟨y38, us38, rfl, hl38⟩ := len_cons hl37
        clear hl37
        obtain ⟨y39, us39, rfl, hl39⟩ := len_cons hl38
        clear hl38
        obtain ⟨y40, us40, rfl, hl40⟩ := len_cons hl39
        clear hl39
        obtain ⟨y41, us41, rfl, hl41⟩ := len_cons hl40
        clear hl40
        obtain ⟨y42, us42, rfl, hl42⟩ := len_cons hl41
        clear hl41
        obtain ⟨y43, us43, rfl, hl43⟩ := len_cons hl42
        clear hl42
        obtain ⟨y44, us44, rfl, hl44⟩ := len_cons hl43
        clear hl43
        obtain ⟨y45, us45, rfl, hl45⟩ := len_cons hl44
        clear hl44
        obtain ⟨y46, us46, rfl, hl46⟩ := len_cons hl45
        clear hl45
        obtain ⟨y47, us47, rfl, hl47⟩ := len_cons hl46
        clear hl46
        obtain ⟨y48, us48, rfl, hl48⟩ := len_cons hl47
        clear hl47
        obtain ⟨y49, us49, rfl, hl49⟩ := len_cons hl48
        clear hl48
        obtain ⟨y50, us50, rfl, hl50⟩ := len_cons hl49
        clear hl49
        obtain ⟨y51, us51, rfl, hl51⟩ := len_cons hl50
        clear hl50
        obtain rfl := len_nil hl51
        clear hl51
        have f50 : y50 = .bool true := hF 50 (by decide)
        have f51 : y51 = .bool true := hF 51 (by decide)
        clear hF
        subst f50
        subst f51
        simp only [updO, List.zip_cons_cons, List.zip_nil_right, List.setIfInBounds_toArray, List.set_cons_succ, List.set_cons_zero]
        have HB3 := Lib.hid hb
        clear hb
        go_wp2
        go_ret
        exact ⟨rfl, HBWA.out.trans (HB3.out.mono HBWA.out.size)⟩
set_option maxRecDepth 100000 in
set_option maxHeartbeats 1000000 in
theorem tells_any (A B : Option Addr) (ca cb : Nat) (a b : List V) (n : Int) (s : ByteArray) (w : World) (hA : At w w.heap.size A (cellsV a)) (hB : At w w.heap.size B (cellsV b)) (hE : Env w)
    (hra : ∀ v ∈ a, -9223372036854775808 ≤ v.n ∧ v.n ≤ 9223372036854775807) (hsa : ∀ v ∈ a, v.s.size ≤ 9223372036854775807) (hla : a.length ≤ 9223372036854775807) (hlb : b.length ≤ 9223372036854775807) (hls : s.size ≤ 9223372036854775807) :
    Calls Tryd.prog 6 #[.slice A a.length ca, .slice B b.length cb, .int .i64 n, .string s] w (TellsPost w) := by
  have HFA := Lib.hid (fits_any A ca a w hA hla)
  have HFB := Lib.hid (fits_any B cb b w hB hlb)
  cases hfa : fitsB a
  · rw [hfa] at HFA
    clear hra hsa hE hA hB hfa HFB
    go_enter Tryd.func6, Tryd.ntmps6
    go_wp2_with fail
    refine HFA.out.mono ?_
    rintro e w' ⟨rfl, rfl⟩
    go_wp2
    go_ret
    exact ⟨rfl, Below.refl _ _⟩
  · cases hfb : fitsB b
    · rw [hfa] at HFA
      rw [hfb] at HFB
      clear hra hsa hE hA hB hfa hfb
      go_enter Tryd.func6, Tryd.ntmps6
      go_wp2_with fail
      refine HFA.out.mono ?_
      rintro e w' ⟨rfl, rfl⟩
      go_wp2_with fail
      refine HFB.out.mono ?_
      rintro e w' ⟨rfl, rfl⟩
      go_wp2
      go_ret
      exact ⟨rfl, Below.refl _ _⟩
    · rcases Nat.lt_or_ge 100 s.size with hs | hs
      · rw [hfa] at HFA
        rw [hfb] at HFB
        clear hra hsa hE hA hB hfa hfb
        go_enter Tryd.func6, Tryd.ntmps6
        go_wp2_with fail
        refine HFA.out.mono ?_
        rintro e w' ⟨rfl, rfl⟩
        go_wp2_with fail
        refine HFB.out.mono ?_
        rintro e w' ⟨rfl, rfl⟩
        go_wp2
        go_ret
        exact ⟨rfl, Below.refl _ _⟩
      · exact tells_main A B ca cb a b n s w hA hB hE hra hsa hfa hfb hs
end Go.Proofs.YtpjfkhbdhdolfaaDoor
