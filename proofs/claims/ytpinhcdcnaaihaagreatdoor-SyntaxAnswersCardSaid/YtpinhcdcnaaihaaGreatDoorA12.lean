import Derived.Test.YtpinhcdcnaaihaaGreatDoorA11
namespace Go.Proofs.YtpinhcdcnaaihaaGreatDoor
open Go.RowKit
theorem take_val (l : List Nat) (k : Nat) (h : k < l.length) : nval (l.take (k + 1)) = nval (l.take k) + 4294967296 ^ k * l[k] := by
  have hl : (l.take k).length = k := by rw [List.length_take]; omega
  rw [List.take_succ_eq_append_getElem h, nval_append, hl]
  simp [nval]
theorem snoc_val (l : List Nat) (d k : Nat) (h : l.length = k) : nval (l ++ [d]) = nval l + 4294967296 ^ k * d := by
  subst h
  rw [nval_append]
  simp [nval]
theorem cellsN_set (l : List Nat) (i d : Nat) : cellsN (l.set i d) = (cellsN l).set i (.int .u32 d) := by simp [cellsN, List.map_set]
theorem OwnN.set {w : World} {base g cap i : Nat} {l : List Nat} (h : OwnN w base (.slice (some ⟨g, 0, none⟩) l.length cap) l) (d : Nat) :
    OwnN (w.setCell ⟨g, i, none⟩ (.int .u32 d)) base (.slice (some ⟨g, 0, none⟩) (l.set i d).length cap) (l.set i d) := by
  rcases h.2 with ⟨hv, _⟩ | ⟨g', cap', cur, hv, hb, hg, hn, hm, hs, ht⟩
  · cases hv
  · injection hv with h1 h2 h3
    injection h1 with h1
    injection h1 with h1
    subst h1 h3
    unfold OwnN
    rw [List.length_set]
    refine ⟨by rw [cellsN_length, List.length_set]; omega, .inr ⟨g, cap, cur.setIfInBounds i (.int .u32 d), rfl, hb, ?_, hn, hm, by simpa using hs, ?_⟩⟩
    · simp [World.setCell, Array.getElem?_modify, hg]
    · rw [cellsN_set, ← ht, Array.toList_setIfInBounds, Nat.mul_one, List.take_set]
theorem OwnN.lies {w : World} {base : Nat} {v : Value} {l : List Nat} (h : OwnN w base v l) (hl : 0 < l.length) :
    ∃ g cap, v = .slice (some ⟨g, 0, none⟩) l.length cap ∧ base ≤ g ∧ g < w.heap.size ∧ l.length ≤ cap ∧ cap ≤ 9223372036854775807 := by
  rcases h.2 with ⟨_, hn⟩ | ⟨g, cap, cur, rfl, hb, hg, hn, hm, _⟩
  · omega
  · exact ⟨g, cap, rfl, hb, (Array.getElem?_eq_some_iff.1 hg).1, hn, by unfold maxLen at hm; omega⟩
theorem OwnN.free {w : World} {base g n cap : Nat} {l : List Nat} (h : OwnN w base (.slice (some ⟨g, 0, none⟩) n cap) l) (i : Nat) : w.frozen? ⟨g, i, none⟩ = false := by
  rcases h.2 with ⟨hv, _⟩ | ⟨g', cap', cur, hv, hb, hg, _⟩
  · cases hv
  · injection hv with h1
    injection h1 with h1
    injection h1 with h1
    subst h1
    simp [World.frozen?, hg]
theorem OwnN.cell {w : World} {base g n cap : Nat} {l : List Nat} (h : OwnN w base (.slice (some ⟨g, 0, none⟩) n cap) l) {i : Nat} (hi : i < l.length) : w.cell? ⟨g, i, none⟩ = some (.int .u32 ((l[i] : Nat) : Int)) := by
  rcases h.2 with ⟨hv, _⟩ | ⟨g', cap', cur, hv, hb, hg, _⟩
  · cases hv
  · have := World.ownsRow.cells h (g := g) rfl i (.int .u32 ((l[i] : Nat) : Int)) (by simp [cellsN, List.getElem?_eq_getElem hi])
    rwa [show (⟨g, 0, none⟩ : Addr).add i = ⟨g, i, none⟩ from by unfold Addr.add; split <;> simp_all] at this
def SubInv (w : World) (vx vy : Value) (dx dy : List Nat) (br i : Value) (wr : World) : Prop :=
  ∃ (k b : Nat) (out : List Nat), k ≤ dx.length ∧ i = .int .i64 k ∧ br = .int .u64 b ∧ b ≤ 1 ∧ out.length = k ∧ Digs out ∧ OwnN wr w.heap.size vx (out ++ dx.drop k) ∧ OwnN wr w.heap.size vy dy ∧ nval out + nval (dy.take k) = nval (dx.take k) + 4294967296 ^ k * b ∧ Below w.heap.size w wr
theorem sub_step {out dx dy : List Nat} {k b nb x y g : Nat} (hk : k < dx.length) (ho : out.length = k) (he : nval out + nval (dy.take k) = nval (dx.take k) + 4294967296 ^ k * b) (hx : dx[k] = x) (hy : nval (dy.take (k + 1)) = nval (dy.take k) + 4294967296 ^ k * y) (hg : g + (b + y) = x + 4294967296 * nb) :
    nval (out ++ [g]) + nval (dy.take (k + 1)) = nval (dx.take (k + 1)) + 4294967296 ^ (k + 1) * nb := by
  rw [snoc_val out g k ho, take_val dx k hk, hx, hy, Nat.pow_succ]
  generalize 4294967296 ^ k = P at *
  have h1 : P * (g + (b + y)) = P * (x + 4294967296 * nb) := by rw [hg]
  rw [Nat.mul_add, Nat.mul_add, Nat.mul_add] at h1
  rw [Nat.mul_assoc]
  omega
theorem row_next {out dx : List Nat} {k g : Nat} (hk : k < dx.length) (ho : out.length = k) : (out ++ dx.drop k).set k g = (out ++ [g]) ++ dx.drop (k + 1) := by
  subst ho
  rw [List.set_append_right _ _ (Nat.le_refl _), List.drop_eq_getElem_cons hk, Nat.sub_self, List.set_cons_zero, List.append_assoc]
  rfl
theorem row_at {out dx : List Nat} {k : Nat} (hk : k < dx.length) (ho : out.length = k) : ∃ h : k < (out ++ dx.drop k).length, (out ++ dx.drop k)[k] = dx[k] := by
  subst ho
  refine ⟨by simp; omega, ?_⟩
  rw [List.getElem_append_right (Nat.le_refl _)]
  simp
theorem SubInv.next {w wr : World} {gx cx : Nat} {vy : Value} {dx dy out : List Nat} {k b nb x0 y0 g : Nat} {z q i : Int} (hk : k < dx.length) (hol : out.length = k) (hod : Digs out) (hox : OwnN wr w.heap.size (.slice (some ⟨gx, 0, none⟩) dx.length cx) (out ++ dx.drop k)) (hoy : OwnN wr w.heap.size vy dy) (hf : vy.ownBlock ≠ some gx)
    (he : nval out + nval (dy.take k) = nval (dx.take k) + 4294967296 ^ k * b) (hx : dx[k] = x0) (hy : nval (dy.take (k + 1)) = nval (dy.take k) + 4294967296 ^ k * y0) (hbw : Below w.heap.size w wr) (hgb : w.heap.size ≤ gx)
    (hz : z = (g : Int)) (hq : q = (nb : Int)) (hi : i = ((k + 1 : Nat) : Int)) (hg : g + (b + y0) = x0 + 4294967296 * nb) (hg32 : g < 4294967296) (hnb : nb ≤ 1) : SubInv w (.slice (some ⟨gx, 0, none⟩) dx.length cx) vy dx dy (.int .u64 q) (.int .i64 i) (wr.setCell ⟨gx, k, none⟩ (.int .u32 z)) := by
  subst hz hq hi
  refine ⟨k + 1, nb, out ++ [g], hk, rfl, rfl, hnb, by simp [hol], fun d hd => ?_, ?_, own_other hoy hf (fun j hj => Below.heap_setCell _ _ _ _ hj), sub_step hk hol he hx hy hg, hbw.setCell (p := ⟨gx, k, none⟩) hgb _⟩
  · rcases List.mem_append.1 hd with h | h
    · exact hod d h
    · simp at h; omega
  · have hlen : (out ++ dx.drop k).length = dx.length := by simp [hol]; omega
    have h1 : OwnN wr w.heap.size (.slice (some ⟨gx, 0, none⟩) (out ++ dx.drop k).length cx) (out ++ dx.drop k) := by rw [hlen]; exact hox
    have h2 := h1.set (i := k) g
    rw [List.length_set, hlen, row_next hk hol] at h2
    exact h2
def SubPost (n : Nat) (w : World) (e : Ending) (w' : World) : Prop := ∃ v, e = .returned (.tuple #[v, .bool true]) ∧ OwnN w' w.heap.size v (digs n) ∧ Below w.heap.size w w'
theorem OwnN.base_le {w : World} {b b' : Nat} {v : Value} {l : List Nat} (h : OwnN w b' v l) (hb : b ≤ b') : OwnN w b v l := by
  refine ⟨h.1, ?_⟩
  rcases h.2 with h2 | ⟨g, cap, cur, e, hg, r⟩
  · exact .inl h2
  · exact .inr ⟨g, cap, cur, e, by omega, r⟩
set_option maxRecDepth 100000 in
set_option maxHeartbeats 2000000 in
theorem sub_any (A B : Option Addr) (ca cb : Nat) (x y : List Nat) (w : World) (hA : IsN w A ca x) (hB : IsN w B cb y) (hlx : x.length ≤ 1073741823) (hly : y.length ≤ 1073741823) (hle : nval y ≤ nval x) :
    Calls Tryz.prog 96 #[.slice A x.length ca, .slice B y.length cb] w (SubPost (nval x - nval y) w) := by
  have HA := Lib.hid hA
  have HB := Lib.hid hB
  clear hA hB
  have hdx : (digs (nval x)).length ≤ x.length := digs_length_le (nval_lt x HA.out.ok)
  have hdy : (digs (nval y)).length ≤ y.length := digs_length_le (nval_lt y HB.out.ok)
  have hcmp : 0 ≤ cmpI (nval x : Int) (nval y : Int) := by
    rcases Nat.lt_or_ge (nval y) (nval x) with h | h
    · rw [cmpN_gt h]; decide
    · rw [cmpN_eq (by omega)]; decide
  obtain ⟨cm, hcm⟩ : ∃ cm, cmpI (nval x : Int) (nval y : Int) = cm := ⟨_, rfl⟩
  have HCM := Lib.hid hcm
  rw [hcm] at hcmp
  clear hcm
  go_enter Tryz.func96, Tryz.ntmps96
  go_wp2_with fail
  refine (cmp_any A B ca cb x y _ HA.out HB.out hlx hly).mono ?_
  rintro e w0 ⟨he, hb0⟩
  rw [HCM.out] at he
  subst he
  have HB0 := Lib.hid hb0
  have hs0 := hb0.size
  clear hb0
  go_wp2_with fail
  refine (norm_any A ca x _ (HA.out.below HB0.out) hlx).mono ?_
  rintro e w1 ⟨vx, rfl, ho1, hb1⟩
  have HO1 := Lib.hid ho1
  have HB1 := Lib.hid (below_then HB0.out hb1 hs0)
  have HS1 := Lib.hid hb1
  have hs1 : w.heap.size ≤ w1.heap.size := Nat.le_trans hs0 hb1.size
  clear ho1 hb1
  go_wp2_with fail
  refine (norm_any B cb y _ (HB.out.below HB1.out) hly).mono ?_
  rintro e w2 ⟨vy, rfl, ho2, hb2⟩
  have HX2 := Lib.hid ((HO1.out.below hb2).base_le hs0)
  have HY2 := Lib.hid (ho2.base_le hs1)
  have HFY : Hid (∀ g, vx.ownBlock = some g → vy.ownBlock ≠ some g) := fun g h1 h2 => by
    have a1 := (HO1.out.lt g h1).2
    have a2 := (ho2.lt g h2).1
    omega
  have HB2 := Lib.hid (below_then HB1.out hb2 hs1)
  have hs2 : w.heap.size ≤ w2.heap.size := Nat.le_trans hs1 hb2.size
  clear ho2 hb2 HO1 HS1
  have HEX := Lib.hid (nval_digs (nval x))
  have HEY := Lib.hid (nval_digs (nval y))
  have HDX := Lib.hid (digs_lt (nval x))
  have HDY := Lib.hid (digs_lt (nval y))
  obtain ⟨dx, hdxe⟩ : ∃ dx, digs (nval x) = dx := ⟨_, rfl⟩
  obtain ⟨dy, hdye⟩ : ∃ dy, digs (nval y) = dy := ⟨_, rfl⟩
  have HLX := Lib.hid (congrArg List.length hdxe)
  have HLY := Lib.hid (congrArg List.length hdye)
  rw [hdxe] at HX2 hdx HEX HDX
  rw [hdye] at HY2 hdy HEY HDY
  clear hdxe hdye
  obtain ⟨Ay, cy, e, HIY⟩ : ∃ A c, vy = .slice A dy.length c ∧ True := by
    obtain ⟨A, c, h, _⟩ := HY2.out.is HDY.out
    exact ⟨A, c, h, trivial⟩
  subst e
  obtain ⟨Ax, cx, e, HIX⟩ : ∃ A c, vx = .slice A dx.length c ∧ True := by
    obtain ⟨A, c, h, _⟩ := HX2.out.is HDX.out
    exact ⟨A, c, h, trivial⟩
  subst e
  go_wp2
  go_loopw [8, 9] (fun br i wr => SubInv w (.slice Ax dx.length cx) (.slice Ay dy.length cy) dx dy br i wr) (fun _ i _ => dx.length - (intOf i).toNat)
  case atStart => exact ⟨0, 0, [], Nat.zero_le _, rfl, rfl, by omega, rfl, fun d hd => by simp at hd, by simpa using HX2.out, HY2.out, by simp [nval], HB2.out⟩
  case round =>
    obtain ⟨k, b, out, hk, rfl, rfl, hb, hol, hod, hox, hoy, heq, hbw⟩ := hrel
    have HOX := Lib.hid hox
    have HOY := Lib.hid hoy
    have HQ := Lib.hid heq
    have HBW := Lib.hid hbw
    have HOL := Lib.hid hol
    have HOD := Lib.hid hod
    have hsr := hbw.size
    clear hox hoy heq hbw hol hod
    by_cases hlt : k < dx.length
    · obtain ⟨gx, cap, e, hgb, hglt, _, _⟩ := HOX.out.lies (by have := HOL.out; simp; omega)
      injection e with e1 e2 e3
      subst e1 e3
      have HFY := Lib.hid (HFY.out gx rfl)
      obtain ⟨hra, hrx⟩ := row_at hlt HOL.out
      obtain ⟨x0, hx0⟩ : ∃ x0, dx[k] = x0 := ⟨_, rfl⟩
      have hcx := HOX.out.cell hra
      rw [hrx, hx0] at hcx
      have hfx := HOX.out.free k
      have hx32 : x0 < 4294967296 := by rw [← hx0]; exact HDX.out _ (List.getElem_mem hlt)
      have HX0 := Lib.hid hx0
      clear hx0 hrx hra e2
      by_cases hky : k < dy.length
      · obtain ⟨gy, capy, e, _, _, _, _⟩ := HOY.out.lies (by omega)
        injection e with e1 e2 e3
        subst e1 e3
        clear e2
        have hcy := HOY.out.cell hky
        obtain ⟨y0, hy0⟩ : ∃ y0, dy[k] = y0 := ⟨_, rfl⟩
        rw [hy0] at hcy
        have hy32 : y0 < 4294967296 := by rw [← hy0]; exact HDY.out _ (List.getElem_mem hky)
        have HY0 := Lib.hid (show nval (dy.take (k + 1)) = nval (dy.take k) + 4294967296 ^ k * y0 by rw [take_val dy k hky, hy0])
        clear hy0
        by_cases hb1 : x0 < b + y0
        · go_wp2
          go_roundw
          case rel => exact SubInv.next (g := x0 + 4294967296 - (b + y0)) (nb := 1) hlt HOL.out HOD.out HOX.out HOY.out HFY.out HQ.out HX0.out HY0.out HBW.out hgb (by omega) rfl (by omega) (by omega) (by omega) (by omega)
          case measure => simp [intOf]; omega
        · go_wp2
          go_roundw
          case rel => exact SubInv.next (g := x0 - (b + y0)) (nb := 0) hlt HOL.out HOD.out HOX.out HOY.out HFY.out HQ.out HX0.out HY0.out HBW.out hgb (by omega) rfl (by omega) (by omega) (by omega) (by omega)
          case measure => simp [intOf]; omega
      · have HY0 := Lib.hid (show nval (dy.take (k + 1)) = nval (dy.take k) + 4294967296 ^ k * 0 by rw [List.take_of_length_le (i := k + 1) (by omega), List.take_of_length_le (i := k) (by omega)]; simp)
        by_cases hb1 : x0 < b
        · go_wp2
          go_roundw
          case rel => exact SubInv.next (y0 := 0) (g := x0 + 4294967296 - b) (nb := 1) hlt HOL.out HOD.out HOX.out HOY.out HFY.out HQ.out HX0.out HY0.out HBW.out hgb (by omega) rfl (by omega) (by omega) (by omega) (by omega)
          case measure => simp [intOf]; omega
        · go_wp2
          go_roundw
          case rel => exact SubInv.next (y0 := 0) (g := x0 - b) (nb := 0) hlt HOL.out HOD.out HOX.out HOY.out HFY.out HQ.out HX0.out HY0.out HBW.out hgb (by omega) rfl (by omega) (by omega) (by omega) (by omega)
          case measure => simp [intOf]; omega
    · obtain rfl : k = dx.length := by omega
      have hdl : dy.length ≤ dx.length := by
        have := digs_length_mono hle
        rw [HLX.out, HLY.out] at this
        exact this
      have hv : nval out = nval x - nval y := by
        have h1 := HQ.out
        rw [List.take_of_length_le hdl, List.take_length, HEX.out, HEY.out] at h1
        have h2 := nval_lt out HOD.out
        rw [HOL.out] at h2
        have h3 : b = 0 ∨ b = 1 := by omega
        rcases h3 with rfl | rfl
        · rw [Nat.mul_zero] at h1; omega
        · rw [Nat.mul_one] at h1; omega
      have HV := Lib.hid hv
      clear hv
      have hox : OwnN wr w.heap.size (.slice Ax dx.length cx) out := by have := HOX.out; rwa [List.drop_length, List.append_nil] at this
      have hix : IsN wr Ax cx out := by
        obtain ⟨A', c', e, hi⟩ := hox.is HOD.out
        injection e with e1 e2 e3
        subst e1 e3
        exact hi
      have HIX := Lib.hid hix
      clear hox hix
      have hnorm := norm_any Ax cx out wr HIX.out (by have := HOL.out; omega)
      rw [HOL.out, HV.out] at hnorm
      have HNM := Lib.hid hnorm
      clear hnorm
      go_wp2_with fail
      refine HNM.out.mono ?_
      rintro e w5 ⟨v5, rfl, ho5, hb5⟩
      have HO5 := Lib.hid (ho5.base_le hsr)
      have HB5 := Lib.hid (below_then HBW.out hb5 hsr)
      clear ho5 hb5
      go_wp2
      go_ret2
      exact ⟨v5, rfl, HO5.out, HB5.out⟩
end Go.Proofs.YtpinhcdcnaaihaaGreatDoor
namespace Go.Proofs.YtpinhcdcnaaihaaGreatDoor
open Go.RowKit
theorem or_low (a b : Nat) (ha : a < 4294967296) (hb : b ≤ 1) (he : a % 2 = 0) : bits .or .u32 (a : Int) (b : Int) = ((a + b : Nat) : Int) := by
  rw [u32_or_nat a b ha (by omega)]
  have h : a ||| b = a + b := by
    have := Nat.shiftLeft_add_eq_or_of_lt (i := 1) (b := b) (by omega) (a / 2)
    rw [Nat.shiftLeft_eq] at this
    rw [show a / 2 * 2 ^ 1 = a by omega] at this
    exact this.symm
  rw [h]
def DblInv (w : World) (ds : List Nat) (bit : Nat) (v c i : Value) (wr : World) : Prop :=
  ∃ (k cy : Nat) (o : List Nat), k ≤ ds.length ∧ i = .int .i64 k ∧ c = .int .u32 cy ∧ cy ≤ 1 ∧ o.length = k ∧ Digs o ∧ OwnN wr w.heap.size v o ∧ nval o + 4294967296 ^ k * cy = 2 * nval (ds.take k) + bit ∧ Below w.heap.size w wr
theorem DblInv.next {w wr : World} {ds o : List Nat} {bit k cy d : Nat} {v : Value} {x i : Int} (hk : k < ds.length) (hol : o.length = k) (hod : Digs o) (hd : ds[k] = d) (hd32 : d < 4294967296) (hcy : cy ≤ 1) (hown : OwnN wr w.heap.size v (o ++ [d * 2 % 4294967296 + cy])) (he : nval o + 4294967296 ^ k * cy = 2 * nval (ds.take k) + bit) (hb : Below w.heap.size w wr)
    (hx : x = ((d / 2147483648 : Nat) : Int)) (hi : i = ((k + 1 : Nat) : Int)) : DblInv w ds bit v (.int .u32 x) (.int .i64 i) wr := by
  subst hx hi
  refine ⟨k + 1, d / 2147483648, o ++ [d * 2 % 4294967296 + cy], hk, rfl, rfl, by omega, by simp [hol], fun e hm => ?_, hown, ?_, hb⟩
  · rcases List.mem_append.1 hm with h | h
    · exact hod e h
    · simp at h; omega
  · rw [snoc_val _ _ k hol, take_val ds k hk, hd, Nat.pow_succ]
    generalize 4294967296 ^ k = P at *
    have h1 : P * (d * 2 % 4294967296 + cy) + P * (4294967296 * (d / 2147483648)) = P * (2 * d) + P * cy := by
      rw [← Nat.mul_add, ← Nat.mul_add]; congr 1; omega
    rw [Nat.mul_assoc]
    have h2 : P * (2 * d) = 2 * (P * d) := by rw [← Nat.mul_assoc, Nat.mul_comm P 2, Nat.mul_assoc]
    omega
set_option maxRecDepth 100000 in
set_option maxHeartbeats 2000000 in
theorem double_any (A : Option Addr) (c : Nat) (ds : List Nat) (bit : Nat) (w : World) (h : IsN w A c ds) (hl : ds.length ≤ 1073741822) (hbit : bit ≤ 1) :
    Calls Tryz.prog 97 #[.slice A ds.length c, .int .u32 bit] w (NatPost (2 * nval ds + bit) w) := by
  have HI := Lib.hid h
  clear h
  go_enter Tryz.func97, Tryz.ntmps97
  go_wp2
  go_loopw [1, 5, 6] (fun cb v i wr => DblInv w ds bit v cb i wr) (fun _ _ i _ => ds.length - (intOf i).toNat)
  case atStart => exact ⟨0, bit, [], Nat.zero_le _, rfl, rfl, hbit, rfl, fun d hd => by simp at hd, OwnN.nil _ _, by simp [nval], Below.refl _ _⟩
  case round =>
    obtain ⟨k, cy, o, hk, rfl, rfl, hcy, hol, hod, hown, heq, hbw⟩ := hrel
    have HO := Lib.hid hown
    have HQ := Lib.hid heq
    have HB := Lib.hid hbw
    have HOL := Lib.hid hol
    have HOD := Lib.hid hod
    have hsr := hbw.size
    have hol' : o.length ≤ 1073741822 := by omega
    clear hown heq hbw hol hod
    by_cases hlt : k < ds.length
    · obtain ⟨b, off, rfl, hb, hc⟩ := HI.out.digit hlt
      obtain ⟨d, hd⟩ : ∃ d, ds[k] = d := ⟨_, rfl⟩
      have hce := (HB.out.cell (p := ⟨b, off + k, none⟩) hb).trans (hc k hlt)
      rw [hd] at hce
      have hd32 : d < 4294967296 := by rw [← hd]; exact HI.out.ok _ (List.getElem_mem hlt)
      have HD := Lib.hid hd
      have hor := or_low (d * 2 % 4294967296) cy (by omega) hcy (by omega)
      rw [show ((d * 2 % 4294967296 : Nat) : Int) = (d : Int) * 2 % 4294967296 by omega] at hor
      have HOR := Lib.hid hor
      clear hor
      clear hc hd
      go_wp2_with (at_builtin; refine app_digit w.heap.size _ o _ (d * 2 % 4294967296 + cy) (.tmp 13) (.tmp 21) rfl rfl rfl rfl HO.out HOR.out (by omega) hsr ?_; intro v2 w2 hown2 hgr2; have HO2 := Lib.hid hown2; have HR2 := Lib.hid hgr2; have hce := (hgr2.below.cell (p := ⟨b, off + k, none⟩) hb).trans hce; clear hown2 hgr2)
      go_roundw
      case rel => exact DblInv.next hlt HOL.out HOD.out HD.out hd32 hcy HO2.out HQ.out (HB.out.trans HR2.out.below) (by omega) (by omega)
      case measure => simp [intOf]; omega
    · obtain rfl : k = ds.length := by omega
      have hv : nval (o ++ [cy]) = 2 * nval ds + bit := by
        have := HQ.out
        rw [List.take_length] at this
        rw [snoc_val o cy _ HOL.out]; omega
      have HV := Lib.hid hv
      have HDO : Hid (Digs (o ++ [cy])) := fun e hm => by
        rcases List.mem_append.1 hm with h | h
        · exact HOD.out e h
        · simp at h; omega
      obtain ⟨L, hL⟩ : ∃ L, o ++ [cy] = L := ⟨_, rfl⟩
      have hLl : L.length ≤ 1073741823 := by rw [← hL]; simp; omega
      have HL := Lib.hid hL
      rw [hL] at HV HDO
      clear hv hL
      go_wp2_with (at_builtin; refine app_digit w.heap.size _ o _ cy (.tmp 28) (.tmp 30) rfl rfl rfl rfl HO.out rfl (by omega) hsr ?_; intro v2 w2 hown2 hgr2; rw [HL.out] at hown2; have HR2 := Lib.hid hgr2; obtain ⟨A2, c2, e2, hi2⟩ := hown2.is HDO.out; subst e2; have HI2 := Lib.hid hi2; have hs2 : w.heap.size ≤ w2.heap.size := Nat.le_trans hsr hgr2.size; clear hown2 hgr2 hi2)
      refine (norm_any A2 c2 L _ HI2.out hLl).mono ?_
      rintro e w3 ⟨v3, rfl, ho3, hb3⟩
      rw [HV.out] at ho3
      have HO3 := Lib.hid (ho3.base_le hs2)
      have HB3 := Lib.hid ((HB.out.trans HR2.out.below).trans (hb3.mono hs2))
      clear ho3 hb3
      go_wp2
      go_ret
      exact ⟨v3, rfl, HO3.out, HB3.out⟩
def HalfInv (w : World) (ds : List Nat) (v i : Value) (wr : World) : Prop :=
  ∃ (k : Nat) (o : List Nat), k ≤ ds.length ∧ i = .int .i64 k ∧ o.length = k ∧ Digs o ∧ OwnN wr w.heap.size v o ∧ 2 * nval o + ds.getD 0 0 % 2 = nval (ds.take k) + 4294967296 ^ k * (ds.getD k 0 % 2) ∧ Below w.heap.size w wr
theorem HalfInv.next {w wr : World} {ds o : List Nat} {k d nx : Nat} {v : Value} {i : Int} (hk : k < ds.length) (hol : o.length = k) (hod : Digs o) (hd : ds[k] = d) (hn : ds.getD (k + 1) 0 % 2 = nx) (hd32 : d < 4294967296) (hown : OwnN wr w.heap.size v (o ++ [d / 2 + 2147483648 * nx]))
    (he : 2 * nval o + ds.getD 0 0 % 2 = nval (ds.take k) + 4294967296 ^ k * (ds.getD k 0 % 2)) (hb : Below w.heap.size w wr) (hi : i = ((k + 1 : Nat) : Int)) : HalfInv w ds v (.int .i64 i) wr := by
  subst hi
  have hg : ds.getD k 0 = d := by rw [List.getD_eq_getElem?_getD, List.getElem?_eq_getElem hk, Option.getD_some, hd]
  have hnx : nx ≤ 1 := by omega
  refine ⟨k + 1, o ++ [d / 2 + 2147483648 * nx], hk, rfl, by simp [hol], fun e hm => ?_, hown, ?_, hb⟩
  · rcases List.mem_append.1 hm with h | h
    · exact hod e h
    · simp at h; omega
  · rw [snoc_val _ _ k hol, take_val ds k hk, hd, hn, Nat.pow_succ]
    rw [hg] at he
    generalize 4294967296 ^ k = P at *
    have h1 : 2 * (P * (d / 2 + 2147483648 * nx)) + P * (d % 2) = P * d + P * (4294967296 * nx) := by
      rw [← Nat.mul_add, ← Nat.mul_assoc, Nat.mul_comm 2 P, Nat.mul_assoc, ← Nat.mul_add]; congr 1; omega
    rw [Nat.mul_assoc, Nat.mul_add]
    omega
theorem or_high (a x : Nat) (ha : a < 2147483648) : bits .or .u32 (a : Int) ((x * 2147483648 % 4294967296 : Nat) : Int) = ((a + 2147483648 * (x % 2) : Nat) : Int) := by
  have e : x * 2147483648 % 4294967296 = 2147483648 * (x % 2) := by omega
  rw [e, u32_or_nat a (2147483648 * (x % 2)) (by omega) (by omega)]
  have h : a ||| 2147483648 * (x % 2) = 2147483648 * (x % 2) + a := by
    have := Nat.shiftLeft_add_eq_or_of_lt (i := 31) (b := a) (by omega) (x % 2)
    rw [Nat.shiftLeft_eq] at this
    rw [Nat.or_comm, show 2147483648 * (x % 2) = x % 2 * 2 ^ 31 by omega]
    exact this.symm
  rw [h, Nat.add_comm]
set_option maxRecDepth 100000 in
set_option maxHeartbeats 2000000 in
theorem half_any (A : Option Addr) (c : Nat) (ds : List Nat) (w : World) (h : IsN w A c ds) (hl : ds.length ≤ 1073741822) :
    Calls Tryz.prog 95 #[.slice A ds.length c] w (NatPost (nval ds / 2) w) := by
  have HI := Lib.hid h
  clear h
  go_enter Tryz.func95, Tryz.ntmps95
  go_wp2
  go_loopw [3, 4] (fun v i wr => HalfInv w ds v i wr) (fun _ i _ => ds.length - (intOf i).toNat)
  case atStart => exact ⟨0, [], Nat.zero_le _, rfl, rfl, fun d hd => by simp at hd, OwnN.nil _ _, by simp [nval], Below.refl _ _⟩
  case round =>
    obtain ⟨k, o, hk, rfl, hol, hod, hown, heq, hbw⟩ := hrel
    have HO := Lib.hid hown
    have HQ := Lib.hid heq
    have HB := Lib.hid hbw
    have HOL := Lib.hid hol
    have HOD := Lib.hid hod
    have hsr := hbw.size
    have hol' : o.length ≤ 1073741822 := by omega
    clear hown heq hbw hol hod
    by_cases hlt : k < ds.length
    · obtain ⟨b, off, rfl, hb, hc⟩ := HI.out.digit hlt
      obtain ⟨d, hd⟩ : ∃ d, ds[k] = d := ⟨_, rfl⟩
      have hce := (HB.out.cell (p := ⟨b, off + k, none⟩) hb).trans (hc k hlt)
      rw [hd] at hce
      have hd32 : d < 4294967296 := by rw [← hd]; exact HI.out.ok _ (List.getElem_mem hlt)
      have HD := Lib.hid hd
      clear hd
      by_cases hlt2 : k + 1 < ds.length
      · obtain ⟨x, hx⟩ : ∃ x, ds[k + 1] = x := ⟨_, rfl⟩
        have hce2 := (HB.out.cell (p := ⟨b, off + (k + 1), none⟩) hb).trans (hc (k + 1) hlt2)
        rw [hx] at hce2
        have hx32 : x < 4294967296 := by rw [← hx]; exact HI.out.ok _ (List.getElem_mem hlt2)
        have HN := Lib.hid (show ds.getD (k + 1) 0 % 2 = x % 2 by rw [List.getD_eq_getElem?_getD, List.getElem?_eq_getElem hlt2, Option.getD_some, hx])
        have hor := or_high (d / 2) x (by omega)
        rw [show ((d / 2 : Nat) : Int) = (d : Int) / 2 by omega, show ((x * 2147483648 % 4294967296 : Nat) : Int) = (x : Int) * 2147483648 % 4294967296 by omega] at hor
        have HOR := Lib.hid hor
        clear hor hx hc
        go_wp2_with (at_builtin; refine app_digit w.heap.size _ o _ (d / 2 + 2147483648 * (x % 2)) (.tmp 30) (.tmp 32) rfl rfl rfl rfl HO.out HOR.out (by omega) hsr ?_; intro v2 w2 hown2 hgr2; have HO2 := Lib.hid hown2; have HR2 := Lib.hid hgr2; clear hown2 hgr2)
        go_roundw
        case rel => exact HalfInv.next hlt HOL.out HOD.out HD.out HN.out hd32 HO2.out HQ.out (HB.out.trans HR2.out.below) (by omega)
        case measure => simp [intOf]; omega
      · have HN := Lib.hid (show ds.getD (k + 1) 0 % 2 = 0 by rw [List.getD_eq_getElem?_getD, List.getElem?_eq_none (by omega)]; rfl)
        clear hc
        go_wp2_with (at_builtin; refine app_digit w.heap.size _ o _ (d / 2 + 2147483648 * 0) (.tmp 30) (.tmp 32) rfl rfl rfl rfl HO.out (by omega) (by omega) hsr ?_; intro v2 w2 hown2 hgr2; have HO2 := Lib.hid hown2; have HR2 := Lib.hid hgr2; clear hown2 hgr2)
        go_roundw
        case rel => exact HalfInv.next hlt HOL.out HOD.out HD.out HN.out hd32 HO2.out HQ.out (HB.out.trans HR2.out.below) (by omega)
        case measure => simp [intOf]; omega
    · obtain rfl : k = ds.length := by omega
      have hv : nval o = nval ds / 2 := by
        have h1 := HQ.out
        rw [List.take_length, List.getD_eq_getElem?_getD (i := ds.length), List.getElem?_eq_none (Nat.le_refl _)] at h1
        simp only [Option.getD_none, Nat.zero_mod, Nat.mul_zero, Nat.add_zero] at h1
        omega
      have HV := Lib.hid hv
      clear hv
      obtain ⟨A2, c2, e2, hi2⟩ := HO.out.is HOD.out
      subst e2
      have HI2 := Lib.hid hi2
      clear hi2
      go_wp2_with fail
      refine (norm_any A2 c2 o _ HI2.out (by omega)).mono ?_
      rintro e w3 ⟨v3, rfl, ho3, hb3⟩
      rw [HV.out] at ho3
      have HO3 := Lib.hid (ho3.base_le hsr)
      have HB3 := Lib.hid (below_then HB.out hb3 hsr)
      clear ho3 hb3
      go_wp2
      go_ret
      exact ⟨v3, rfl, HO3.out, HB3.out⟩
end Go.Proofs.YtpinhcdcnaaihaaGreatDoor
