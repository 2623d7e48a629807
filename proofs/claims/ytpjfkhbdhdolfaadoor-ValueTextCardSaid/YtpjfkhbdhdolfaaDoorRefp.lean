/-
  The reference's Parse, walked: it finds the value whose text is given, or says no.
-/
import Derived.Test.YtpjfkhbdhdolfaaDoorReff
import Derived.Test.YtpjfkhbdhdolfaaDoorVald
import Derived.StillTailTactics
import Derived.IntWalk
namespace Go.Proofs.YtpjfkhbdhdolfaaDoor
open Go.RowKit

/-- The string between the quotes, every second quote of a pair left out. -/
def und : List UInt8 → List UInt8
  | [] => []
  | [_] => []
  | c :: d :: r => if c = 39 then c :: und r else c :: und (d :: r)
theorem und_dbl : ∀ (st : List UInt8), und (dbl st ++ [39]) = st
  | [] => rfl
  | c :: l => by
    have ih := und_dbl l
    by_cases hc : c = 39
    · subst hc
      simp only [dbl, if_true, List.cons_append, und]
      rw [ih]
    · simp only [dbl, if_neg hc, List.cons_append]
      cases h : dbl l ++ [39] with
      | nil => simp at h
      | cons d r => rw [und, if_neg hc, ← h, ih]
theorem und_step {l : List UInt8} {i : Nat} (h : i + 1 < l.length) : und (l.drop i) = if l[i] = 39 then l[i] :: und (l.drop (i + 2)) else l[i] :: und (l.drop (i + 1)) := by
  rw [List.drop_eq_getElem_cons (show i < l.length by omega), List.drop_eq_getElem_cons h, und]
theorem und_end {l : List UInt8} {i : Nat} (h : ¬ i + 1 < l.length) : und (l.drop i) = [] := by
  have hl : (l.drop i).length ≤ 1 := by rw [List.length_drop]; omega
  cases hd : l.drop i with
  | nil => rfl
  | cons c r =>
    cases r with
    | nil => rfl
    | cons d r => rw [hd] at hl; simp at hl
/-- What Parse returns where its candidate is the value (t, n, st). -/
def PPost (t n : Int) (st : ByteArray) (l : List UInt8) (w : World) (e : Ending) (w' : World) : Prop :=
  (fmtL t n st = l → e = .returned (.tuple #[.agg #[.int .i64 t, .int .i64 n, .string st], .bool true])) ∧ (fmtL t n st ≠ l → e = .returned (.tuple #[.agg #[.int .i64 0, .int .i64 0, .string ⟨#[]⟩], .bool false])) ∧ Below w.heap.size w w'
def StrInv (w : World) (l : List UInt8) (i : Value) (wr : World) : Prop := ∃ (k : Nat) (acc : List UInt8), i = .int .i64 k ∧ 1 ≤ k ∧ k ≤ l.length + 1 ∧ acc.length ≤ k ∧ und (l.drop 1) = acc ++ und (l.drop k) ∧ IsBlk wr (w.heap.size + 1) 23 #[.int .i64 2, .int .i64 0, .string ⟨acc.toArray⟩] ∧ IsBlk wr w.heap.size 23 #[.int .i64 0, .int .i64 0, .string ⟨#[]⟩] ∧ Below w.heap.size w wr
set_option maxRecDepth 100000 in
set_option maxHeartbeats 1000000 in
theorem refParse_early (s : ByteArray) (w : World) (h : 130 < s.size ∨ s.size = 0) (hm : s.size ≤ 9223372036854775807) :
    Calls Tryd.prog 13 #[.string s] w fun e w' => e = .returned (.tuple #[.agg #[.int .i64 0, .int .i64 0, .string ⟨#[]⟩], .bool false]) ∧ Below w.heap.size w w' := by
  rcases h with h | h
  · go_enter Tryd.func13, Tryd.ntmps13
    go_wp2
    exact bodyPost_ret (v := .tuple #[.agg #[.int .i64 0, .int .i64 0, .string ⟨#[]⟩], .bool false]) (by simp [results, Tryd.results13, go_sem]) rfl ⟨rfl, (Below.refl _ _).alloc (Nat.le_refl _) _⟩
  · have hz : s = ⟨#[]⟩ := by
      have : s.data.toList = [] := List.eq_nil_of_length_eq_zero (by simpa using h)
      rw [← mk_data s, this]
    subst hz
    clear h hm
    go_enter Tryd.func13, Tryd.ntmps13
    go_wp2
    exact bodyPost_ret (v := .tuple #[.agg #[.int .i64 0, .int .i64 0, .string ⟨#[]⟩], .bool false]) (by simp [results, Tryd.results13, go_sem]) rfl ⟨rfl, (Below.refl _ _).alloc (Nat.le_refl _) _⟩
set_option maxRecDepth 100000 in
set_option maxHeartbeats 2000000 in
theorem refParse_str (s st : ByteArray) (w : World) (h0 : 0 < s.size) (h130 : s.size ≤ 130) (hq : s[0].toNat = 39) (hst : und (s.data.toList.drop 1) = st.data.toList) :
    Calls Tryd.prog 13 #[.string s] w (PPost 2 0 st s.data.toList w) := by
  have HST := Lib.hid hst
  clear hst
  have hll : s.data.toList.length = s.size := by simp
  have hne : s.toList.isEmpty = false := by
    rw [Lib.toList_data]
    cases h : s.data.toList with
    | nil => rw [h] at hll; simp at hll; omega
    | cons a l => rfl
  have hne2 : s.toList ≠ [] := by
    intro e; rw [e] at hne; cases hne
  have hne3 : (s.toList == []) = false := by
    rw [beq_eq_false_iff_ne]; exact hne2
  have HLL := Lib.hid hll
  clear hne2 hll
  go_enter Tryd.func13, Tryd.ntmps13
  go_wp2
  obtain ⟨W, hW, hbW, hgW1, hgW2, hzW⟩ := blk2 w 23 23 #[.int .i64 0, .int .i64 0, .string ⟨#[]⟩] #[.int .i64 2, .int .i64 0, .string ⟨#[]⟩]
  first
    | rw [hW]
    | (go_outline; fail)
  have HB0 := Lib.hid hbW
  have HG1 := Lib.hid hgW1
  have HG2 := Lib.hid hgW2
  clear hW hbW hgW1 hgW2 hzW
  obtain ⟨l, hl⟩ : ∃ l, s.data.toList = l := ⟨_, rfl⟩
  have HL := Lib.hid hl
  rw [hl] at HLL
  clear hl
  go_loopw [5] (fun i wr => StrInv w l i wr) (fun i _ => 200 - (intOf i).toNat)
  case atStart => exact ⟨1, [], rfl, by omega, by omega, by simp, by simp, HG2.out, HG1.out, HB0.out⟩
  case round =>
    obtain ⟨k, acc, rfl, hk1, hkl, hal, hund, hg2, hg1, hbw⟩ := hrel
    have HU := Lib.hid hund
    have HG2 := Lib.hid hg2
    have HG1 := Lib.hid hg1
    have HBW := Lib.hid hbw
    obtain ⟨d0, d1, d2, f0, f1, f2⟩ := hg2.three
    have hlen : l.length ≤ 130 := by have := HLL.out; omega
    clear hund hg2 hg1 hbw
    by_cases hlt : k + 1 < s.size
    · have HEX := Lib.hid (ext_one s k (by omega))
      go_wp2
      have q1 : IntKind.i64.wrap ((k : Int) + 1) = (k : Int) + 1 := IntWalk.i64_in _ (by omega)
      have q2 : (0 : Int) ≤ (k : Int) + 1 := by omega
      have q3 : ((k : Int) + 1).toNat = k + 1 := by omega
      have q4 : (k : Int) + 1 ≤ (s.size : Int) := by omega
      have q5 : (k : Int) ≤ (k : Int) + 1 := by omega
      have q6 : ¬ 9223372036854775807 < acc.length + (min (k + 1) s.size - k) := by omega
      refine wp_region_still_tail 9 (by kernel_rfl) (by kernel_rfl) ?_
      simp only [List.take_succ_cons, List.take_zero, List.drop_succ_cons, List.drop_zero]
      change wpStill _ _ wr.drew _ _ _
      iterate 9 still_step
      refine wpStill_nil ?_
      clear q1 q2 q3 q4 q5 q6
      by_cases h39 : s[k].toNat = 39
      · go_wp2
        have hw := HG2.out.put 2 (.string (⟨acc.toArray⟩ ++ s.extract k (k + 1)))
        refine ⟨⟨k + 2, acc ++ [s[k]], by congr 1, by omega, by have := HLL.out; omega, by simp; omega, ?_, ?_, ?_, ?_⟩, by simp only [intOf]; omega⟩
        · rw [HU.out, und_step (l := l) (i := k) (by have := HLL.out; omega)]
          have : l[k]'(by have := HLL.out; omega) = s[k] := by simp only [← HL.out]; rfl
          rw [this, if_pos (UInt8.toNat.inj h39)]
          simp
        · rw [HEX.out] at hw ⊢
          rw [show (⟨acc.toArray⟩ ++ ⟨#[s[k]]⟩ : ByteArray) = ⟨(acc ++ [s[k]]).toArray⟩ from app_mk acc [s[k]]] at hw ⊢
          exact hw
        · exact (Below.heap_setCell _ _ _ _ (by simp)).trans HG1.out
        · exact (HBW.out.setCell (p := ⟨w.heap.size + 1, 2, none⟩) (by simp) _).drew
      · go_wp2
        have hw := HG2.out.put 2 (.string (⟨acc.toArray⟩ ++ s.extract k (k + 1)))
        refine ⟨⟨k + 1, acc ++ [s[k]], by congr 1, by omega, by have := HLL.out; omega, by simp; omega, ?_, ?_, ?_, ?_⟩, by simp only [intOf]; omega⟩
        · rw [HU.out, und_step (l := l) (i := k) (by have := HLL.out; omega)]
          have : l[k]'(by have := HLL.out; omega) = s[k] := by simp only [← HL.out]; rfl
          rw [this, if_neg (fun e => h39 (by rw [e]; rfl))]
          simp
        · rw [HEX.out] at hw ⊢
          rw [show (⟨acc.toArray⟩ ++ ⟨#[s[k]]⟩ : ByteArray) = ⟨(acc ++ [s[k]]).toArray⟩ from app_mk acc [s[k]]] at hw ⊢
          exact hw
        · exact (Below.heap_setCell _ _ _ _ (by simp)).trans HG1.out
        · exact (HBW.out.setCell (p := ⟨w.heap.size + 1, 2, none⟩) (by simp) _).drew
    · clear d0 d1 d2 f0 f1 f2
      have hnd : acc = st.data.toList := by rw [← HST.out, HL.out, HU.out, und_end (by have := HLL.out; omega)]; simp
      have hsz : st.size ≤ 9223372036854775807 := by have := congrArg List.length hnd; rw [show st.data.toList.length = st.size by simp] at this; omega
      have HSZ := Lib.hid hsz
      rw [hnd, mk_data] at HG2
      clear hsz HU hnd
      obtain ⟨c0, c1, c2, f0, f1, f2⟩ := HG2.out.three
      go_wp2_with fail
      clear c0 c1 c2 f0 f1 f2
      refine (refFmt_any 2 0 st _ (by omega) (by omega) HSZ.out).mono ?_
      rintro e w5 ⟨rfl, hb5⟩
      have HB5 := Lib.hid (HBW.out.trans (hb5.mono HBW.out.size))
      have HG5 := Lib.hid (HG2.out.below hb5 HG2.out.lt)
      have HR5 := Lib.hid (HG1.out.below hb5 HG1.out.lt)
      clear hb5 HG1 HG2 HBW
      obtain ⟨c0, c1, c2, f0, f1, f2⟩ := HG5.out.three
      obtain ⟨d0, d1, d2, g0, g1, g2⟩ := HR5.out.three
      by_cases hsame : fmtL 2 0 st = s.data.toList
      · have hbq := beq_yes (fmtL 2 0 st) s hsame.symm
        go_wp2
        clear c0 c1 c2 f0 f1 f2 d0 d1 d2 g0 g1 g2
        obtain ⟨w6, h6, hg6, hb6, hz6, hk6⟩ := store3 HR5.out (.int .i64 2) (.int .i64 0) (.string st)
        rw [h6]
        obtain ⟨d0, d1, d2, _, _, _⟩ := hg6.three
        exact bodyPost_ret (v := .tuple #[.agg #[.int .i64 2, .int .i64 0, .string st], .bool true]) (by simp [results, Tryd.results13, go_sem, d0, d1, d2]) rfl ⟨fun _ => rfl, fun hn => absurd hsame hn, HB5.out.trans hb6⟩
      · have hbq := beq_no (fmtL 2 0 st) s (fun e => hsame e.symm)
        go_wp2
        clear c0 c1 c2 f0 f1 f2 d0 d1 d2 g0 g1 g2
        obtain ⟨w6, h6, hg6, hb6, hz6, hk6⟩ := store3 HR5.out (.int .i64 0) (.int .i64 0) (.string ⟨#[]⟩)
        rw [h6]
        obtain ⟨d0, d1, d2, _, _, _⟩ := hg6.three
        exact bodyPost_ret (v := .tuple #[.agg #[.int .i64 0, .int .i64 0, .string ⟨#[]⟩], .bool false]) (by simp [results, Tryd.results13, go_sem, d0, d1, d2]) rfl ⟨fun hn => absurd hn hsame, fun _ => rfl, HB5.out.trans hb6⟩
end Go.Proofs.YtpjfkhbdhdolfaaDoor
