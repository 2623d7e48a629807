/-
  The law ValueText, walked: for every value, every string, every place and every byte it returns true.
-/
import Derived.Test.YtpjfkhbdhdolfaaDoorMonb
import Derived.Test.YtpjfkhbdhdolfaaDoorRefr
import Derived.Test.YtpjfkhbdhdolfaaDoorIsb
import Derived.Test.YtpjfkhbdhdolfaaDoorConv
import Derived.Lib.ConvBytes
import Derived.Lib.SmallJoins
namespace Go.Proofs.YtpjfkhbdhdolfaaDoor
open Go.RowKit

/-- An operation that is run, or one whose guard says no. -/
def StepS (P : Program) (ops : Array Oper) (dsts : List (Option Nat)) (t : Array Value) (R : Nat → Value → World → Prop) (cons : Nat → Option Nat) (WI : World → Prop) (Ext : Nat → World → World → Prop) (i : Nat) (o : Oper) : Prop :=
  (GuardOk ops dsts R cons i o.guard ∧ ∀ (T : Nat → Value) (W : World), Given ops dsts t R cons WI i T W → OpRuns P o T W fun v W' => R i v W' ∧ Ext i W W') ∨
  (∃ j b n s, o.guard = some (j, b) ∧ (j != i && reach ops n i j && cons j == none && dsts[j]? == some (some s)) = true ∧ (∀ v W, R j v W → v = .bool (!b)) ∧ ∀ v W, R i v W)
def StepsS (P : Program) (ops : Array Oper) (dsts : List (Option Nat)) (t : Array Value) (R : Nat → Value → World → Prop) (cons : Nat → Option Nat) (WI : World → Prop) (Ext : Nat → World → World → Prop) : Nat → List Oper → Prop
  | _, [] => True
  | i, o :: l => StepS P ops dsts t R cons WI Ext i o ∧ StepsS P ops dsts t R cons WI Ext (i + 1) l
theorem StepsS.at {P : Program} {ops : Array Oper} {dsts : List (Option Nat)} {t : Array Value} {R : Nat → Value → World → Prop} {cons : Nat → Option Nat} {WI : World → Prop} {Ext : Nat → World → World → Prop} : ∀ (l : List Oper) (n : Nat), StepsS P ops dsts t R cons WI Ext n l → ∀ (k : Nat) (o : Oper), l[k]? = some o → StepS P ops dsts t R cons WI Ext (n + k) o
  | [], _, _, k, o, h => by simp at h
  | x :: l, n, hs, 0, o, h => by
    simp only [List.getElem?_cons_zero, Option.some.injEq] at h
    subst h
    exact hs.1
  | x :: l, n, hs, k + 1, o, h => by
    have := StepsS.at l (n + 1) hs.2 k o (by simpa using h)
    rw [show n + 1 + k = n + (k + 1) by omega] at this
    exact this
theorem StepsS.nil {P : Program} {ops : Array Oper} {dsts : List (Option Nat)} {t : Array Value} {R : Nat → Value → World → Prop} {cons : Nat → Option Nat} {WI : World → Prop} {Ext : Nat → World → World → Prop} {i : Nat} : StepsS P ops dsts t R cons WI Ext i [] := trivial
theorem StepsS.cons {P : Program} {ops : Array Oper} {dsts : List (Option Nat)} {t : Array Value} {R : Nat → Value → World → Prop} {cons : Nat → Option Nat} {WI : World → Prop} {Ext : Nat → World → World → Prop} {i : Nat} {o : Oper} {l : List Oper}
    (hg : GuardOk ops dsts R cons i o.guard) (h : ∀ (T : Nat → Value) (W : World), Given ops dsts t R cons WI i T W → OpRuns P o T W fun v W' => R i v W' ∧ Ext i W W') (hs : StepsS P ops dsts t R cons WI Ext (i + 1) l) : StepsS P ops dsts t R cons WI Ext i (o :: l) := ⟨.inl ⟨hg, h⟩, hs⟩
theorem StepsS.skip {P : Program} {ops : Array Oper} {dsts : List (Option Nat)} {t : Array Value} {R : Nat → Value → World → Prop} {cons : Nat → Option Nat} {WI : World → Prop} {Ext : Nat → World → World → Prop} {i : Nat} {o : Oper} {l : List Oper} {j : Nat} {b : Bool} (n s : Nat)
    (hg : o.guard = some (j, b)) (hr : (j != i && reach ops n i j && cons j == none && dsts[j]? == some (some s)) = true) (hR : ∀ v W, R j v W → v = .bool (!b)) (hi : ∀ v W, R i v W) (hs : StepsS P ops dsts t R cons WI Ext (i + 1) l) : StepsS P ops dsts t R cons WI Ext i (o :: l) := ⟨.inr ⟨j, b, n, s, hg, hr, hR, hi⟩, hs⟩
theorem wp_region_skip {P : Program} {id : Nat} {ops : Array Oper} {Q : Exit → Act → World → Prop} {a : Act} {w : World} (dsts : List (Option Nat)) (R : Nat → Value → World → Prop) (cons : Nat → Option Nat) (WI : World → Prop) (Ext : Nat → World → World → Prop)
    (hm : P.follows .mixedOrders = true) (hac : acyclic ops = true) (hd : ops.toList.map (·.dst) = dsts) (hap : apartL a.tmps.size dsts = true)
    (hext : ∀ i W W', WI W → Ext i W W' → WI W') (hstab : ∀ i j v W W', cons j ≠ some i → WI W → R j v W → Ext i W W' → R j v W') (h0 : WI w.drew)
    (hstep : StepsS P ops dsts a.tmps R cons WI Ext 0 ops.toList)
    (hend : ∀ (us : List Value) (W : World), us.length = dsts.length → (∀ j, j < ops.size → cons j = none → R j (us.getD j undef) W) → WI W → Q .normal ⟨updO a.tmps (dsts.zip us), a.defers⟩ W) : (Code.region id ops true).wp P Q a w := by
  have hsz : dsts.length = ops.size := by rw [← hd]; simp
  refine wp_region_inv (fun L a' W => ∃ us, a' = ⟨updO a.tmps (dsts.zip us), a.defers⟩ ∧ L.size = ops.size ∧ Closed ops L ∧ MonoAt R cons WI (initO a.tmps dsts) L us W) hm hac ⟨initO a.tmps dsts, ?_, by simp, Closed.start ops, ⟨rfl, fun j hj => absurd hj on_none, fun _ _ => rfl, h0⟩⟩ ?_ ?_
  · rw [updO_init]
  · rintro L a' W i o h1 h2 h3 h4 ⟨us, rfl, _, hc, hJ⟩
    have hi : i < ops.size := (Array.getElem?_eq_some_iff.1 h3).1
    have hdi : dsts[i]? = some o.dst := by
      rw [← hd, List.getElem?_map]
      simp only [Array.getElem?_toList, h3, Option.map_some]
    have hlen : us.length = dsts.length := by rw [hJ.len, initO_length]
    have hun : L.getD i false = false := getD_both h2
    have hup : ∀ n j, j ≠ i → reach ops n i j = true → L.getD j false = true := fun n j hj hr => by
      have hc' := hc.step h3 h4
      have := hc'.reach n i j hr (on_self (by omega))
      rwa [on_other (fun e => hj e.symm)] at this
    have hno : ∀ n j, reach ops n j i = true → L.getD j false = false := fun n j hr => by
      cases hl : L.getD j false with
      | false => rfl
      | true =>
        have := hc.reach n j i hr hl
        rw [hun] at this; cases this
    have G : Given ops dsts a.tmps R cons WI i (fun s => (updO a.tmps (dsts.zip us)).getD s undef) W := by
      refine ⟨fun s hs => updO_keep dsts us _ s hs, fun n j s hs => ?_, fun n j s hs => ?_, hJ.wi⟩
      · simp only [Bool.and_eq_true, bne_iff_ne, beq_iff_eq] at hs
        obtain ⟨⟨⟨hj, hr⟩, hal⟩, hs⟩ := hs
        show R j ((updO a.tmps (dsts.zip us)).getD s undef) W
        rw [(updO_get dsts us _ j s hap hlen hs).1]
        refine hJ.fact j (hup n j hj hr) fun c hcj => ?_
        rw [alive, hcj] at hal
        exact hno n c hal
      · simp only [Bool.and_eq_true, beq_iff_eq] at hs
        obtain ⟨hr, hs⟩ := hs
        show (updO a.tmps (dsts.zip us)).getD s undef = _
        rw [(updO_get dsts us _ j s hap hlen hs).1, hJ.old j (hno n j hr), initO_get _ _ _ _ hs]
    have hS := StepsS.at ops.toList 0 hstep i o (by simpa using h3)
    rw [Nat.zero_add] at hS
    have guardV : ∀ j b' n s, (j != i && reach ops n i j && cons j == none && dsts[j]? == some (some s)) = true → (∀ v W, R j v W → v = .bool b') → yielded ops (updO a.tmps (dsts.zip us)) j = some b' := by
      intro j b' n s hs hR
      simp only [Bool.and_eq_true, bne_iff_ne, beq_iff_eq] at hs
      obtain ⟨⟨⟨hj, hr⟩, hal⟩, hs⟩ := hs
      have hv := hR _ _ (hJ.fact j (hup n j hj hr) fun c hcj => by rw [hal] at hcj; cases hcj)
      rw [← (updO_get dsts us _ j s hap hlen hs).1] at hv
      have hlt := (updO_get dsts us a.tmps j s hap hlen hs).2
      have hsj : (ops[j]?).bind (·.dst) = some s := by
        rw [← hd, List.getElem?_map, Array.getElem?_toList] at hs
        cases ho : ops[j]? with
        | none => simp [ho] at hs
        | some oj => simpa [ho] using hs
      have : (updO a.tmps (dsts.zip us))[s]? = some (.bool b') := by
        have hz : s < (updO a.tmps (dsts.zip us)).size := by rw [updO_size]; exact hlt
        simp only [Array.getD_eq_getD_getElem?, Array.getElem?_eq_getElem hz, Option.getD_some] at hv
        rw [Array.getElem?_eq_getElem hz, hv]
      simp only [yielded, hsj, Option.bind_some, this]
    rcases hS with hS | ⟨j, b, n, s, hgd, hs, hR, hRi⟩
    rotate_left
    · have hw : Region.wanted o (yielded ops (updO a.tmps (dsts.zip us))) = false := by
        unfold Region.wanted
        rw [hgd]
        have := guardV j (!b) n s hs hR
        simp only [this]
        cases b <;> rfl
      simp only [wpList]
      rw [if_neg (by rw [hw]; exact Bool.false_ne_true)]
      refine ⟨us.set i undef, ?_, by simpa using h1, hc.step h3 h4, ⟨by simpa using hJ.len, fun j hj hcj => ?_, fun j hj => ?_, hJ.wi⟩⟩
      · exact updO_put dsts us _ _ i _ undef hap hlen hdi
      · by_cases hij : i = j
        · subst hij; exact hRi _ _
        · rw [on_other hij] at hj
          have : (us.set i undef).getD j undef = us.getD j undef := by simp [List.getD, hij]
          rw [this]
          refine hJ.fact j hj fun c hc' => ?_
          have := hcj c hc'
          by_cases hic : i = c
          · subst hic; exact hun
          · rwa [on_other hic] at this
      · by_cases hij : i = j
        · subst hij
          rw [on_self (by omega)] at hj; cases hj
        · rw [on_other hij] at hj
          have : (us.set i undef).getD j undef = us.getD j undef := by simp [List.getD, hij]
          rw [this]
          exact hJ.old j hj
    obtain ⟨hg, hrun⟩ := hS
    have hrun := hrun _ W G
    have hw : Region.wanted o (yielded ops (updO a.tmps (dsts.zip us))) = true := by
      unfold Region.wanted
      cases hgd : o.guard with
      | none => rfl
      | some p =>
        obtain ⟨j, b⟩ := p
        rw [hgd] at hg
        obtain ⟨n, s, hs, hR⟩ := hg
        have := guardV j b n s hs hR
        simp only [this]
        cases b <;> rfl
    simp only [wpList]
    rw [if_pos hw]
    refine .inl ?_
    refine Oper.wp_mono ?_ hrun.wp
    rintro a'' W'' ⟨v, e, hR, hE⟩
    refine ⟨us.set i v, ?_, by simpa using h1, hc.step h3 h4, ⟨by simpa using hJ.len, fun j hj hcj => ?_, fun j hj => ?_, hext _ _ _ hJ.wi hE⟩⟩
    · rw [e]; exact updO_put dsts us _ _ i _ v hap hlen hdi
    · by_cases hij : i = j
      · subst hij
        have : (us.set i v).getD i undef = v := by simp [List.getD, show i < us.length by omega]
        rw [this]; exact hR
      · rw [on_other hij] at hj
        have : (us.set i v).getD j undef = us.getD j undef := by simp [List.getD, hij]
        rw [this]
        refine hstab i j _ _ _ (fun e => ?_) hJ.wi (hJ.fact j hj fun c hc' => ?_) hE
        · have := hcj i e
          rw [on_self (by omega)] at this; cases this
        · have := hcj c hc'
          by_cases hic : i = c
          · subst hic; exact hun
          · rwa [on_other hic] at this
    · by_cases hij : i = j
      · subst hij
        rw [on_self (by omega)] at hj; cases hj
      · rw [on_other hij] at hj
        have : (us.set i v).getD j undef = us.getD j undef := by simp [List.getD, hij]
        rw [this]; exact hJ.old j hj
  · rintro L a' W h1 ⟨us, rfl, hsz', _, hJ⟩
    refine hend us W (by rw [hJ.len, initO_length]) (fun j hj hcj => hJ.fact j (h1 j hj) fun c hc' => by rw [hcj] at hc'; cases hc') hJ.wi
theorem wp_region_skips {P : Program} {id : Nat} {l : List Oper} {Q : Exit → Act → World → Prop} {a : Act} {w : World} (dsts : List (Option Nat)) (F : List (Value → World → Prop))
    (hm : P.follows .mixedOrders = true) (hac : acyclic l.toArray = true) (hd : l.map (·.dst) = dsts) (hap : apartL a.tmps.size dsts = true) (hst : Stab w F)
    (hstep : StepsS P l.toArray dsts a.tmps (factOf F) (fun _ => none) (Below w.heap.size w) (fun _ W W' => Below W.heap.size W W') 0 l)
    (hend : ∀ (us : List Value) (W : World), us.length = dsts.length → (∀ j, j < l.length → factOf F j (us.getD j undef) W) → Below w.heap.size w W → Q .normal ⟨updO a.tmps (dsts.zip us), a.defers⟩ W) : (Code.region id l.toArray true).wp P Q a w :=
  wp_region_skip dsts (factOf F) (fun _ => none) (Below w.heap.size w) (fun _ W W' => Below W.heap.size W W') hm hac (by simpa using hd) hap
    (fun _ W W' h1 h2 => h1.trans (h2.mono h1.size)) (fun _ j v W W' _ hw hR hE => hst.get j v W W' hw hR hE) (Below.refl _ _).drew hstep
    (fun us W h1 h2 h3 => hend us W h1 (fun j hj => h2 j (by simpa using hj) rfl) h3)
theorem cells_put (l : List UInt8) (i : Nat) (y : UInt8) : cellsB (l.set i y) = (cellsB l).set i (.int .u8 y.toNat) := by simp [cellsB, List.map_set]
theorem xor_bytes (d y : UInt8) : bits .xor .u8 (d.toNat : Int) (y.toNat : Int) = ((d ^^^ y).toNat : Int) := by
  rw [u8_xor_nat _ _ d.toNat_lt y.toNat_lt]
  simp [UInt8.toNat_xor]
/-- []byte(s): a new row that holds the string's bytes, and in which a byte may be stored. -/
theorem conv_row (w : World) (l : List UInt8) (hl : l.length ≤ 9223372036854775807) : ∃ c W, (convert 9 24 (.string ⟨l.toArray⟩)).run Tryd.prog w = .ok (.slice (some ⟨w.heap.size, 0, none⟩) l.length c) W ∧
    (∀ i (h : i < l.length), W.cell? ⟨w.heap.size, i, none⟩ = some (.int .u8 l[i].toNat) ∧ W.frozen? ⟨w.heap.size, i, none⟩ = false ∧ ∀ d : UInt8, At (W.setCell ⟨w.heap.size, i, none⟩ (.int .u8 d.toNat)) W.heap.size (some ⟨w.heap.size, 0, none⟩) (cellsB (l.set i d))) ∧
    l.length ≤ c ∧ c ≤ 9223372036854775807 ∧ Below w.heap.size w W := by
  have hsz : (⟨l.toArray⟩ : ByteArray).size = l.length := by simp [ByteArray.size]
  have hcell : ∀ i (h : i < l.length), (Lib.bytesWorld w 5 ⟨l.toArray⟩).cell? ⟨w.heap.size, i, none⟩ = some (.int .u8 l[i].toNat) := fun i h => by
    rw [Lib.bytesWorld_cell w 5 ⟨l.toArray⟩ i (by rw [hsz]; exact h)]
    simp [List.getD, h]
  refine ⟨grownCap w l.length 0 5, Lib.bytesWorld w 5 ⟨l.toArray⟩, ?_, fun i h => ⟨hcell i h, ?_, fun d _ => ⟨w.heap.size, 0, rfl, by rw [Lib.bytesWorld_size]; omega, fun j u hu => ?_⟩⟩, grownCap_ge _ _ _ _, ?_, ?_⟩
  · have := Lib.run_convert_string_bytes (P := Tryd.prog) w 9 24 5 ⟨l.toArray⟩ Tryd.underlying9 Tryd.underlying24 Tryd.underlying5
    rwa [hsz] at this
  · have hlt : i < (Lib.bytesCells w 5 ⟨l.toArray⟩).size := by
      simp only [Lib.bytesCells, Array.size_append]
      simp; omega
    simp only [World.frozen?, Lib.bytesWorld_at_new]
    simp; omega
  · have hj : j < l.length := by
      have := (List.getElem?_eq_some_iff.1 hu).1
      rwa [cellsB_length, List.length_set] at this
    have hold := hcell j hj
    have hrow := Lib.bytesWorld_at_new w 5 ⟨l.toArray⟩
    have hrow' : ((Lib.bytesWorld w 5 ⟨l.toArray⟩).setCell ⟨w.heap.size, i, none⟩ (.int .u8 d.toNat)).heap[w.heap.size]? = some (.cells ((Lib.bytesCells w 5 ⟨l.toArray⟩).setIfInBounds i (.int .u8 d.toNat)) 5 ((Lib.bytesCells w 5 ⟨l.toArray⟩).size, (Lib.bytesCells w 5 ⟨l.toArray⟩).size + 1)) := by
      simp [World.setCell, Array.getElem?_modify, hrow]
    rw [cells_put, List.getElem?_set] at hu
    rw [cell_of_row _ _ _ _ _ _ hrow] at hold
    rw [Nat.zero_add, cell_of_row _ _ _ _ _ _ hrow', ← hu, Array.getElem?_setIfInBounds]
    by_cases hij : i = j
    · subst hij
      have hlt := (Array.getElem?_eq_some_iff.1 hold).1
      rw [if_pos rfl, if_pos rfl, if_pos hlt, if_pos (by rw [cellsB_length]; exact h)]
    · rw [if_neg hij, if_neg hij, hold]
      simp [cellsB, hj]
  · have := grownCap_le_maxLen w l.length 0 5 (by unfold maxLen; omega)
    unfold maxLen at this
    omega
  · exact Joins.below_bytesWorld _ w _ _ (Nat.le_refl _)
def TXtt (v u k1 k2 : V) : List (Value → World → Prop) := [
  fun r _ => r = .agg #[.int .i64 v.t, .int .i64 v.n, .string v.s],
  fun r _ => r = .string ⟨(fmtL v.t v.n v.s).toArray⟩,
  fun r _ => r = .agg #[.int .i64 v.t, .int .i64 v.n, .string v.s],
  fun r _ => r = .string ⟨(fmtL v.t v.n v.s).toArray⟩,
  fun r _ => r = .bool true,
  fun r _ => r = .bool true,
  fun r _ => r = .agg #[.int .i64 v.t, .int .i64 v.n, .string v.s],
  fun r _ => r = .agg #[.int .i64 u.t, .int .i64 u.n, .string u.s],
  fun r _ => r = .string ⟨(fmtL u.t u.n u.s).toArray⟩,
  fun r _ => r = .agg #[.int .i64 v.t, .int .i64 v.n, .string v.s],
  fun r _ => r = .agg #[.int .i64 u.t, .int .i64 u.n, .string u.s],
  fun r _ => r = .string ⟨(fmtL u.t u.n u.s).toArray⟩,
  fun r _ => r = .bool true,
  fun r _ => r = .bool true,
  fun r _ => r = .bool true,
  fun r _ => r = .agg #[.int .i64 k1.t, .int .i64 k1.n, .string k1.s],
  fun r _ => r = .agg #[.int .i64 k1.t, .int .i64 k1.n, .string k1.s],
  fun r _ => r = .bool true,
  fun r _ => r = .bool true,
  fun r _ => r = .bool true,
  fun r _ => r = .int .i64 0,
  fun r _ => r = .bool true,
  fun r _ => r = .bool true,
  fun r _ => r = .bool true,
  fun r _ => r = .bool true,
  fun r _ => r = .bool true,
  fun r _ => r = .bool true,
  fun r _ => r = .bool true,
  fun _ _ => True,
  fun _ _ => True,
  fun r _ => r = .bool true,
  fun r _ => r = .bool true,
  fun r _ => r = .bool true,
  fun r _ => r = .agg #[.int .i64 k2.t, .int .i64 k2.n, .string k2.s],
  fun r _ => r = .agg #[.int .i64 k2.t, .int .i64 k2.n, .string k2.s],
  fun r _ => r = .bool true,
  fun r _ => r = .bool true,
  fun r _ => r = .bool true,
  fun r _ => r = .int .i64 0,
  fun r _ => r = .bool true,
  fun r _ => r = .bool true,
  fun r _ => r = .bool true,
  fun r _ => r = .bool true,
  fun r _ => r = .bool true,
  fun r _ => r = .bool true,
  fun r _ => r = .bool true,
  fun _ _ => True,
  fun _ _ => True,
  fun r _ => r = .bool true,
  fun r _ => r = .bool true,
  fun r _ => r = .bool true,
  fun r _ => r = .bool true,
  fun r _ => r = .bool true,
  fun r _ => r = .bool true]
theorem TXtt_stab (v u k1 k2 : V) (W0 : World) : Stab W0 (TXtt v u k1 k2) :=
  .eq <| .eq <| .eq <| .eq <| .eq <| .eq <| .eq <| .eq <| .eq <| .eq <| .eq <| .eq <| .eq <| .eq <| .eq <| .eq <| .eq <| .eq <| .eq <| .eq <| .eq <| .eq <| .eq <| .eq <| .eq <| .eq <| .eq <| .eq <| .cons (fun _ _ _ _ h _ => h) <| .cons (fun _ _ _ _ h _ => h) <| .eq <| .eq <| .eq <| .eq <| .eq <| .eq <| .eq <| .eq <| .eq <| .eq <| .eq <| .eq <| .eq <| .eq <| .eq <| .eq <| .cons (fun _ _ _ _ h _ => h) <| .cons (fun _ _ _ _ h _ => h) <| .eq <| .eq <| .eq <| .eq <| .eq <| .eq <| .nil
def TXtf (v u k1 k2 : V) : List (Value → World → Prop) := [
  fun r _ => r = .agg #[.int .i64 v.t, .int .i64 v.n, .string v.s],
  fun r _ => r = .string ⟨(fmtL v.t v.n v.s).toArray⟩,
  fun r _ => r = .agg #[.int .i64 v.t, .int .i64 v.n, .string v.s],
  fun r _ => r = .string ⟨(fmtL v.t v.n v.s).toArray⟩,
  fun r _ => r = .bool true,
  fun r _ => r = .bool true,
  fun r _ => r = .agg #[.int .i64 v.t, .int .i64 v.n, .string v.s],
  fun r _ => r = .agg #[.int .i64 u.t, .int .i64 u.n, .string u.s],
  fun r _ => r = .string ⟨(fmtL u.t u.n u.s).toArray⟩,
  fun r _ => r = .agg #[.int .i64 v.t, .int .i64 v.n, .string v.s],
  fun r _ => r = .agg #[.int .i64 u.t, .int .i64 u.n, .string u.s],
  fun r _ => r = .string ⟨(fmtL u.t u.n u.s).toArray⟩,
  fun r _ => r = .bool true,
  fun r _ => r = .bool true,
  fun r _ => r = .bool true,
  fun r _ => r = .agg #[.int .i64 k1.t, .int .i64 k1.n, .string k1.s],
  fun r _ => r = .agg #[.int .i64 k1.t, .int .i64 k1.n, .string k1.s],
  fun r _ => r = .bool true,
  fun r _ => r = .bool true,
  fun r _ => r = .bool true,
  fun r _ => r = .int .i64 0,
  fun r _ => r = .bool true,
  fun r _ => r = .bool true,
  fun r _ => r = .bool true,
  fun r _ => r = .bool true,
  fun r _ => r = .bool true,
  fun r _ => r = .bool true,
  fun r _ => r = .bool true,
  fun _ _ => True,
  fun _ _ => True,
  fun r _ => r = .bool true,
  fun r _ => r = .bool true,
  fun r _ => r = .bool true,
  fun r _ => r = .agg #[.int .i64 k2.t, .int .i64 k2.n, .string k2.s],
  fun r _ => r = .agg #[.int .i64 k2.t, .int .i64 k2.n, .string k2.s],
  fun r _ => r = .bool true,
  fun r _ => r = .bool true,
  fun r _ => r = .bool true,
  fun r _ => r = .int .i64 2,
  fun r _ => r = .bool false,
  fun r _ => r = .bool false,
  fun r _ => r = .bool true,
  fun r _ => r = .bool true,
  fun r _ => r = .bool true,
  fun r _ => r = .bool false,
  fun r _ => r = .bool false,
  fun r _ => r = .int .i64 2,
  fun r _ => r = .bool true,
  fun r _ => r = .bool true,
  fun r _ => r = .bool true,
  fun r _ => r = .bool true,
  fun r _ => r = .bool true,
  fun r _ => r = .bool true,
  fun r _ => r = .bool true]
theorem TXtf_stab (v u k1 k2 : V) (W0 : World) : Stab W0 (TXtf v u k1 k2) :=
  .eq <| .eq <| .eq <| .eq <| .eq <| .eq <| .eq <| .eq <| .eq <| .eq <| .eq <| .eq <| .eq <| .eq <| .eq <| .eq <| .eq <| .eq <| .eq <| .eq <| .eq <| .eq <| .eq <| .eq <| .eq <| .eq <| .eq <| .eq <| .cons (fun _ _ _ _ h _ => h) <| .cons (fun _ _ _ _ h _ => h) <| .eq <| .eq <| .eq <| .eq <| .eq <| .eq <| .eq <| .eq <| .eq <| .eq <| .eq <| .eq <| .eq <| .eq <| .eq <| .eq <| .eq <| .eq <| .eq <| .eq <| .eq <| .eq <| .eq <| .eq <| .nil
def TXft (v u k1 k2 : V) : List (Value → World → Prop) := [
  fun r _ => r = .agg #[.int .i64 v.t, .int .i64 v.n, .string v.s],
  fun r _ => r = .string ⟨(fmtL v.t v.n v.s).toArray⟩,
  fun r _ => r = .agg #[.int .i64 v.t, .int .i64 v.n, .string v.s],
  fun r _ => r = .string ⟨(fmtL v.t v.n v.s).toArray⟩,
  fun r _ => r = .bool true,
  fun r _ => r = .bool true,
  fun r _ => r = .agg #[.int .i64 v.t, .int .i64 v.n, .string v.s],
  fun r _ => r = .agg #[.int .i64 u.t, .int .i64 u.n, .string u.s],
  fun r _ => r = .string ⟨(fmtL u.t u.n u.s).toArray⟩,
  fun r _ => r = .agg #[.int .i64 v.t, .int .i64 v.n, .string v.s],
  fun r _ => r = .agg #[.int .i64 u.t, .int .i64 u.n, .string u.s],
  fun r _ => r = .string ⟨(fmtL u.t u.n u.s).toArray⟩,
  fun r _ => r = .bool true,
  fun r _ => r = .bool true,
  fun r _ => r = .bool true,
  fun r _ => r = .agg #[.int .i64 k1.t, .int .i64 k1.n, .string k1.s],
  fun r _ => r = .agg #[.int .i64 k1.t, .int .i64 k1.n, .string k1.s],
  fun r _ => r = .bool true,
  fun r _ => r = .bool true,
  fun r _ => r = .bool true,
  fun r _ => r = .int .i64 2,
  fun r _ => r = .bool false,
  fun r _ => r = .bool false,
  fun r _ => r = .bool true,
  fun r _ => r = .bool true,
  fun r _ => r = .bool true,
  fun r _ => r = .bool false,
  fun r _ => r = .bool false,
  fun r _ => r = .int .i64 2,
  fun r _ => r = .bool true,
  fun r _ => r = .bool true,
  fun r _ => r = .bool true,
  fun r _ => r = .bool true,
  fun r _ => r = .agg #[.int .i64 k2.t, .int .i64 k2.n, .string k2.s],
  fun r _ => r = .agg #[.int .i64 k2.t, .int .i64 k2.n, .string k2.s],
  fun r _ => r = .bool true,
  fun r _ => r = .bool true,
  fun r _ => r = .bool true,
  fun r _ => r = .int .i64 0,
  fun r _ => r = .bool true,
  fun r _ => r = .bool true,
  fun r _ => r = .bool true,
  fun r _ => r = .bool true,
  fun r _ => r = .bool true,
  fun r _ => r = .bool true,
  fun r _ => r = .bool true,
  fun _ _ => True,
  fun _ _ => True,
  fun r _ => r = .bool true,
  fun r _ => r = .bool true,
  fun r _ => r = .bool true,
  fun r _ => r = .bool true,
  fun r _ => r = .bool true,
  fun r _ => r = .bool true]
theorem TXft_stab (v u k1 k2 : V) (W0 : World) : Stab W0 (TXft v u k1 k2) :=
  .eq <| .eq <| .eq <| .eq <| .eq <| .eq <| .eq <| .eq <| .eq <| .eq <| .eq <| .eq <| .eq <| .eq <| .eq <| .eq <| .eq <| .eq <| .eq <| .eq <| .eq <| .eq <| .eq <| .eq <| .eq <| .eq <| .eq <| .eq <| .eq <| .eq <| .eq <| .eq <| .eq <| .eq <| .eq <| .eq <| .eq <| .eq <| .eq <| .eq <| .eq <| .eq <| .eq <| .eq <| .eq <| .eq <| .cons (fun _ _ _ _ h _ => h) <| .cons (fun _ _ _ _ h _ => h) <| .eq <| .eq <| .eq <| .eq <| .eq <| .eq <| .nil
def TXff (v u k1 k2 : V) : List (Value → World → Prop) := [
  fun r _ => r = .agg #[.int .i64 v.t, .int .i64 v.n, .string v.s],
  fun r _ => r = .string ⟨(fmtL v.t v.n v.s).toArray⟩,
  fun r _ => r = .agg #[.int .i64 v.t, .int .i64 v.n, .string v.s],
  fun r _ => r = .string ⟨(fmtL v.t v.n v.s).toArray⟩,
  fun r _ => r = .bool true,
  fun r _ => r = .bool true,
  fun r _ => r = .agg #[.int .i64 v.t, .int .i64 v.n, .string v.s],
  fun r _ => r = .agg #[.int .i64 u.t, .int .i64 u.n, .string u.s],
  fun r _ => r = .string ⟨(fmtL u.t u.n u.s).toArray⟩,
  fun r _ => r = .agg #[.int .i64 v.t, .int .i64 v.n, .string v.s],
  fun r _ => r = .agg #[.int .i64 u.t, .int .i64 u.n, .string u.s],
  fun r _ => r = .string ⟨(fmtL u.t u.n u.s).toArray⟩,
  fun r _ => r = .bool true,
  fun r _ => r = .bool true,
  fun r _ => r = .bool true,
  fun r _ => r = .agg #[.int .i64 k1.t, .int .i64 k1.n, .string k1.s],
  fun r _ => r = .agg #[.int .i64 k1.t, .int .i64 k1.n, .string k1.s],
  fun r _ => r = .bool true,
  fun r _ => r = .bool true,
  fun r _ => r = .bool true,
  fun r _ => r = .int .i64 2,
  fun r _ => r = .bool false,
  fun r _ => r = .bool false,
  fun r _ => r = .bool true,
  fun r _ => r = .bool true,
  fun r _ => r = .bool true,
  fun r _ => r = .bool false,
  fun r _ => r = .bool false,
  fun r _ => r = .int .i64 2,
  fun r _ => r = .bool true,
  fun r _ => r = .bool true,
  fun r _ => r = .bool true,
  fun r _ => r = .bool true,
  fun r _ => r = .agg #[.int .i64 k2.t, .int .i64 k2.n, .string k2.s],
  fun r _ => r = .agg #[.int .i64 k2.t, .int .i64 k2.n, .string k2.s],
  fun r _ => r = .bool true,
  fun r _ => r = .bool true,
  fun r _ => r = .bool true,
  fun r _ => r = .int .i64 2,
  fun r _ => r = .bool false,
  fun r _ => r = .bool false,
  fun r _ => r = .bool true,
  fun r _ => r = .bool true,
  fun r _ => r = .bool true,
  fun r _ => r = .bool false,
  fun r _ => r = .bool false,
  fun r _ => r = .int .i64 2,
  fun r _ => r = .bool true,
  fun r _ => r = .bool true,
  fun r _ => r = .bool true,
  fun r _ => r = .bool true,
  fun r _ => r = .bool true,
  fun r _ => r = .bool true,
  fun r _ => r = .bool true]
theorem TXff_stab (v u k1 k2 : V) (W0 : World) : Stab W0 (TXff v u k1 k2) :=
  .eq <| .eq <| .eq <| .eq <| .eq <| .eq <| .eq <| .eq <| .eq <| .eq <| .eq <| .eq <| .eq <| .eq <| .eq <| .eq <| .eq <| .eq <| .eq <| .eq <| .eq <| .eq <| .eq <| .eq <| .eq <| .eq <| .eq <| .eq <| .eq <| .eq <| .eq <| .eq <| .eq <| .eq <| .eq <| .eq <| .eq <| .eq <| .eq <| .eq <| .eq <| .eq <| .eq <| .eq <| .eq <| .eq <| .eq <| .eq <| .eq <| .eq <| .eq <| .eq <| .eq <| .eq <| .nil
set_option maxRecDepth 100000 in
set_option maxHeartbeats 8000000 in
theorem text_main (v : V) (s : ByteArray) (n : Int) (y : UInt8) (w : World) (hE : Env w) (hr : -9223372036854775808 ≤ v.n ∧ v.n ≤ 9223372036854775807) (h80 : v.s.size ≤ 80) (hs : s.size ≤ 100) :
    Calls Tryd.prog 3 #[.agg #[.int .i64 v.t, .int .i64 v.n, .string v.s], .string s, .int .i64 n, .int .u8 y.toNat] w (LawPost w) := by
  have hMK := mk_any v
  have hok := mkV_ok v
  have hru := mkV_n v hr
  have hsu := mk_size v
  obtain ⟨u, hu⟩ : ∃ u, mkV v = u := ⟨_, rfl⟩
  rw [hu] at hok hru hsu
  simp only [hu] at hMK
  have HMK := Lib.hid hMK
  have HRV := Lib.hid hr
  have HRU := Lib.hid hru
  have HSU := Lib.hid hsu
  obtain ⟨C, hC⟩ : ∃ C, fmtL u.t u.n u.s = C := ⟨_, rfl⟩
  have hl := fmt_len (t := u.t) (n := u.n) (st := u.s) hok hru.1 hru.2
  rw [hC] at hl
  obtain ⟨hlC1, hlC2⟩ := hl
  have HC := Lib.hid hC
  have hU : 0 ≤ IntKind.u64.wrap n := by rw [IntKind.wrap_u64]; omega
  obtain ⟨i, hi⟩ : ∃ i : Nat, IntKind.u64.wrap n % (C.length : Int) = (i : Int) := ⟨(IntKind.u64.wrap n % (C.length : Int)).toNat, by
    have := Int.emod_nonneg (IntKind.u64.wrap n) (show (C.length : Int) ≠ 0 by omega); omega⟩
  have hil : i < C.length := by
    have := Int.emod_lt_of_pos (IntKind.u64.wrap n) (show (0 : Int) < (C.length : Int) by omega); omega
  obtain ⟨d, hd⟩ : ∃ d, C[i] = d := ⟨_, rfl⟩
  have HD := Lib.hid hd
  have HXR := Lib.hid (xor_bytes d y)
  have hd1 : (d.toNat : Int) ≤ 255 := by have := d.toNat_lt; omega
  have hy0 : (0 : Int) ≤ (y.toNat : Int) := by omega
  have hy1 : (y.toNat : Int) ≤ 255 := by have := y.toNat_lt; omega
  obtain ⟨C', hC'⟩ : ∃ C', C.set i (d ^^^ y) = C' := ⟨_, rfl⟩
  have hlen : C'.length = C.length := by rw [← hC', List.length_set]
  have HLEN := Lib.hid hlen
  have HC' := Lib.hid hC'
  obtain ⟨t1, n1, st1, ok1, hP1, hQ1⟩ := parses s (by omega)
  obtain ⟨t2, n2, st2, ok2, hP2, hQ2⟩ := parses ⟨C'.toArray⟩ (by show C'.toArray.size ≤ _; simp; omega)
  obtain ⟨k1, rfl, rfl, rfl⟩ : ∃ k : V, k.t = t1 ∧ k.n = n1 ∧ k.s = st1 := ⟨⟨t1, n1, st1⟩, rfl, rfl, rfl⟩
  obtain ⟨k2, rfl, rfl, rfl⟩ : ∃ k : V, k.t = t2 ∧ k.n = n2 ∧ k.s = st2 := ⟨⟨t2, n2, st2⟩, rfl, rfl, rfl⟩
  have HP1 := Lib.hid hP1
  have HQ1 := Lib.hid hQ1
  have HP2 := Lib.hid hP2
  have HQ2 := Lib.hid hQ2
  have HE := Lib.hid hE
  obtain ⟨W, hW, hbW, hgW, hzW⟩ := blk1 w 23 #[.int .i64 v.t, .int .i64 v.n, .string v.s]
  have HW := Lib.hid hW
  have HBW := Lib.hid hbW
  have HV := Lib.hid hgW
  have hsW := hbW.size
  clear hW hbW hgW hzW hP1 hP2 hQ1 hQ2 hE hC hC' hlen hd hMK hr hru hsu hok hu
  go_enter Tryd.func3, Tryd.ntmps3
  go_wp2_with fail
  rw [HW.out]
  refine (HMK.out _).mono ?_
  rintro e w1 ⟨rfl, hb1⟩
  have HB1 := Lib.hid hb1
  clear hb1
  go_wp2_with fail
  refine (refFmt_any u.t u.n u.s _ HRU.out.1 HRU.out.2 HSU.out).mono ?_
  rintro e w2 ⟨rfl, hb2⟩
  rw [HC.out]
  have HB2 := Lib.hid (below_then HB1.out hb2 HB1.out.size)
  clear hb2
  obtain ⟨cx, W3, hcv, hcells, hlc, hcm, hb3⟩ := conv_row w2 C (by omega)
  obtain ⟨hce, hfr, hset⟩ := hcells i hil
  rw [HD.out] at hce
  have HSET := Lib.hid (hset (d ^^^ y))
  have HB3 := Lib.hid hb3
  clear hset hcells hb3
  go_wp2_with fail
  rw [HXR.out]
  obtain ⟨w4, hw4⟩ : ∃ w4, W3.setCell ⟨w2.heap.size, i, none⟩ (.int .u8 (d ^^^ y).toNat) = w4 := ⟨_, rfl⟩
  have hb4 := HB3.out.setCell (p := ⟨w2.heap.size, i, none⟩) (Nat.le_refl _) (.int .u8 (d ^^^ y).toNat)
  have hat4 := HSET.out
  rw [HC'.out] at hat4
  have hz4 : (W3.setCell ⟨w2.heap.size, i, none⟩ (.int .u8 (d ^^^ y).toNat)).heap.size = W3.heap.size := by simp [World.setCell]
  rw [hw4] at hb4 hat4 hz4
  rw [hw4]
  rw [← hz4] at hat4
  have HA4 := Lib.hid hat4
  have hbn := below_then HB2.out hb4 HB2.out.size
  have HV4 := Lib.hid (HV.out.below hbn HV.out.lt)
  have HBW4 := Lib.hid (below_then HBW.out hbn hsW)
  have hs4 := HBW4.out.size
  have HE4 := Lib.hid (HE.out.below HBW4.out (Nat.le_refl _))
  clear hw4 hce hfr hcv hb4 hat4 hz4 hbn HSET HB3 HB2 HB1 HXR HD HC HC' hi hU hlc hcm
  cases ok1
  · cases ok2
    ·
      simp only [if_false, Bool.false_eq_true] at HP1 HQ1 HP2 HQ2
      refine (HP1.out _ HE4.out).mono ?_
      rintro e w5 ⟨rfl, hb5⟩
      obtain ⟨W5, hW5, hbW5, hg5, _⟩ := blk1 w5 23 #[.int .i64 k1.t, .int .i64 k1.n, .string k1.s]
      have hbn := below_then hb5 hbW5 hb5.size
      have HA5 := Lib.hid ((HA4.out.below hbn).more hbn.size)
      have HV5 := Lib.hid (HV4.out.below hbn HV4.out.lt)
      have HBW5 := Lib.hid (below_then HBW4.out hbn hs4)
      have HK15 := Lib.hid hg5
      have HW5 := Lib.hid hW5
      clear hb5 hbW5 hbn hg5 hW5
      go_wp2_with fail
      rw [HW5.out]
      refine (HQ1.out _).mono ?_
      rintro e w6 ⟨rfl, hb6⟩
      obtain ⟨W6, hW6, hbW6, hg6, _⟩ := blk1 w6 23 #[.int .i64 k1.t, .int .i64 k1.n, .string k1.s]
      have hbn := below_then hb6 hbW6 hb6.size
      have HA6 := Lib.hid ((HA5.out.below hbn).more hbn.size)
      have HV6 := Lib.hid (HV5.out.below hbn HV5.out.lt)
      have HBW6 := Lib.hid (below_then HBW5.out hbn HBW5.out.size)
      have HK16 := Lib.hid (HK15.out.below hbn HK15.out.lt)
      have HK26 := Lib.hid hg6
      have hcv6 := conv_at cx HA6.out
      rw [HLEN.out, ← hW6] at hcv6
      have HW6 := Lib.hid hW6
      clear hb6 hbW6 hbn hg6 hW6
      go_wp2_with fail
      clear hcv6
      rw [HW6.out]
      refine (HP2.out _ (HE.out.below HBW6.out (Nat.le_refl _))).mono ?_
      rintro e w7 ⟨rfl, hb7⟩
      obtain ⟨W7, hW7, hbW7, hg7, _⟩ := blk1 w7 23 #[.int .i64 k2.t, .int .i64 k2.n, .string k2.s]
      have hbn := below_then hb7 hbW7 hb7.size
      have HA7 := Lib.hid ((HA6.out.below hbn).more hbn.size)
      have HV7 := Lib.hid (HV6.out.below hbn HV6.out.lt)
      have HBW7 := Lib.hid (below_then HBW6.out hbn HBW6.out.size)
      have HK17 := Lib.hid (HK16.out.below hbn HK16.out.lt)
      have HK27 := Lib.hid (HK26.out.below hbn HK26.out.lt)
      have HK37 := Lib.hid hg7
      have hcv7 := conv_at cx HA7.out
      rw [HLEN.out, ← hW7] at hcv7
      have HW7 := Lib.hid hW7
      clear hb7 hbW7 hbn hg7 hW7
      go_wp2_with fail
      clear hcv7
      rw [HW7.out]
      refine (HQ2.out _).mono ?_
      rintro e w8 ⟨rfl, hb8⟩
      obtain ⟨W8, hW8, hbW8, hg8, _⟩ := blk1 w8 23 #[.int .i64 k2.t, .int .i64 k2.n, .string k2.s]
      have hbn := below_then hb8 hbW8 hb8.size
      have HV8 := Lib.hid (HV7.out.below hbn HV7.out.lt)
      have HBW8 := Lib.hid (below_then HBW7.out hbn HBW7.out.size)
      have HK1 := Lib.hid (HK17.out.below hbn HK17.out.lt)
      have HK2 := Lib.hid (HK27.out.below hbn HK27.out.lt)
      have HK3 := Lib.hid (HK37.out.below hbn HK37.out.lt)
      have HK4 := Lib.hid hg8
      have HE8 := Lib.hid (HE.out.below HBW8.out (Nat.le_refl _))
      have hs8 := HBW8.out.size
      have HW8 := Lib.hid hW8
      clear hb8 hbW8 hbn hg8 hW8
      go_wp2
      rw [HW8.out]
      refine wp_region_skips [some 69, some 70, some 71, some 72, some 73, some 74, some 75, some 76, some 77, some 78, some 79, some 80, some 81, some 82, some 83, some 84, some 85, some 86, some 87, some 88, some 89, some 90, some 91, some 92, some 93, some 94, some 95, some 96, some 97, some 98, some 99, some 100, some 101, some 102, some 103, some 104, some 105, some 106, some 107, some 108, some 109, some 110, some 111, some 112, some 113, some 114, some 115, some 116, some 117, some 118, some 119, some 120, some 121, some 8] (TXff v u k1 k2) (by kernel_rfl) (by kernel_rfl) (by rfl) (by rfl) (TXff_stab v u k1 k2 _) ?_ ?_
      ·
        refine StepsS.cons trivial (fun T W hg => ?_) ?_
        · have e4 : T 4 = .pointer (some ⟨w.heap.size, 0, none⟩) := hg.keep 4 (by rfl)
          have hwi := hg.wi
          clear hg
          refine OpRuns.of_ok (v := .agg #[.int .i64 v.t, .int .i64 v.n, .string v.s]) (W' := W) ?_ ⟨rfl, Below.refl _ _⟩
          obtain ⟨c0, c1, c2, _, _, _⟩ := (HV8.out.below hwi HV8.out.lt).three
          simp only [execOp, evT, e4]
          go_simp
        refine StepsS.cons trivial (fun T W hg => ?_) ?_
        · have e69 : T 69 = .agg #[.int .i64 v.t, .int .i64 v.n, .string v.s] := hg.fact 1 0 69 (by kernel_rfl)
          have hwi := hg.wi
          clear hg
          refine OpRuns.of_call ?_ ((format_any v.t v.n v.s _ HRV.out.1 HRV.out.2 (HE8.out.below hwi (Nat.le_refl _))).mono fun e W' ⟨he, hb⟩ => ⟨_, he, rfl, hb⟩)
          simp only [execOp, resolve, invoke, List.map_toArray, List.map_cons, List.map_nil, evT, e69]
          go_simp
        refine StepsS.cons trivial (fun T W hg => ?_) ?_
        · have e4 : T 4 = .pointer (some ⟨w.heap.size, 0, none⟩) := hg.keep 4 (by rfl)
          have hwi := hg.wi
          clear hg
          refine OpRuns.of_ok (v := .agg #[.int .i64 v.t, .int .i64 v.n, .string v.s]) (W' := W) ?_ ⟨rfl, Below.refl _ _⟩
          obtain ⟨c0, c1, c2, _, _, _⟩ := (HV8.out.below hwi HV8.out.lt).three
          simp only [execOp, evT, e4]
          go_simp
        refine StepsS.cons trivial (fun T W hg => ?_) ?_
        · have e71 : T 71 = .agg #[.int .i64 v.t, .int .i64 v.n, .string v.s] := hg.fact 1 2 71 (by kernel_rfl)
          have hwi := hg.wi
          clear hg
          refine OpRuns.of_call ?_ ((refFmt_any v.t v.n v.s _ HRV.out.1 HRV.out.2 (by omega)).mono fun e W' ⟨he, hb⟩ => ⟨_, he, rfl, hb⟩)
          simp only [execOp, resolve, invoke, List.map_toArray, List.map_cons, List.map_nil, evT, e71]
          go_simp
        refine StepsS.cons trivial (fun T W hg => ?_) ?_
        · have e70 : T 70 = .string ⟨(fmtL v.t v.n v.s).toArray⟩ := hg.fact 1 1 70 (by kernel_rfl)
          have e72 : T 72 = .string ⟨(fmtL v.t v.n v.s).toArray⟩ := hg.fact 1 3 72 (by kernel_rfl)
          have hwi := hg.wi
          clear hg
          refine OpRuns.of_ok (v := .bool true) (W' := W) ?_ ⟨rfl, Below.refl _ _⟩
          simp only [execOp, evT, e70, e72]
          go_simp
        refine StepsS.cons trivial (fun T W hg => ?_) ?_
        · have e73 : T 73 = .bool true := hg.fact 1 4 73 (by kernel_rfl)
          have hwi := hg.wi
          clear hg
          refine OpRuns.of_ok (v := .bool true) (W' := W) ?_ ⟨rfl, Below.refl _ _⟩
          simp only [execOp, evT, e73]
          go_simp
        refine StepsS.cons ⟨1, 74, by kernel_rfl, fun _ _ h => h⟩ (fun T W hg => ?_) ?_
        · have e4 : T 4 = .pointer (some ⟨w.heap.size, 0, none⟩) := hg.keep 4 (by rfl)
          have hwi := hg.wi
          clear hg
          refine OpRuns.of_ok (v := .agg #[.int .i64 v.t, .int .i64 v.n, .string v.s]) (W' := W) ?_ ⟨rfl, Below.refl _ _⟩
          obtain ⟨c0, c1, c2, _, _, _⟩ := (HV8.out.below hwi HV8.out.lt).three
          simp only [execOp, evT, e4]
          go_simp
        refine StepsS.cons ⟨1, 74, by kernel_rfl, fun _ _ h => h⟩ (fun T W hg => ?_) ?_
        · have e75 : T 75 = .agg #[.int .i64 v.t, .int .i64 v.n, .string v.s] := hg.fact 1 6 75 (by kernel_rfl)
          have hwi := hg.wi
          clear hg
          refine OpRuns.of_call ?_ ((HMK.out _).mono fun e W' ⟨he, hb⟩ => ⟨_, he, rfl, hb⟩)
          simp only [execOp, resolve, invoke, List.map_toArray, List.map_cons, List.map_nil, evT, e75]
          go_simp
        refine StepsS.cons ⟨1, 74, by kernel_rfl, fun _ _ h => h⟩ (fun T W hg => ?_) ?_
        · have e76 : T 76 = .agg #[.int .i64 u.t, .int .i64 u.n, .string u.s] := hg.fact 1 7 76 (by kernel_rfl)
          have hwi := hg.wi
          clear hg
          refine OpRuns.of_call ?_ ((format_any u.t u.n u.s _ HRU.out.1 HRU.out.2 (HE8.out.below hwi (Nat.le_refl _))).mono fun e W' ⟨he, hb⟩ => ⟨_, he, rfl, hb⟩)
          simp only [execOp, resolve, invoke, List.map_toArray, List.map_cons, List.map_nil, evT, e76]
          go_simp
        refine StepsS.cons ⟨1, 74, by kernel_rfl, fun _ _ h => h⟩ (fun T W hg => ?_) ?_
        · have e4 : T 4 = .pointer (some ⟨w.heap.size, 0, none⟩) := hg.keep 4 (by rfl)
          have hwi := hg.wi
          clear hg
          refine OpRuns.of_ok (v := .agg #[.int .i64 v.t, .int .i64 v.n, .string v.s]) (W' := W) ?_ ⟨rfl, Below.refl _ _⟩
          obtain ⟨c0, c1, c2, _, _, _⟩ := (HV8.out.below hwi HV8.out.lt).three
          simp only [execOp, evT, e4]
          go_simp
        refine StepsS.cons ⟨1, 74, by kernel_rfl, fun _ _ h => h⟩ (fun T W hg => ?_) ?_
        · have e78 : T 78 = .agg #[.int .i64 v.t, .int .i64 v.n, .string v.s] := hg.fact 1 9 78 (by kernel_rfl)
          have hwi := hg.wi
          clear hg
          refine OpRuns.of_call ?_ ((HMK.out _).mono fun e W' ⟨he, hb⟩ => ⟨_, he, rfl, hb⟩)
          simp only [execOp, resolve, invoke, List.map_toArray, List.map_cons, List.map_nil, evT, e78]
          go_simp
        refine StepsS.cons ⟨1, 74, by kernel_rfl, fun _ _ h => h⟩ (fun T W hg => ?_) ?_
        · have e79 : T 79 = .agg #[.int .i64 u.t, .int .i64 u.n, .string u.s] := hg.fact 1 10 79 (by kernel_rfl)
          have hwi := hg.wi
          clear hg
          refine OpRuns.of_call ?_ ((refFmt_any u.t u.n u.s _ HRU.out.1 HRU.out.2 HSU.out).mono fun e W' ⟨he, hb⟩ => ⟨_, he, rfl, hb⟩)
          simp only [execOp, resolve, invoke, List.map_toArray, List.map_cons, List.map_nil, evT, e79]
          go_simp
        refine StepsS.cons ⟨1, 74, by kernel_rfl, fun _ _ h => h⟩ (fun T W hg => ?_) ?_
        · have e77 : T 77 = .string ⟨(fmtL u.t u.n u.s).toArray⟩ := hg.fact 1 8 77 (by kernel_rfl)
          have e80 : T 80 = .string ⟨(fmtL u.t u.n u.s).toArray⟩ := hg.fact 1 11 80 (by kernel_rfl)
          have hwi := hg.wi
          clear hg
          refine OpRuns.of_ok (v := .bool true) (W' := W) ?_ ⟨rfl, Below.refl _ _⟩
          simp only [execOp, evT, e77, e80]
          go_simp
        refine StepsS.cons trivial (fun T W hg => ?_) ?_
        · have e74 : T 74 = .bool true := hg.fact 1 5 74 (by kernel_rfl)
          have e81 : T 81 = .bool true := hg.fact 1 12 81 (by kernel_rfl)
          have hwi := hg.wi
          clear hg
          refine OpRuns.of_ok (v := .bool true) (W' := W) ?_ ⟨rfl, Below.refl _ _⟩
          simp only [execOp, evT, e74, e81]
          go_simp
        refine StepsS.cons trivial (fun T W hg => ?_) ?_
        · have e82 : T 82 = .bool true := hg.fact 1 13 82 (by kernel_rfl)
          have hwi := hg.wi
          clear hg
          refine OpRuns.of_ok (v := .bool true) (W' := W) ?_ ⟨rfl, Below.refl _ _⟩
          simp only [execOp, evT, e82]
          go_simp
        refine StepsS.cons ⟨1, 83, by kernel_rfl, fun _ _ h => h⟩ (fun T W hg => ?_) ?_
        · have e10 : T 10 = .pointer (some ⟨w5.heap.size, 0, none⟩) := hg.keep 10 (by rfl)
          have hwi := hg.wi
          clear hg
          refine OpRuns.of_ok (v := .agg #[.int .i64 k1.t, .int .i64 k1.n, .string k1.s]) (W' := W) ?_ ⟨rfl, Below.refl _ _⟩
          obtain ⟨c0, c1, c2, _, _, _⟩ := (HK1.out.below hwi HK1.out.lt).three
          simp only [execOp, evT, e10]
          go_simp
        refine StepsS.cons ⟨1, 83, by kernel_rfl, fun _ _ h => h⟩ (fun T W hg => ?_) ?_
        · have e12 : T 12 = .pointer (some ⟨w6.heap.size, 0, none⟩) := hg.keep 12 (by rfl)
          have hwi := hg.wi
          clear hg
          refine OpRuns.of_ok (v := .agg #[.int .i64 k1.t, .int .i64 k1.n, .string k1.s]) (W' := W) ?_ ⟨rfl, Below.refl _ _⟩
          obtain ⟨c0, c1, c2, _, _, _⟩ := (HK2.out.below hwi HK2.out.lt).three
          simp only [execOp, evT, e12]
          go_simp
        refine StepsS.cons ⟨1, 83, by kernel_rfl, fun _ _ h => h⟩ (fun T W hg => ?_) ?_
        · have e84 : T 84 = .agg #[.int .i64 k1.t, .int .i64 k1.n, .string k1.s] := hg.fact 1 15 84 (by kernel_rfl)
          have e85 : T 85 = .agg #[.int .i64 k1.t, .int .i64 k1.n, .string k1.s] := hg.fact 1 16 85 (by kernel_rfl)
          have hwi := hg.wi
          clear hg
          refine OpRuns.of_ok (v := .bool true) (W' := W) ?_ ⟨rfl, Below.refl _ _⟩
          simp only [execOp, evT, e84, e85]
          go_simp
        refine StepsS.cons trivial (fun T W hg => ?_) ?_
        · have e83 : T 83 = .bool true := hg.fact 1 14 83 (by kernel_rfl)
          have e86 : T 86 = .bool true := hg.fact 1 17 86 (by kernel_rfl)
          have hwi := hg.wi
          clear hg
          refine OpRuns.of_ok (v := .bool true) (W' := W) ?_ ⟨rfl, Below.refl _ _⟩
          simp only [execOp, evT, e83, e86]
          go_simp
        refine StepsS.cons trivial (fun T W hg => ?_) ?_
        · have e87 : T 87 = .bool true := hg.fact 1 18 87 (by kernel_rfl)
          have hwi := hg.wi
          clear hg
          refine OpRuns.of_ok (v := .bool true) (W' := W) ?_ ⟨rfl, Below.refl _ _⟩
          simp only [execOp, evT, e87]
          go_simp
        refine StepsS.cons ⟨1, 88, by kernel_rfl, fun _ _ h => h⟩ (fun T W hg => ?_) ?_
        · have e11 : T 11 = .int .i64 2 := hg.keep 11 (by rfl)
          have hwi := hg.wi
          clear hg
          refine OpRuns.of_ok (v := .int .i64 2) (W' := W) ?_ ⟨rfl, Below.refl _ _⟩
          simp only [execOp, evT, e11]
          go_simp
        refine StepsS.cons ⟨1, 88, by kernel_rfl, fun _ _ h => h⟩ (fun T W hg => ?_) ?_
        · have e89 : T 89 = .int .i64 2 := hg.fact 1 20 89 (by kernel_rfl)
          have hwi := hg.wi
          clear hg
          refine OpRuns.of_ok (v := .bool false) (W' := W) ?_ ⟨rfl, Below.refl _ _⟩
          simp only [execOp, evT, e89]
          go_simp
        refine StepsS.cons ⟨1, 88, by kernel_rfl, fun _ _ h => h⟩ (fun T W hg => ?_) ?_
        · have e13 : T 13 = .bool false := hg.keep 13 (by rfl)
          have hwi := hg.wi
          clear hg
          refine OpRuns.of_ok (v := .bool false) (W' := W) ?_ ⟨rfl, Below.refl _ _⟩
          simp only [execOp, evT, e13]
          go_simp
        refine StepsS.cons ⟨1, 88, by kernel_rfl, fun _ _ h => h⟩ (fun T W hg => ?_) ?_
        · have e90 : T 90 = .bool false := hg.fact 1 21 90 (by kernel_rfl)
          have e91 : T 91 = .bool false := hg.fact 1 22 91 (by kernel_rfl)
          have hwi := hg.wi
          clear hg
          refine OpRuns.of_ok (v := .bool true) (W' := W) ?_ ⟨rfl, Below.refl _ _⟩
          simp only [execOp, evT, e90, e91]
          go_simp
        refine StepsS.cons trivial (fun T W hg => ?_) ?_
        · have e88 : T 88 = .bool true := hg.fact 1 19 88 (by kernel_rfl)
          have e92 : T 92 = .bool true := hg.fact 1 23 92 (by kernel_rfl)
          have hwi := hg.wi
          clear hg
          refine OpRuns.of_ok (v := .bool true) (W' := W) ?_ ⟨rfl, Below.refl _ _⟩
          simp only [execOp, evT, e88, e92]
          go_simp
        refine StepsS.cons trivial (fun T W hg => ?_) ?_
        · have e93 : T 93 = .bool true := hg.fact 1 24 93 (by kernel_rfl)
          have hwi := hg.wi
          clear hg
          refine OpRuns.of_ok (v := .bool true) (W' := W) ?_ ⟨rfl, Below.refl _ _⟩
          simp only [execOp, evT, e93]
          go_simp
        refine StepsS.cons ⟨1, 94, by kernel_rfl, fun _ _ h => h⟩ (fun T W hg => ?_) ?_
        · have e13 : T 13 = .bool false := hg.keep 13 (by rfl)
          have hwi := hg.wi
          clear hg
          refine OpRuns.of_ok (v := .bool false) (W' := W) ?_ ⟨rfl, Below.refl _ _⟩
          simp only [execOp, evT, e13]
          go_simp
        refine StepsS.cons ⟨1, 94, by kernel_rfl, fun _ _ h => h⟩ (fun T W hg => ?_) ?_
        · have e95 : T 95 = .bool false := hg.fact 1 26 95 (by kernel_rfl)
          have hwi := hg.wi
          clear hg
          refine OpRuns.of_ok (v := .bool false) (W' := W) ?_ ⟨rfl, Below.refl _ _⟩
          simp only [execOp, evT, e95]
          go_simp
        refine StepsS.cons ⟨1, 96, by kernel_rfl, fun _ _ h => h⟩ (fun T W hg => ?_) ?_
        · have e11 : T 11 = .int .i64 2 := hg.keep 11 (by rfl)
          have hwi := hg.wi
          clear hg
          refine OpRuns.of_ok (v := .int .i64 2) (W' := W) ?_ ⟨rfl, Below.refl _ _⟩
          simp only [execOp, evT, e11]
          go_simp
        refine StepsS.cons ⟨1, 96, by kernel_rfl, fun _ _ h => h⟩ (fun T W hg => ?_) ?_
        · have e97 : T 97 = .int .i64 2 := hg.fact 1 28 97 (by kernel_rfl)
          have hwi := hg.wi
          clear hg
          refine OpRuns.of_ok (v := .bool true) (W' := W) ?_ ⟨rfl, Below.refl _ _⟩
          simp only [execOp, evT, e97]
          go_simp
        refine StepsS.cons ⟨1, 94, by kernel_rfl, fun _ _ h => h⟩ (fun T W hg => ?_) ?_
        · have e96 : T 96 = .bool false := hg.fact 1 27 96 (by kernel_rfl)
          have e98 : T 98 = .bool true := hg.fact 1 29 98 (by kernel_rfl)
          have hwi := hg.wi
          clear hg
          refine OpRuns.of_ok (v := .bool true) (W' := W) ?_ ⟨rfl, Below.refl _ _⟩
          simp only [execOp, evT, e96, e98]
          go_simp
        refine StepsS.cons trivial (fun T W hg => ?_) ?_
        · have e94 : T 94 = .bool true := hg.fact 1 25 94 (by kernel_rfl)
          have e99 : T 99 = .bool true := hg.fact 1 30 99 (by kernel_rfl)
          have hwi := hg.wi
          clear hg
          refine OpRuns.of_ok (v := .bool true) (W' := W) ?_ ⟨rfl, Below.refl _ _⟩
          simp only [execOp, evT, e94, e99]
          go_simp
        refine StepsS.cons trivial (fun T W hg => ?_) ?_
        · have e100 : T 100 = .bool true := hg.fact 1 31 100 (by kernel_rfl)
          have hwi := hg.wi
          clear hg
          refine OpRuns.of_ok (v := .bool true) (W' := W) ?_ ⟨rfl, Below.refl _ _⟩
          simp only [execOp, evT, e100]
          go_simp
        refine StepsS.cons ⟨1, 101, by kernel_rfl, fun _ _ h => h⟩ (fun T W hg => ?_) ?_
        · have e14 : T 14 = .pointer (some ⟨w7.heap.size, 0, none⟩) := hg.keep 14 (by rfl)
          have hwi := hg.wi
          clear hg
          refine OpRuns.of_ok (v := .agg #[.int .i64 k2.t, .int .i64 k2.n, .string k2.s]) (W' := W) ?_ ⟨rfl, Below.refl _ _⟩
          obtain ⟨c0, c1, c2, _, _, _⟩ := (HK3.out.below hwi HK3.out.lt).three
          simp only [execOp, evT, e14]
          go_simp
        refine StepsS.cons ⟨1, 101, by kernel_rfl, fun _ _ h => h⟩ (fun T W hg => ?_) ?_
        · have e16 : T 16 = .pointer (some ⟨w8.heap.size, 0, none⟩) := hg.keep 16 (by rfl)
          have hwi := hg.wi
          clear hg
          refine OpRuns.of_ok (v := .agg #[.int .i64 k2.t, .int .i64 k2.n, .string k2.s]) (W' := W) ?_ ⟨rfl, Below.refl _ _⟩
          obtain ⟨c0, c1, c2, _, _, _⟩ := (HK4.out.below hwi HK4.out.lt).three
          simp only [execOp, evT, e16]
          go_simp
        refine StepsS.cons ⟨1, 101, by kernel_rfl, fun _ _ h => h⟩ (fun T W hg => ?_) ?_
        · have e102 : T 102 = .agg #[.int .i64 k2.t, .int .i64 k2.n, .string k2.s] := hg.fact 1 33 102 (by kernel_rfl)
          have e103 : T 103 = .agg #[.int .i64 k2.t, .int .i64 k2.n, .string k2.s] := hg.fact 1 34 103 (by kernel_rfl)
          have hwi := hg.wi
          clear hg
          refine OpRuns.of_ok (v := .bool true) (W' := W) ?_ ⟨rfl, Below.refl _ _⟩
          simp only [execOp, evT, e102, e103]
          go_simp
        refine StepsS.cons trivial (fun T W hg => ?_) ?_
        · have e101 : T 101 = .bool true := hg.fact 1 32 101 (by kernel_rfl)
          have e104 : T 104 = .bool true := hg.fact 1 35 104 (by kernel_rfl)
          have hwi := hg.wi
          clear hg
          refine OpRuns.of_ok (v := .bool true) (W' := W) ?_ ⟨rfl, Below.refl _ _⟩
          simp only [execOp, evT, e101, e104]
          go_simp
        refine StepsS.cons trivial (fun T W hg => ?_) ?_
        · have e105 : T 105 = .bool true := hg.fact 1 36 105 (by kernel_rfl)
          have hwi := hg.wi
          clear hg
          refine OpRuns.of_ok (v := .bool true) (W' := W) ?_ ⟨rfl, Below.refl _ _⟩
          simp only [execOp, evT, e105]
          go_simp
        refine StepsS.cons ⟨1, 106, by kernel_rfl, fun _ _ h => h⟩ (fun T W hg => ?_) ?_
        · have e15 : T 15 = .int .i64 2 := hg.keep 15 (by rfl)
          have hwi := hg.wi
          clear hg
          refine OpRuns.of_ok (v := .int .i64 2) (W' := W) ?_ ⟨rfl, Below.refl _ _⟩
          simp only [execOp, evT, e15]
          go_simp
        refine StepsS.cons ⟨1, 106, by kernel_rfl, fun _ _ h => h⟩ (fun T W hg => ?_) ?_
        · have e107 : T 107 = .int .i64 2 := hg.fact 1 38 107 (by kernel_rfl)
          have hwi := hg.wi
          clear hg
          refine OpRuns.of_ok (v := .bool false) (W' := W) ?_ ⟨rfl, Below.refl _ _⟩
          simp only [execOp, evT, e107]
          go_simp
        refine StepsS.cons ⟨1, 106, by kernel_rfl, fun _ _ h => h⟩ (fun T W hg => ?_) ?_
        · have e17 : T 17 = .bool false := hg.keep 17 (by rfl)
          have hwi := hg.wi
          clear hg
          refine OpRuns.of_ok (v := .bool false) (W' := W) ?_ ⟨rfl, Below.refl _ _⟩
          simp only [execOp, evT, e17]
          go_simp
        refine StepsS.cons ⟨1, 106, by kernel_rfl, fun _ _ h => h⟩ (fun T W hg => ?_) ?_
        · have e108 : T 108 = .bool false := hg.fact 1 39 108 (by kernel_rfl)
          have e109 : T 109 = .bool false := hg.fact 1 40 109 (by kernel_rfl)
          have hwi := hg.wi
          clear hg
          refine OpRuns.of_ok (v := .bool true) (W' := W) ?_ ⟨rfl, Below.refl _ _⟩
          simp only [execOp, evT, e108, e109]
          go_simp
        refine StepsS.cons trivial (fun T W hg => ?_) ?_
        · have e106 : T 106 = .bool true := hg.fact 1 37 106 (by kernel_rfl)
          have e110 : T 110 = .bool true := hg.fact 1 41 110 (by kernel_rfl)
          have hwi := hg.wi
          clear hg
          refine OpRuns.of_ok (v := .bool true) (W' := W) ?_ ⟨rfl, Below.refl _ _⟩
          simp only [execOp, evT, e106, e110]
          go_simp
        refine StepsS.cons trivial (fun T W hg => ?_) ?_
        · have e111 : T 111 = .bool true := hg.fact 1 42 111 (by kernel_rfl)
          have hwi := hg.wi
          clear hg
          refine OpRuns.of_ok (v := .bool true) (W' := W) ?_ ⟨rfl, Below.refl _ _⟩
          simp only [execOp, evT, e111]
          go_simp
        refine StepsS.cons ⟨1, 112, by kernel_rfl, fun _ _ h => h⟩ (fun T W hg => ?_) ?_
        · have e17 : T 17 = .bool false := hg.keep 17 (by rfl)
          have hwi := hg.wi
          clear hg
          refine OpRuns.of_ok (v := .bool false) (W' := W) ?_ ⟨rfl, Below.refl _ _⟩
          simp only [execOp, evT, e17]
          go_simp
        refine StepsS.cons ⟨1, 112, by kernel_rfl, fun _ _ h => h⟩ (fun T W hg => ?_) ?_
        · have e113 : T 113 = .bool false := hg.fact 1 44 113 (by kernel_rfl)
          have hwi := hg.wi
          clear hg
          refine OpRuns.of_ok (v := .bool false) (W' := W) ?_ ⟨rfl, Below.refl _ _⟩
          simp only [execOp, evT, e113]
          go_simp
        refine StepsS.cons ⟨1, 114, by kernel_rfl, fun _ _ h => h⟩ (fun T W hg => ?_) ?_
        · have e15 : T 15 = .int .i64 2 := hg.keep 15 (by rfl)
          have hwi := hg.wi
          clear hg
          refine OpRuns.of_ok (v := .int .i64 2) (W' := W) ?_ ⟨rfl, Below.refl _ _⟩
          simp only [execOp, evT, e15]
          go_simp
        refine StepsS.cons ⟨1, 114, by kernel_rfl, fun _ _ h => h⟩ (fun T W hg => ?_) ?_
        · have e115 : T 115 = .int .i64 2 := hg.fact 1 46 115 (by kernel_rfl)
          have hwi := hg.wi
          clear hg
          refine OpRuns.of_ok (v := .bool true) (W' := W) ?_ ⟨rfl, Below.refl _ _⟩
          simp only [execOp, evT, e115]
          go_simp
        refine StepsS.cons ⟨1, 112, by kernel_rfl, fun _ _ h => h⟩ (fun T W hg => ?_) ?_
        · have e114 : T 114 = .bool false := hg.fact 1 45 114 (by kernel_rfl)
          have e116 : T 116 = .bool true := hg.fact 1 47 116 (by kernel_rfl)
          have hwi := hg.wi
          clear hg
          refine OpRuns.of_ok (v := .bool true) (W' := W) ?_ ⟨rfl, Below.refl _ _⟩
          simp only [execOp, evT, e114, e116]
          go_simp
        refine StepsS.cons trivial (fun T W hg => ?_) ?_
        · have e112 : T 112 = .bool true := hg.fact 1 43 112 (by kernel_rfl)
          have e117 : T 117 = .bool true := hg.fact 1 48 117 (by kernel_rfl)
          have hwi := hg.wi
          clear hg
          refine OpRuns.of_ok (v := .bool true) (W' := W) ?_ ⟨rfl, Below.refl _ _⟩
          simp only [execOp, evT, e112, e117]
          go_simp
        refine StepsS.cons trivial (fun T W hg => ?_) ?_
        · have e118 : T 118 = .bool true := hg.fact 1 49 118 (by kernel_rfl)
          have hwi := hg.wi
          clear hg
          refine OpRuns.of_ok (v := .bool true) (W' := W) ?_ ⟨rfl, Below.refl _ _⟩
          simp only [execOp, evT, e118]
          go_simp
        refine StepsS.cons ⟨1, 119, by kernel_rfl, fun _ _ h => h⟩ (fun T W hg => ?_) ?_
        · have hwi := hg.wi
          clear hg
          refine OpRuns.of_call ?_ ((known_any _ (HE8.out.below hwi (Nat.le_refl _))).mono fun e W' ⟨he, hb⟩ => ⟨_, he, rfl, hb⟩)
          simp only [execOp, resolve, invoke, List.map_toArray, List.map_nil, evT]
          go_simp
        refine StepsS.cons trivial (fun T W hg => ?_) ?_
        · have e119 : T 119 = .bool true := hg.fact 1 50 119 (by kernel_rfl)
          have e120 : T 120 = .bool true := hg.fact 1 51 120 (by kernel_rfl)
          have hwi := hg.wi
          clear hg
          refine OpRuns.of_ok (v := .bool true) (W' := W) ?_ ⟨rfl, Below.refl _ _⟩
          simp only [execOp, evT, e119, e120]
          go_simp
        refine StepsS.cons trivial (fun T W hg => ?_) ?_
        · have e121 : T 121 = .bool true := hg.fact 1 52 121 (by kernel_rfl)
          have hwi := hg.wi
          clear hg
          refine OpRuns.of_ok (v := .bool true) (W' := W) ?_ ⟨rfl, Below.refl _ _⟩
          simp only [execOp, evT, e121]
          go_simp
        exact StepsS.nil
      · intro us W1 hlen hF hb
        obtain ⟨y0, us0, rfl, hl0⟩ := len_cons hlen
        clear hlen
        obtain ⟨y1, us1, rfl, hl1⟩ := len_cons hl0
        clear hl0
        obtain ⟨y2, us2, rfl, hl2⟩ := len_cons hl1
        clear hl1
        obtain ⟨y3, us3, rfl, hl3⟩ := len_cons hl2
        clear hl2
        obtain ⟨y4, us4, rfl, hl4⟩ := len_cons hl3
        clear hl3
        obtain ⟨y5, us5, rfl, hl5⟩ := len_cons hl4
        clear hl4
        obtain ⟨y6, us6, rfl, hl6⟩ := len_cons hl5
        clear hl5
        obtain ⟨y7, us7, rfl, hl7⟩ := len_cons hl6
        clear hl6
        obtain ⟨y8, us8, rfl, hl8⟩ := len_cons hl7
        clear hl7
        obtain ⟨y9, us9, rfl, hl9⟩ := len_cons hl8
        clear hl8
        obtain ⟨y10, us10, rfl, hl10⟩ := len_cons hl9
        clear hl9
        obtain ⟨y11, us11, rfl, hl11⟩ := len_cons hl10
        clear hl10
        obtain ⟨y12, us12, rfl, hl12⟩ := len_cons hl11
        clear hl11
        obtain ⟨y13, us13, rfl, hl13⟩ := len_cons hl12
        clear hl12
        obtain ⟨y14, us14, rfl, hl14⟩ := len_cons hl13
        clear hl13
        obtain ⟨y15, us15, rfl, hl15⟩ := len_cons hl14
        clear hl14
        obtain ⟨y16, us16, rfl, hl16⟩ := len_cons hl15
        clear hl15
        obtain ⟨y17, us17, rfl, hl17⟩ := len_cons hl16
        clear hl16
        obtain ⟨y18, us18, rfl, hl18⟩ := len_cons hl17
        clear hl17
        obtain ⟨y19, us19, rfl, hl19⟩ := len_cons hl18
        clear hl18
        obtain ⟨y20, us20, rfl, hl20⟩ := len_cons hl19
        clear hl19
        obtain ⟨y21, us21, rfl, hl21⟩ := len_cons hl20
        clear hl20
        obtain ⟨y22, us22, rfl, hl22⟩ := len_cons hl21
        clear hl21
        obtain ⟨y23, us23, rfl, hl23⟩ := len_cons hl22
        clear hl22
        obtain ⟨y24, us24, rfl, hl24⟩ := len_cons hl23
        clear hl23
        obtain ⟨y25, us25, rfl, hl25⟩ := len_cons hl24
        clear hl24
        obtain ⟨y26, us26, rfl, hl26⟩ := len_cons hl25
        clear hl25
        obtain ⟨y27, us27, rfl, hl27⟩ := len_cons hl26
        clear hl26
        obtain ⟨y28, us28, rfl, hl28⟩ := len_cons hl27
        clear hl27
        obtain ⟨y29, us29, rfl, hl29⟩ := len_cons hl28
        clear hl28
        obtain ⟨y30, us30, rfl, hl30⟩ := len_cons hl29
        clear hl29
        obtain ⟨y31, us31, rfl, hl31⟩ := len_cons hl30
        clear hl30
        obtain ⟨y32, us32, rfl, hl32⟩ := len_cons hl31
        clear hl31
        obtain ⟨y33, us33, rfl, hl33⟩ := len_cons hl32
        clear hl32
        obtain ⟨y34, us34, rfl, hl34⟩ := len_cons hl33
        clear hl33
        obtain ⟨y35, us35, rfl, hl35⟩ := len_cons hl34
        clear hl34
        obtain ⟨y36, us36, rfl, hl36⟩ := len_cons hl35
        clear hl35
        obtain ⟨y37, us37, rfl, hl37⟩ := len_cons hl36
        clear hl36
        obtain ⟨y38, us38, rfl, hl38⟩ := len_cons hl37
        clear hl37
        obtain ⟨y39, us39, rfl, hl39⟩ := len_cons hl38
        clear hl38
        obtain ⟨y40, us40, rfl, hl40⟩ := len_cons hl39
        clear hl39
        obtain ⟨y41, us41, rfl, hl41⟩ := len_cons hl40
        clear hl40
        obtain ⟨y42, us42, rfl, hl42⟩ := len_cons hl41
        clear hl41
        obtain ⟨y43, us43, rfl, hl43⟩ := len_cons hl42
        clear hl42
        obtain ⟨y44, us44, rfl, hl44⟩ := len_cons hl43
        clear hl43
        obtain ⟨y45, us45, rfl, hl45⟩ := len_cons hl44
        clear hl44
        obtain ⟨y46, us46, rfl, hl46⟩ := len_cons hl45
        clear hl45
        obtain ⟨y47, us47, rfl, hl47⟩ := len_cons hl46
        clear hl46
        obtain ⟨y48, us48, rfl, hl48⟩ := len_cons hl47
        clear hl47
        obtain ⟨y49, us49, rfl, hl49⟩ := len_cons hl48
        clear hl48
        obtain ⟨y50, us50, rfl, hl50⟩ := len_cons hl49
        clear hl49
        obtain ⟨y51, us51, rfl, hl51⟩ := len_cons hl50
        clear hl50
        obtain ⟨y52, us52, rfl, hl52⟩ := len_cons hl51
        clear hl51
        obtain ⟨y53, us53, rfl, hl53⟩ := len_cons hl52
        clear hl52
        obtain rfl := len_nil hl53
        clear hl53
        have f53 : y53 = .bool true := hF 53 (by decide)
        clear hF
        subst f53
        simp only [updO, List.zip_cons_cons, List.zip_nil_right, List.setIfInBounds_toArray, List.set_cons_succ, List.set_cons_zero]
        have HBZ := Lib.hid (below_then HBW8.out hb hs8)
        clear hb
        go_wp2
        go_ret
        exact ⟨rfl, HBZ.out⟩
    ·
      simp only [if_true, if_false, Bool.false_eq_true] at HP1 HQ1 HP2 HQ2
      refine (HP1.out _ HE4.out).mono ?_
      rintro e w5 ⟨rfl, hb5⟩
      obtain ⟨W5, hW5, hbW5, hg5, _⟩ := blk1 w5 23 #[.int .i64 k1.t, .int .i64 k1.n, .string k1.s]
      have hbn := below_then hb5 hbW5 hb5.size
      have HA5 := Lib.hid ((HA4.out.below hbn).more hbn.size)
      have HV5 := Lib.hid (HV4.out.below hbn HV4.out.lt)
      have HBW5 := Lib.hid (below_then HBW4.out hbn hs4)
      have HK15 := Lib.hid hg5
      have HW5 := Lib.hid hW5
      clear hb5 hbW5 hbn hg5 hW5
      go_wp2_with fail
      rw [HW5.out]
      refine (HQ1.out _).mono ?_
      rintro e w6 ⟨rfl, hb6⟩
      obtain ⟨W6, hW6, hbW6, hg6, _⟩ := blk1 w6 23 #[.int .i64 k1.t, .int .i64 k1.n, .string k1.s]
      have hbn := below_then hb6 hbW6 hb6.size
      have HA6 := Lib.hid ((HA5.out.below hbn).more hbn.size)
      have HV6 := Lib.hid (HV5.out.below hbn HV5.out.lt)
      have HBW6 := Lib.hid (below_then HBW5.out hbn HBW5.out.size)
      have HK16 := Lib.hid (HK15.out.below hbn HK15.out.lt)
      have HK26 := Lib.hid hg6
      have hcv6 := conv_at cx HA6.out
      rw [HLEN.out, ← hW6] at hcv6
      have HW6 := Lib.hid hW6
      clear hb6 hbW6 hbn hg6 hW6
      go_wp2_with fail
      clear hcv6
      rw [HW6.out]
      refine (HP2.out _ (HE.out.below HBW6.out (Nat.le_refl _))).mono ?_
      rintro e w7 ⟨rfl, hb7⟩
      obtain ⟨W7, hW7, hbW7, hg7, _⟩ := blk1 w7 23 #[.int .i64 k2.t, .int .i64 k2.n, .string k2.s]
      have hbn := below_then hb7 hbW7 hb7.size
      have HA7 := Lib.hid ((HA6.out.below hbn).more hbn.size)
      have HV7 := Lib.hid (HV6.out.below hbn HV6.out.lt)
      have HBW7 := Lib.hid (below_then HBW6.out hbn HBW6.out.size)
      have HK17 := Lib.hid (HK16.out.below hbn HK16.out.lt)
      have HK27 := Lib.hid (HK26.out.below hbn HK26.out.lt)
      have HK37 := Lib.hid hg7
      have hcv7 := conv_at cx HA7.out
      rw [HLEN.out, ← hW7] at hcv7
      have HW7 := Lib.hid hW7
      clear hb7 hbW7 hbn hg7 hW7
      go_wp2_with fail
      clear hcv7
      rw [HW7.out]
      refine (HQ2.out _).mono ?_
      rintro e w8 ⟨rfl, hb8⟩
      obtain ⟨W8, hW8, hbW8, hg8, _⟩ := blk1 w8 23 #[.int .i64 k2.t, .int .i64 k2.n, .string k2.s]
      have hbn := below_then hb8 hbW8 hb8.size
      have HV8 := Lib.hid (HV7.out.below hbn HV7.out.lt)
      have HBW8 := Lib.hid (below_then HBW7.out hbn HBW7.out.size)
      have HK1 := Lib.hid (HK17.out.below hbn HK17.out.lt)
      have HK2 := Lib.hid (HK27.out.below hbn HK27.out.lt)
      have HK3 := Lib.hid (HK37.out.below hbn HK37.out.lt)
      have HK4 := Lib.hid hg8
      have HE8 := Lib.hid (HE.out.below HBW8.out (Nat.le_refl _))
      have hs8 := HBW8.out.size
      have HW8 := Lib.hid hW8
      clear hb8 hbW8 hbn hg8 hW8
      go_wp2
      rw [HW8.out]
      refine wp_region_skips [some 69, some 70, some 71, some 72, some 73, some 74, some 75, some 76, some 77, some 78, some 79, some 80, some 81, some 82, some 83, some 84, some 85, some 86, some 87, some 88, some 89, some 90, some 91, some 92, some 93, some 94, some 95, some 96, some 97, some 98, some 99, some 100, some 101, some 102, some 103, some 104, some 105, some 106, some 107, some 108, some 109, some 110, some 111, some 112, some 113, some 114, some 115, some 116, some 117, some 118, some 119, some 120, some 121, some 8] (TXft v u k1 k2) (by kernel_rfl) (by kernel_rfl) (by rfl) (by rfl) (TXft_stab v u k1 k2 _) ?_ ?_
      ·
        refine StepsS.cons trivial (fun T W hg => ?_) ?_
        · have e4 : T 4 = .pointer (some ⟨w.heap.size, 0, none⟩) := hg.keep 4 (by rfl)
          have hwi := hg.wi
          clear hg
          refine OpRuns.of_ok (v := .agg #[.int .i64 v.t, .int .i64 v.n, .string v.s]) (W' := W) ?_ ⟨rfl, Below.refl _ _⟩
          obtain ⟨c0, c1, c2, _, _, _⟩ := (HV8.out.below hwi HV8.out.lt).three
          simp only [execOp, evT, e4]
          go_simp
        refine StepsS.cons trivial (fun T W hg => ?_) ?_
        · have e69 : T 69 = .agg #[.int .i64 v.t, .int .i64 v.n, .string v.s] := hg.fact 1 0 69 (by kernel_rfl)
          have hwi := hg.wi
          clear hg
          refine OpRuns.of_call ?_ ((format_any v.t v.n v.s _ HRV.out.1 HRV.out.2 (HE8.out.below hwi (Nat.le_refl _))).mono fun e W' ⟨he, hb⟩ => ⟨_, he, rfl, hb⟩)
          simp only [execOp, resolve, invoke, List.map_toArray, List.map_cons, List.map_nil, evT, e69]
          go_simp
        refine StepsS.cons trivial (fun T W hg => ?_) ?_
        · have e4 : T 4 = .pointer (some ⟨w.heap.size, 0, none⟩) := hg.keep 4 (by rfl)
          have hwi := hg.wi
          clear hg
          refine OpRuns.of_ok (v := .agg #[.int .i64 v.t, .int .i64 v.n, .string v.s]) (W' := W) ?_ ⟨rfl, Below.refl _ _⟩
          obtain ⟨c0, c1, c2, _, _, _⟩ := (HV8.out.below hwi HV8.out.lt).three
          simp only [execOp, evT, e4]
          go_simp
        refine StepsS.cons trivial (fun T W hg => ?_) ?_
        · have e71 : T 71 = .agg #[.int .i64 v.t, .int .i64 v.n, .string v.s] := hg.fact 1 2 71 (by kernel_rfl)
          have hwi := hg.wi
          clear hg
          refine OpRuns.of_call ?_ ((refFmt_any v.t v.n v.s _ HRV.out.1 HRV.out.2 (by omega)).mono fun e W' ⟨he, hb⟩ => ⟨_, he, rfl, hb⟩)
          simp only [execOp, resolve, invoke, List.map_toArray, List.map_cons, List.map_nil, evT, e71]
          go_simp
        refine StepsS.cons trivial (fun T W hg => ?_) ?_
        · have e70 : T 70 = .string ⟨(fmtL v.t v.n v.s).toArray⟩ := hg.fact 1 1 70 (by kernel_rfl)
          have e72 : T 72 = .string ⟨(fmtL v.t v.n v.s).toArray⟩ := hg.fact 1 3 72 (by kernel_rfl)
          have hwi := hg.wi
          clear hg
          refine OpRuns.of_ok (v := .bool true) (W' := W) ?_ ⟨rfl, Below.refl _ _⟩
          simp only [execOp, evT, e70, e72]
          go_simp
        refine StepsS.cons trivial (fun T W hg => ?_) ?_
        · have e73 : T 73 = .bool true := hg.fact 1 4 73 (by kernel_rfl)
          have hwi := hg.wi
          clear hg
          refine OpRuns.of_ok (v := .bool true) (W' := W) ?_ ⟨rfl, Below.refl _ _⟩
          simp only [execOp, evT, e73]
          go_simp
        refine StepsS.cons ⟨1, 74, by kernel_rfl, fun _ _ h => h⟩ (fun T W hg => ?_) ?_
        · have e4 : T 4 = .pointer (some ⟨w.heap.size, 0, none⟩) := hg.keep 4 (by rfl)
          have hwi := hg.wi
          clear hg
          refine OpRuns.of_ok (v := .agg #[.int .i64 v.t, .int .i64 v.n, .string v.s]) (W' := W) ?_ ⟨rfl, Below.refl _ _⟩
          obtain ⟨c0, c1, c2, _, _, _⟩ := (HV8.out.below hwi HV8.out.lt).three
          simp only [execOp, evT, e4]
          go_simp
        refine StepsS.cons ⟨1, 74, by kernel_rfl, fun _ _ h => h⟩ (fun T W hg => ?_) ?_
        · have e75 : T 75 = .agg #[.int .i64 v.t, .int .i64 v.n, .string v.s] := hg.fact 1 6 75 (by kernel_rfl)
          have hwi := hg.wi
          clear hg
          refine OpRuns.of_call ?_ ((HMK.out _).mono fun e W' ⟨he, hb⟩ => ⟨_, he, rfl, hb⟩)
          simp only [execOp, resolve, invoke, List.map_toArray, List.map_cons, List.map_nil, evT, e75]
          go_simp
        refine StepsS.cons ⟨1, 74, by kernel_rfl, fun _ _ h => h⟩ (fun T W hg => ?_) ?_
        · have e76 : T 76 = .agg #[.int .i64 u.t, .int .i64 u.n, .string u.s] := hg.fact 1 7 76 (by kernel_rfl)
          have hwi := hg.wi
          clear hg
          refine OpRuns.of_call ?_ ((format_any u.t u.n u.s _ HRU.out.1 HRU.out.2 (HE8.out.below hwi (Nat.le_refl _))).mono fun e W' ⟨he, hb⟩ => ⟨_, he, rfl, hb⟩)
          simp only [execOp, resolve, invoke, List.map_toArray, List.map_cons, List.map_nil, evT, e76]
          go_simp
        refine StepsS.cons ⟨1, 74, by kernel_rfl, fun _ _ h => h⟩ (fun T W hg => ?_) ?_
        · have e4 : T 4 = .pointer (some ⟨w.heap.size, 0, none⟩) := hg.keep 4 (by rfl)
          have hwi := hg.wi
          clear hg
          refine OpRuns.of_ok (v := .agg #[.int .i64 v.t, .int .i64 v.n, .string v.s]) (W' := W) ?_ ⟨rfl, Below.refl _ _⟩
          obtain ⟨c0, c1, c2, _, _, _⟩ := (HV8.out.below hwi HV8.out.lt).three
          simp only [execOp, evT, e4]
          go_simp
        refine StepsS.cons ⟨1, 74, by kernel_rfl, fun _ _ h => h⟩ (fun T W hg => ?_) ?_
        · have e78 : T 78 = .agg #[.int .i64 v.t, .int .i64 v.n, .string v.s] := hg.fact 1 9 78 (by kernel_rfl)
          have hwi := hg.wi
          clear hg
          refine OpRuns.of_call ?_ ((HMK.out _).mono fun e W' ⟨he, hb⟩ => ⟨_, he, rfl, hb⟩)
          simp only [execOp, resolve, invoke, List.map_toArray, List.map_cons, List.map_nil, evT, e78]
          go_simp
        refine StepsS.cons ⟨1, 74, by kernel_rfl, fun _ _ h => h⟩ (fun T W hg => ?_) ?_
        · have e79 : T 79 = .agg #[.int .i64 u.t, .int .i64 u.n, .string u.s] := hg.fact 1 10 79 (by kernel_rfl)
          have hwi := hg.wi
          clear hg
          refine OpRuns.of_call ?_ ((refFmt_any u.t u.n u.s _ HRU.out.1 HRU.out.2 HSU.out).mono fun e W' ⟨he, hb⟩ => ⟨_, he, rfl, hb⟩)
          simp only [execOp, resolve, invoke, List.map_toArray, List.map_cons, List.map_nil, evT, e79]
          go_simp
        refine StepsS.cons ⟨1, 74, by kernel_rfl, fun _ _ h => h⟩ (fun T W hg => ?_) ?_
        · have e77 : T 77 = .string ⟨(fmtL u.t u.n u.s).toArray⟩ := hg.fact 1 8 77 (by kernel_rfl)
          have e80 : T 80 = .string ⟨(fmtL u.t u.n u.s).toArray⟩ := hg.fact 1 11 80 (by kernel_rfl)
          have hwi := hg.wi
          clear hg
          refine OpRuns.of_ok (v := .bool true) (W' := W) ?_ ⟨rfl, Below.refl _ _⟩
          simp only [execOp, evT, e77, e80]
          go_simp
        refine StepsS.cons trivial (fun T W hg => ?_) ?_
        · have e74 : T 74 = .bool true := hg.fact 1 5 74 (by kernel_rfl)
          have e81 : T 81 = .bool true := hg.fact 1 12 81 (by kernel_rfl)
          have hwi := hg.wi
          clear hg
          refine OpRuns.of_ok (v := .bool true) (W' := W) ?_ ⟨rfl, Below.refl _ _⟩
          simp only [execOp, evT, e74, e81]
          go_simp
        refine StepsS.cons trivial (fun T W hg => ?_) ?_
        · have e82 : T 82 = .bool true := hg.fact 1 13 82 (by kernel_rfl)
          have hwi := hg.wi
          clear hg
          refine OpRuns.of_ok (v := .bool true) (W' := W) ?_ ⟨rfl, Below.refl _ _⟩
          simp only [execOp, evT, e82]
          go_simp
        refine StepsS.cons ⟨1, 83, by kernel_rfl, fun _ _ h => h⟩ (fun T W hg => ?_) ?_
        · have e10 : T 10 = .pointer (some ⟨w5.heap.size, 0, none⟩) := hg.keep 10 (by rfl)
          have hwi := hg.wi
          clear hg
          refine OpRuns.of_ok (v := .agg #[.int .i64 k1.t, .int .i64 k1.n, .string k1.s]) (W' := W) ?_ ⟨rfl, Below.refl _ _⟩
          obtain ⟨c0, c1, c2, _, _, _⟩ := (HK1.out.below hwi HK1.out.lt).three
          simp only [execOp, evT, e10]
          go_simp
        refine StepsS.cons ⟨1, 83, by kernel_rfl, fun _ _ h => h⟩ (fun T W hg => ?_) ?_
        · have e12 : T 12 = .pointer (some ⟨w6.heap.size, 0, none⟩) := hg.keep 12 (by rfl)
          have hwi := hg.wi
          clear hg
          refine OpRuns.of_ok (v := .agg #[.int .i64 k1.t, .int .i64 k1.n, .string k1.s]) (W' := W) ?_ ⟨rfl, Below.refl _ _⟩
          obtain ⟨c0, c1, c2, _, _, _⟩ := (HK2.out.below hwi HK2.out.lt).three
          simp only [execOp, evT, e12]
          go_simp
        refine StepsS.cons ⟨1, 83, by kernel_rfl, fun _ _ h => h⟩ (fun T W hg => ?_) ?_
        · have e84 : T 84 = .agg #[.int .i64 k1.t, .int .i64 k1.n, .string k1.s] := hg.fact 1 15 84 (by kernel_rfl)
          have e85 : T 85 = .agg #[.int .i64 k1.t, .int .i64 k1.n, .string k1.s] := hg.fact 1 16 85 (by kernel_rfl)
          have hwi := hg.wi
          clear hg
          refine OpRuns.of_ok (v := .bool true) (W' := W) ?_ ⟨rfl, Below.refl _ _⟩
          simp only [execOp, evT, e84, e85]
          go_simp
        refine StepsS.cons trivial (fun T W hg => ?_) ?_
        · have e83 : T 83 = .bool true := hg.fact 1 14 83 (by kernel_rfl)
          have e86 : T 86 = .bool true := hg.fact 1 17 86 (by kernel_rfl)
          have hwi := hg.wi
          clear hg
          refine OpRuns.of_ok (v := .bool true) (W' := W) ?_ ⟨rfl, Below.refl _ _⟩
          simp only [execOp, evT, e83, e86]
          go_simp
        refine StepsS.cons trivial (fun T W hg => ?_) ?_
        · have e87 : T 87 = .bool true := hg.fact 1 18 87 (by kernel_rfl)
          have hwi := hg.wi
          clear hg
          refine OpRuns.of_ok (v := .bool true) (W' := W) ?_ ⟨rfl, Below.refl _ _⟩
          simp only [execOp, evT, e87]
          go_simp
        refine StepsS.cons ⟨1, 88, by kernel_rfl, fun _ _ h => h⟩ (fun T W hg => ?_) ?_
        · have e11 : T 11 = .int .i64 2 := hg.keep 11 (by rfl)
          have hwi := hg.wi
          clear hg
          refine OpRuns.of_ok (v := .int .i64 2) (W' := W) ?_ ⟨rfl, Below.refl _ _⟩
          simp only [execOp, evT, e11]
          go_simp
        refine StepsS.cons ⟨1, 88, by kernel_rfl, fun _ _ h => h⟩ (fun T W hg => ?_) ?_
        · have e89 : T 89 = .int .i64 2 := hg.fact 1 20 89 (by kernel_rfl)
          have hwi := hg.wi
          clear hg
          refine OpRuns.of_ok (v := .bool false) (W' := W) ?_ ⟨rfl, Below.refl _ _⟩
          simp only [execOp, evT, e89]
          go_simp
        refine StepsS.cons ⟨1, 88, by kernel_rfl, fun _ _ h => h⟩ (fun T W hg => ?_) ?_
        · have e13 : T 13 = .bool false := hg.keep 13 (by rfl)
          have hwi := hg.wi
          clear hg
          refine OpRuns.of_ok (v := .bool false) (W' := W) ?_ ⟨rfl, Below.refl _ _⟩
          simp only [execOp, evT, e13]
          go_simp
        refine StepsS.cons ⟨1, 88, by kernel_rfl, fun _ _ h => h⟩ (fun T W hg => ?_) ?_
        · have e90 : T 90 = .bool false := hg.fact 1 21 90 (by kernel_rfl)
          have e91 : T 91 = .bool false := hg.fact 1 22 91 (by kernel_rfl)
          have hwi := hg.wi
          clear hg
          refine OpRuns.of_ok (v := .bool true) (W' := W) ?_ ⟨rfl, Below.refl _ _⟩
          simp only [execOp, evT, e90, e91]
          go_simp
        refine StepsS.cons trivial (fun T W hg => ?_) ?_
        · have e88 : T 88 = .bool true := hg.fact 1 19 88 (by kernel_rfl)
          have e92 : T 92 = .bool true := hg.fact 1 23 92 (by kernel_rfl)
          have hwi := hg.wi
          clear hg
          refine OpRuns.of_ok (v := .bool true) (W' := W) ?_ ⟨rfl, Below.refl _ _⟩
          simp only [execOp, evT, e88, e92]
          go_simp
        refine StepsS.cons trivial (fun T W hg => ?_) ?_
        · have e93 : T 93 = .bool true := hg.fact 1 24 93 (by kernel_rfl)
          have hwi := hg.wi
          clear hg
          refine OpRuns.of_ok (v := .bool true) (W' := W) ?_ ⟨rfl, Below.refl _ _⟩
          simp only [execOp, evT, e93]
          go_simp
        refine StepsS.cons ⟨1, 94, by kernel_rfl, fun _ _ h => h⟩ (fun T W hg => ?_) ?_
        · have e13 : T 13 = .bool false := hg.keep 13 (by rfl)
          have hwi := hg.wi
          clear hg
          refine OpRuns.of_ok (v := .bool false) (W' := W) ?_ ⟨rfl, Below.refl _ _⟩
          simp only [execOp, evT, e13]
          go_simp
        refine StepsS.cons ⟨1, 94, by kernel_rfl, fun _ _ h => h⟩ (fun T W hg => ?_) ?_
        · have e95 : T 95 = .bool false := hg.fact 1 26 95 (by kernel_rfl)
          have hwi := hg.wi
          clear hg
          refine OpRuns.of_ok (v := .bool false) (W' := W) ?_ ⟨rfl, Below.refl _ _⟩
          simp only [execOp, evT, e95]
          go_simp
        refine StepsS.cons ⟨1, 96, by kernel_rfl, fun _ _ h => h⟩ (fun T W hg => ?_) ?_
        · have e11 : T 11 = .int .i64 2 := hg.keep 11 (by rfl)
          have hwi := hg.wi
          clear hg
          refine OpRuns.of_ok (v := .int .i64 2) (W' := W) ?_ ⟨rfl, Below.refl _ _⟩
          simp only [execOp, evT, e11]
          go_simp
        refine StepsS.cons ⟨1, 96, by kernel_rfl, fun _ _ h => h⟩ (fun T W hg => ?_) ?_
        · have e97 : T 97 = .int .i64 2 := hg.fact 1 28 97 (by kernel_rfl)
          have hwi := hg.wi
          clear hg
          refine OpRuns.of_ok (v := .bool true) (W' := W) ?_ ⟨rfl, Below.refl _ _⟩
          simp only [execOp, evT, e97]
          go_simp
        refine StepsS.cons ⟨1, 94, by kernel_rfl, fun _ _ h => h⟩ (fun T W hg => ?_) ?_
        · have e96 : T 96 = .bool false := hg.fact 1 27 96 (by kernel_rfl)
          have e98 : T 98 = .bool true := hg.fact 1 29 98 (by kernel_rfl)
          have hwi := hg.wi
          clear hg
          refine OpRuns.of_ok (v := .bool true) (W' := W) ?_ ⟨rfl, Below.refl _ _⟩
          simp only [execOp, evT, e96, e98]
          go_simp
        refine StepsS.cons trivial (fun T W hg => ?_) ?_
        · have e94 : T 94 = .bool true := hg.fact 1 25 94 (by kernel_rfl)
          have e99 : T 99 = .bool true := hg.fact 1 30 99 (by kernel_rfl)
          have hwi := hg.wi
          clear hg
          refine OpRuns.of_ok (v := .bool true) (W' := W) ?_ ⟨rfl, Below.refl _ _⟩
          simp only [execOp, evT, e94, e99]
          go_simp
        refine StepsS.cons trivial (fun T W hg => ?_) ?_
        · have e100 : T 100 = .bool true := hg.fact 1 31 100 (by kernel_rfl)
          have hwi := hg.wi
          clear hg
          refine OpRuns.of_ok (v := .bool true) (W' := W) ?_ ⟨rfl, Below.refl _ _⟩
          simp only [execOp, evT, e100]
          go_simp
        refine StepsS.cons ⟨1, 101, by kernel_rfl, fun _ _ h => h⟩ (fun T W hg => ?_) ?_
        · have e14 : T 14 = .pointer (some ⟨w7.heap.size, 0, none⟩) := hg.keep 14 (by rfl)
          have hwi := hg.wi
          clear hg
          refine OpRuns.of_ok (v := .agg #[.int .i64 k2.t, .int .i64 k2.n, .string k2.s]) (W' := W) ?_ ⟨rfl, Below.refl _ _⟩
          obtain ⟨c0, c1, c2, _, _, _⟩ := (HK3.out.below hwi HK3.out.lt).three
          simp only [execOp, evT, e14]
          go_simp
        refine StepsS.cons ⟨1, 101, by kernel_rfl, fun _ _ h => h⟩ (fun T W hg => ?_) ?_
        · have e16 : T 16 = .pointer (some ⟨w8.heap.size, 0, none⟩) := hg.keep 16 (by rfl)
          have hwi := hg.wi
          clear hg
          refine OpRuns.of_ok (v := .agg #[.int .i64 k2.t, .int .i64 k2.n, .string k2.s]) (W' := W) ?_ ⟨rfl, Below.refl _ _⟩
          obtain ⟨c0, c1, c2, _, _, _⟩ := (HK4.out.below hwi HK4.out.lt).three
          simp only [execOp, evT, e16]
          go_simp
        refine StepsS.cons ⟨1, 101, by kernel_rfl, fun _ _ h => h⟩ (fun T W hg => ?_) ?_
        · have e102 : T 102 = .agg #[.int .i64 k2.t, .int .i64 k2.n, .string k2.s] := hg.fact 1 33 102 (by kernel_rfl)
          have e103 : T 103 = .agg #[.int .i64 k2.t, .int .i64 k2.n, .string k2.s] := hg.fact 1 34 103 (by kernel_rfl)
          have hwi := hg.wi
          clear hg
          refine OpRuns.of_ok (v := .bool true) (W' := W) ?_ ⟨rfl, Below.refl _ _⟩
          simp only [execOp, evT, e102, e103]
          go_simp
        refine StepsS.cons trivial (fun T W hg => ?_) ?_
        · have e101 : T 101 = .bool true := hg.fact 1 32 101 (by kernel_rfl)
          have e104 : T 104 = .bool true := hg.fact 1 35 104 (by kernel_rfl)
          have hwi := hg.wi
          clear hg
          refine OpRuns.of_ok (v := .bool true) (W' := W) ?_ ⟨rfl, Below.refl _ _⟩
          simp only [execOp, evT, e101, e104]
          go_simp
        refine StepsS.cons trivial (fun T W hg => ?_) ?_
        · have e105 : T 105 = .bool true := hg.fact 1 36 105 (by kernel_rfl)
          have hwi := hg.wi
          clear hg
          refine OpRuns.of_ok (v := .bool true) (W' := W) ?_ ⟨rfl, Below.refl _ _⟩
          simp only [execOp, evT, e105]
          go_simp
        refine StepsS.cons ⟨1, 106, by kernel_rfl, fun _ _ h => h⟩ (fun T W hg => ?_) ?_
        · have e15 : T 15 = .int .i64 0 := hg.keep 15 (by rfl)
          have hwi := hg.wi
          clear hg
          refine OpRuns.of_ok (v := .int .i64 0) (W' := W) ?_ ⟨rfl, Below.refl _ _⟩
          simp only [execOp, evT, e15]
          go_simp
        refine StepsS.cons ⟨1, 106, by kernel_rfl, fun _ _ h => h⟩ (fun T W hg => ?_) ?_
        · have e107 : T 107 = .int .i64 0 := hg.fact 1 38 107 (by kernel_rfl)
          have hwi := hg.wi
          clear hg
          refine OpRuns.of_ok (v := .bool true) (W' := W) ?_ ⟨rfl, Below.refl _ _⟩
          simp only [execOp, evT, e107]
          go_simp
        refine StepsS.cons ⟨1, 106, by kernel_rfl, fun _ _ h => h⟩ (fun T W hg => ?_) ?_
        · have e17 : T 17 = .bool true := hg.keep 17 (by rfl)
          have hwi := hg.wi
          clear hg
          refine OpRuns.of_ok (v := .bool true) (W' := W) ?_ ⟨rfl, Below.refl _ _⟩
          simp only [execOp, evT, e17]
          go_simp
        refine StepsS.cons ⟨1, 106, by kernel_rfl, fun _ _ h => h⟩ (fun T W hg => ?_) ?_
        · have e108 : T 108 = .bool true := hg.fact 1 39 108 (by kernel_rfl)
          have e109 : T 109 = .bool true := hg.fact 1 40 109 (by kernel_rfl)
          have hwi := hg.wi
          clear hg
          refine OpRuns.of_ok (v := .bool true) (W' := W) ?_ ⟨rfl, Below.refl _ _⟩
          simp only [execOp, evT, e108, e109]
          go_simp
        refine StepsS.cons trivial (fun T W hg => ?_) ?_
        · have e106 : T 106 = .bool true := hg.fact 1 37 106 (by kernel_rfl)
          have e110 : T 110 = .bool true := hg.fact 1 41 110 (by kernel_rfl)
          have hwi := hg.wi
          clear hg
          refine OpRuns.of_ok (v := .bool true) (W' := W) ?_ ⟨rfl, Below.refl _ _⟩
          simp only [execOp, evT, e106, e110]
          go_simp
        refine StepsS.cons trivial (fun T W hg => ?_) ?_
        · have e111 : T 111 = .bool true := hg.fact 1 42 111 (by kernel_rfl)
          have hwi := hg.wi
          clear hg
          refine OpRuns.of_ok (v := .bool true) (W' := W) ?_ ⟨rfl, Below.refl _ _⟩
          simp only [execOp, evT, e111]
          go_simp
        refine StepsS.cons ⟨1, 112, by kernel_rfl, fun _ _ h => h⟩ (fun T W hg => ?_) ?_
        · have e17 : T 17 = .bool true := hg.keep 17 (by rfl)
          have hwi := hg.wi
          clear hg
          refine OpRuns.of_ok (v := .bool true) (W' := W) ?_ ⟨rfl, Below.refl _ _⟩
          simp only [execOp, evT, e17]
          go_simp
        refine StepsS.cons ⟨1, 112, by kernel_rfl, fun _ _ h => h⟩ (fun T W hg => ?_) ?_
        · have e113 : T 113 = .bool true := hg.fact 1 44 113 (by kernel_rfl)
          have hwi := hg.wi
          clear hg
          refine OpRuns.of_ok (v := .bool true) (W' := W) ?_ ⟨rfl, Below.refl _ _⟩
          simp only [execOp, evT, e113]
          go_simp
        refine StepsS.skip (j := 45) (b := false) 1 114 rfl (by kernel_rfl) (fun _ _ h => h) (fun _ _ => trivial) ?_
        refine StepsS.skip (j := 45) (b := false) 1 114 rfl (by kernel_rfl) (fun _ _ h => h) (fun _ _ => trivial) ?_
        refine StepsS.cons ⟨1, 112, by kernel_rfl, fun _ _ h => h⟩ (fun T W hg => ?_) ?_
        · have e114 : T 114 = .bool true := hg.fact 1 45 114 (by kernel_rfl)
          have p116 : (fun r W => True) (T 116) W := hg.fact 1 47 116 (by kernel_rfl)
          simp only at p116
          have hwi := hg.wi
          clear hg
          refine OpRuns.of_ok (v := .bool true) (W' := W) ?_ ⟨rfl, Below.refl _ _⟩
          simp only [execOp, evT, e114]
          go_simp
        refine StepsS.cons trivial (fun T W hg => ?_) ?_
        · have e112 : T 112 = .bool true := hg.fact 1 43 112 (by kernel_rfl)
          have e117 : T 117 = .bool true := hg.fact 1 48 117 (by kernel_rfl)
          have hwi := hg.wi
          clear hg
          refine OpRuns.of_ok (v := .bool true) (W' := W) ?_ ⟨rfl, Below.refl _ _⟩
          simp only [execOp, evT, e112, e117]
          go_simp
        refine StepsS.cons trivial (fun T W hg => ?_) ?_
        · have e118 : T 118 = .bool true := hg.fact 1 49 118 (by kernel_rfl)
          have hwi := hg.wi
          clear hg
          refine OpRuns.of_ok (v := .bool true) (W' := W) ?_ ⟨rfl, Below.refl _ _⟩
          simp only [execOp, evT, e118]
          go_simp
        refine StepsS.cons ⟨1, 119, by kernel_rfl, fun _ _ h => h⟩ (fun T W hg => ?_) ?_
        · have hwi := hg.wi
          clear hg
          refine OpRuns.of_call ?_ ((known_any _ (HE8.out.below hwi (Nat.le_refl _))).mono fun e W' ⟨he, hb⟩ => ⟨_, he, rfl, hb⟩)
          simp only [execOp, resolve, invoke, List.map_toArray, List.map_nil, evT]
          go_simp
        refine StepsS.cons trivial (fun T W hg => ?_) ?_
        · have e119 : T 119 = .bool true := hg.fact 1 50 119 (by kernel_rfl)
          have e120 : T 120 = .bool true := hg.fact 1 51 120 (by kernel_rfl)
          have hwi := hg.wi
          clear hg
          refine OpRuns.of_ok (v := .bool true) (W' := W) ?_ ⟨rfl, Below.refl _ _⟩
          simp only [execOp, evT, e119, e120]
          go_simp
        refine StepsS.cons trivial (fun T W hg => ?_) ?_
        · have e121 : T 121 = .bool true := hg.fact 1 52 121 (by kernel_rfl)
          have hwi := hg.wi
          clear hg
          refine OpRuns.of_ok (v := .bool true) (W' := W) ?_ ⟨rfl, Below.refl _ _⟩
          simp only [execOp, evT, e121]
          go_simp
        exact StepsS.nil
      · intro us W1 hlen hF hb
        obtain ⟨y0, us0, rfl, hl0⟩ := len_cons hlen
        clear hlen
        obtain ⟨y1, us1, rfl, hl1⟩ := len_cons hl0
        clear hl0
        obtain ⟨y2, us2, rfl, hl2⟩ := len_cons hl1
        clear hl1
        obtain ⟨y3, us3, rfl, hl3⟩ := len_cons hl2
        clear hl2
        obtain ⟨y4, us4, rfl, hl4⟩ := len_cons hl3
        clear hl3
        obtain ⟨y5, us5, rfl, hl5⟩ := len_cons hl4
        clear hl4
        obtain ⟨y6, us6, rfl, hl6⟩ := len_cons hl5
        clear hl5
        obtain ⟨y7, us7, rfl, hl7⟩ := len_cons hl6
        clear hl6
        obtain ⟨y8, us8, rfl, hl8⟩ := len_cons hl7
        clear hl7
        obtain ⟨y9, us9, rfl, hl9⟩ := len_cons hl8
        clear hl8
        obtain ⟨y10, us10, rfl, hl10⟩ := len_cons hl9
        clear hl9
        obtain ⟨y11, us11, rfl, hl11⟩ := len_cons hl10
        clear hl10
        obtain ⟨y12, us12, rfl, hl12⟩ := len_cons hl11
        clear hl11
        obtain ⟨y13, us13, rfl, hl13⟩ := len_cons hl12
        clear hl12
        obtain ⟨y14, us14, rfl, hl14⟩ := len_cons hl13
        clear hl13
        obtain ⟨y15, us15, rfl, hl15⟩ := len_cons hl14
        clear hl14
        obtain ⟨y16, us16, rfl, hl16⟩ := len_cons hl15
        clear hl15
        obtain ⟨y17, us17, rfl, hl17⟩ := len_cons hl16
        clear hl16
        obtain ⟨y18, us18, rfl, hl18⟩ := len_cons hl17
        clear hl17
        obtain ⟨y19, us19, rfl, hl19⟩ := len_cons hl18
        clear hl18
        obtain ⟨y20, us20, rfl, hl20⟩ := len_cons hl19
        clear hl19
        obtain ⟨y21, us21, rfl, hl21⟩ := len_cons hl20
        clear hl20
        obtain ⟨y22, us22, rfl, hl22⟩ := len_cons hl21
        clear hl21
        obtain ⟨y23, us23, rfl, hl23⟩ := len_cons hl22
        clear hl22
        obtain ⟨y24, us24, rfl, hl24⟩ := len_cons hl23
        clear hl23
        obtain ⟨y25, us25, rfl, hl25⟩ := len_cons hl24
        clear hl24
        obtain ⟨y26, us26, rfl, hl26⟩ := len_cons hl25
        clear hl25
        obtain ⟨y27, us27, rfl, hl27⟩ := len_cons hl26
        clear hl26
        obtain ⟨y28, us28, rfl, hl28⟩ := len_cons hl27
        clear hl27
        obtain ⟨y29, us29, rfl, hl29⟩ := len_cons hl28
        clear hl28
        obtain ⟨y30, us30, rfl, hl30⟩ := len_cons hl29
        clear hl29
        obtain ⟨y31, us31, rfl, hl31⟩ := len_cons hl30
        clear hl30
        obtain ⟨y32, us32, rfl, hl32⟩ := len_cons hl31
        clear hl31
        obtain ⟨y33, us33, rfl, hl33⟩ := len_cons hl32
        clear hl32
        obtain ⟨y34, us34, rfl, hl34⟩ := len_cons hl33
        clear hl33
        obtain ⟨y35, us35, rfl, hl35⟩ := len_cons hl34
        clear hl34
        obtain ⟨y36, us36, rfl, hl36⟩ := len_cons hl35
        clear hl35
        obtain ⟨y37, us37, rfl, hl37⟩ := len_cons hl36
        clear hl36
        obtain ⟨y38, us38, rfl, hl38⟩ := len_cons hl37
        clear hl37
        obtain ⟨y39, us39, rfl, hl39⟩ := len_cons hl38
        clear hl38
        obtain ⟨y40, us40, rfl, hl40⟩ := len_cons hl39
        clear hl39
        obtain ⟨y41, us41, rfl, hl41⟩ := len_cons hl40
        clear hl40
        obtain ⟨y42, us42, rfl, hl42⟩ := len_cons hl41
        clear hl41
        obtain ⟨y43, us43, rfl, hl43⟩ := len_cons hl42
        clear hl42
        obtain ⟨y44, us44, rfl, hl44⟩ := len_cons hl43
        clear hl43
        obtain ⟨y45, us45, rfl, hl45⟩ := len_cons hl44
        clear hl44
        obtain ⟨y46, us46, rfl, hl46⟩ := len_cons hl45
        clear hl45
        obtain ⟨y47, us47, rfl, hl47⟩ := len_cons hl46
        clear hl46
        obtain ⟨y48, us48, rfl, hl48⟩ := len_cons hl47
        clear hl47
        obtain ⟨y49, us49, rfl, hl49⟩ := len_cons hl48
        clear hl48
        obtain ⟨y50, us50, rfl, hl50⟩ := len_cons hl49
        clear hl49
        obtain ⟨y51, us51, rfl, hl51⟩ := len_cons hl50
        clear hl50
        obtain ⟨y52, us52, rfl, hl52⟩ := len_cons hl51
        clear hl51
        obtain ⟨y53, us53, rfl, hl53⟩ := len_cons hl52
        clear hl52
        obtain rfl := len_nil hl53
        clear hl53
        have f53 : y53 = .bool true := hF 53 (by decide)
        clear hF
        subst f53
        simp only [updO, List.zip_cons_cons, List.zip_nil_right, List.setIfInBounds_toArray, List.set_cons_succ, List.set_cons_zero]
        have HBZ := Lib.hid (below_then HBW8.out hb hs8)
        clear hb
        go_wp2
        go_ret
        exact ⟨rfl, HBZ.out⟩
  · cases ok2
    ·
      simp only [if_true, if_false, Bool.false_eq_true] at HP1 HQ1 HP2 HQ2
      refine (HP1.out _ HE4.out).mono ?_
      rintro e w5 ⟨rfl, hb5⟩
      obtain ⟨W5, hW5, hbW5, hg5, _⟩ := blk1 w5 23 #[.int .i64 k1.t, .int .i64 k1.n, .string k1.s]
      have hbn := below_then hb5 hbW5 hb5.size
      have HA5 := Lib.hid ((HA4.out.below hbn).more hbn.size)
      have HV5 := Lib.hid (HV4.out.below hbn HV4.out.lt)
      have HBW5 := Lib.hid (below_then HBW4.out hbn hs4)
      have HK15 := Lib.hid hg5
      have HW5 := Lib.hid hW5
      clear hb5 hbW5 hbn hg5 hW5
      go_wp2_with fail
      rw [HW5.out]
      refine (HQ1.out _).mono ?_
      rintro e w6 ⟨rfl, hb6⟩
      obtain ⟨W6, hW6, hbW6, hg6, _⟩ := blk1 w6 23 #[.int .i64 k1.t, .int .i64 k1.n, .string k1.s]
      have hbn := below_then hb6 hbW6 hb6.size
      have HA6 := Lib.hid ((HA5.out.below hbn).more hbn.size)
      have HV6 := Lib.hid (HV5.out.below hbn HV5.out.lt)
      have HBW6 := Lib.hid (below_then HBW5.out hbn HBW5.out.size)
      have HK16 := Lib.hid (HK15.out.below hbn HK15.out.lt)
      have HK26 := Lib.hid hg6
      have hcv6 := conv_at cx HA6.out
      rw [HLEN.out, ← hW6] at hcv6
      have HW6 := Lib.hid hW6
      clear hb6 hbW6 hbn hg6 hW6
      go_wp2_with fail
      clear hcv6
      rw [HW6.out]
      refine (HP2.out _ (HE.out.below HBW6.out (Nat.le_refl _))).mono ?_
      rintro e w7 ⟨rfl, hb7⟩
      obtain ⟨W7, hW7, hbW7, hg7, _⟩ := blk1 w7 23 #[.int .i64 k2.t, .int .i64 k2.n, .string k2.s]
      have hbn := below_then hb7 hbW7 hb7.size
      have HA7 := Lib.hid ((HA6.out.below hbn).more hbn.size)
      have HV7 := Lib.hid (HV6.out.below hbn HV6.out.lt)
      have HBW7 := Lib.hid (below_then HBW6.out hbn HBW6.out.size)
      have HK17 := Lib.hid (HK16.out.below hbn HK16.out.lt)
      have HK27 := Lib.hid (HK26.out.below hbn HK26.out.lt)
      have HK37 := Lib.hid hg7
      have hcv7 := conv_at cx HA7.out
      rw [HLEN.out, ← hW7] at hcv7
      have HW7 := Lib.hid hW7
      clear hb7 hbW7 hbn hg7 hW7
      go_wp2_with fail
      clear hcv7
      rw [HW7.out]
      refine (HQ2.out _).mono ?_
      rintro e w8 ⟨rfl, hb8⟩
      obtain ⟨W8, hW8, hbW8, hg8, _⟩ := blk1 w8 23 #[.int .i64 k2.t, .int .i64 k2.n, .string k2.s]
      have hbn := below_then hb8 hbW8 hb8.size
      have HV8 := Lib.hid (HV7.out.below hbn HV7.out.lt)
      have HBW8 := Lib.hid (below_then HBW7.out hbn HBW7.out.size)
      have HK1 := Lib.hid (HK17.out.below hbn HK17.out.lt)
      have HK2 := Lib.hid (HK27.out.below hbn HK27.out.lt)
      have HK3 := Lib.hid (HK37.out.below hbn HK37.out.lt)
      have HK4 := Lib.hid hg8
      have HE8 := Lib.hid (HE.out.below HBW8.out (Nat.le_refl _))
      have hs8 := HBW8.out.size
      have HW8 := Lib.hid hW8
      clear hb8 hbW8 hbn hg8 hW8
      go_wp2
      rw [HW8.out]
      refine wp_region_skips [some 69, some 70, some 71, some 72, some 73, some 74, some 75, some 76, some 77, some 78, some 79, some 80, some 81, some 82, some 83, some 84, some 85, some 86, some 87, some 88, some 89, some 90, some 91, some 92, some 93, some 94, some 95, some 96, some 97, some 98, some 99, some 100, some 101, some 102, some 103, some 104, some 105, some 106, some 107, some 108, some 109, some 110, some 111, some 112, some 113, some 114, some 115, some 116, some 117, some 118, some 119, some 120, some 121, some 8] (TXtf v u k1 k2) (by kernel_rfl) (by kernel_rfl) (by rfl) (by rfl) (TXtf_stab v u k1 k2 _) ?_ ?_
      ·
        refine StepsS.cons trivial (fun T W hg => ?_) ?_
        · have e4 : T 4 = .pointer (some ⟨w.heap.size, 0, none⟩) := hg.keep 4 (by rfl)
          have hwi := hg.wi
          clear hg
          refine OpRuns.of_ok (v := .agg #[.int .i64 v.t, .int .i64 v.n, .string v.s]) (W' := W) ?_ ⟨rfl, Below.refl _ _⟩
          obtain ⟨c0, c1, c2, _, _, _⟩ := (HV8.out.below hwi HV8.out.lt).three
          simp only [execOp, evT, e4]
          go_simp
        refine StepsS.cons trivial (fun T W hg => ?_) ?_
        · have e69 : T 69 = .agg #[.int .i64 v.t, .int .i64 v.n, .string v.s] := hg.fact 1 0 69 (by kernel_rfl)
          have hwi := hg.wi
          clear hg
          refine OpRuns.of_call ?_ ((format_any v.t v.n v.s _ HRV.out.1 HRV.out.2 (HE8.out.below hwi (Nat.le_refl _))).mono fun e W' ⟨he, hb⟩ => ⟨_, he, rfl, hb⟩)
          simp only [execOp, resolve, invoke, List.map_toArray, List.map_cons, List.map_nil, evT, e69]
          go_simp
        refine StepsS.cons trivial (fun T W hg => ?_) ?_
        · have e4 : T 4 = .pointer (some ⟨w.heap.size, 0, none⟩) := hg.keep 4 (by rfl)
          have hwi := hg.wi
          clear hg
          refine OpRuns.of_ok (v := .agg #[.int .i64 v.t, .int .i64 v.n, .string v.s]) (W' := W) ?_ ⟨rfl, Below.refl _ _⟩
          obtain ⟨c0, c1, c2, _, _, _⟩ := (HV8.out.below hwi HV8.out.lt).three
          simp only [execOp, evT, e4]
          go_simp
        refine StepsS.cons trivial (fun T W hg => ?_) ?_
        · have e71 : T 71 = .agg #[.int .i64 v.t, .int .i64 v.n, .string v.s] := hg.fact 1 2 71 (by kernel_rfl)
          have hwi := hg.wi
          clear hg
          refine OpRuns.of_call ?_ ((refFmt_any v.t v.n v.s _ HRV.out.1 HRV.out.2 (by omega)).mono fun e W' ⟨he, hb⟩ => ⟨_, he, rfl, hb⟩)
          simp only [execOp, resolve, invoke, List.map_toArray, List.map_cons, List.map_nil, evT, e71]
          go_simp
        refine StepsS.cons trivial (fun T W hg => ?_) ?_
        · have e70 : T 70 = .string ⟨(fmtL v.t v.n v.s).toArray⟩ := hg.fact 1 1 70 (by kernel_rfl)
          have e72 : T 72 = .string ⟨(fmtL v.t v.n v.s).toArray⟩ := hg.fact 1 3 72 (by kernel_rfl)
          have hwi := hg.wi
          clear hg
          refine OpRuns.of_ok (v := .bool true) (W' := W) ?_ ⟨rfl, Below.refl _ _⟩
          simp only [execOp, evT, e70, e72]
          go_simp
        refine StepsS.cons trivial (fun T W hg => ?_) ?_
        · have e73 : T 73 = .bool true := hg.fact 1 4 73 (by kernel_rfl)
          have hwi := hg.wi
          clear hg
          refine OpRuns.of_ok (v := .bool true) (W' := W) ?_ ⟨rfl, Below.refl _ _⟩
          simp only [execOp, evT, e73]
          go_simp
        refine StepsS.cons ⟨1, 74, by kernel_rfl, fun _ _ h => h⟩ (fun T W hg => ?_) ?_
        · have e4 : T 4 = .pointer (some ⟨w.heap.size, 0, none⟩) := hg.keep 4 (by rfl)
          have hwi := hg.wi
          clear hg
          refine OpRuns.of_ok (v := .agg #[.int .i64 v.t, .int .i64 v.n, .string v.s]) (W' := W) ?_ ⟨rfl, Below.refl _ _⟩
          obtain ⟨c0, c1, c2, _, _, _⟩ := (HV8.out.below hwi HV8.out.lt).three
          simp only [execOp, evT, e4]
          go_simp
        refine StepsS.cons ⟨1, 74, by kernel_rfl, fun _ _ h => h⟩ (fun T W hg => ?_) ?_
        · have e75 : T 75 = .agg #[.int .i64 v.t, .int .i64 v.n, .string v.s] := hg.fact 1 6 75 (by kernel_rfl)
          have hwi := hg.wi
          clear hg
          refine OpRuns.of_call ?_ ((HMK.out _).mono fun e W' ⟨he, hb⟩ => ⟨_, he, rfl, hb⟩)
          simp only [execOp, resolve, invoke, List.map_toArray, List.map_cons, List.map_nil, evT, e75]
          go_simp
        refine StepsS.cons ⟨1, 74, by kernel_rfl, fun _ _ h => h⟩ (fun T W hg => ?_) ?_
        · have e76 : T 76 = .agg #[.int .i64 u.t, .int .i64 u.n, .string u.s] := hg.fact 1 7 76 (by kernel_rfl)
          have hwi := hg.wi
          clear hg
          refine OpRuns.of_call ?_ ((format_any u.t u.n u.s _ HRU.out.1 HRU.out.2 (HE8.out.below hwi (Nat.le_refl _))).mono fun e W' ⟨he, hb⟩ => ⟨_, he, rfl, hb⟩)
          simp only [execOp, resolve, invoke, List.map_toArray, List.map_cons, List.map_nil, evT, e76]
          go_simp
        refine StepsS.cons ⟨1, 74, by kernel_rfl, fun _ _ h => h⟩ (fun T W hg => ?_) ?_
        · have e4 : T 4 = .pointer (some ⟨w.heap.size, 0, none⟩) := hg.keep 4 (by rfl)
          have hwi := hg.wi
          clear hg
          refine OpRuns.of_ok (v := .agg #[.int .i64 v.t, .int .i64 v.n, .string v.s]) (W' := W) ?_ ⟨rfl, Below.refl _ _⟩
          obtain ⟨c0, c1, c2, _, _, _⟩ := (HV8.out.below hwi HV8.out.lt).three
          simp only [execOp, evT, e4]
          go_simp
        refine StepsS.cons ⟨1, 74, by kernel_rfl, fun _ _ h => h⟩ (fun T W hg => ?_) ?_
        · have e78 : T 78 = .agg #[.int .i64 v.t, .int .i64 v.n, .string v.s] := hg.fact 1 9 78 (by kernel_rfl)
          have hwi := hg.wi
          clear hg
          refine OpRuns.of_call ?_ ((HMK.out _).mono fun e W' ⟨he, hb⟩ => ⟨_, he, rfl, hb⟩)
          simp only [execOp, resolve, invoke, List.map_toArray, List.map_cons, List.map_nil, evT, e78]
          go_simp
        refine StepsS.cons ⟨1, 74, by kernel_rfl, fun _ _ h => h⟩ (fun T W hg => ?_) ?_
        · have e79 : T 79 = .agg #[.int .i64 u.t, .int .i64 u.n, .string u.s] := hg.fact 1 10 79 (by kernel_rfl)
          have hwi := hg.wi
          clear hg
          refine OpRuns.of_call ?_ ((refFmt_any u.t u.n u.s _ HRU.out.1 HRU.out.2 HSU.out).mono fun e W' ⟨he, hb⟩ => ⟨_, he, rfl, hb⟩)
          simp only [execOp, resolve, invoke, List.map_toArray, List.map_cons, List.map_nil, evT, e79]
          go_simp
        refine StepsS.cons ⟨1, 74, by kernel_rfl, fun _ _ h => h⟩ (fun T W hg => ?_) ?_
        · have e77 : T 77 = .string ⟨(fmtL u.t u.n u.s).toArray⟩ := hg.fact 1 8 77 (by kernel_rfl)
          have e80 : T 80 = .string ⟨(fmtL u.t u.n u.s).toArray⟩ := hg.fact 1 11 80 (by kernel_rfl)
          have hwi := hg.wi
          clear hg
          refine OpRuns.of_ok (v := .bool true) (W' := W) ?_ ⟨rfl, Below.refl _ _⟩
          simp only [execOp, evT, e77, e80]
          go_simp
        refine StepsS.cons trivial (fun T W hg => ?_) ?_
        · have e74 : T 74 = .bool true := hg.fact 1 5 74 (by kernel_rfl)
          have e81 : T 81 = .bool true := hg.fact 1 12 81 (by kernel_rfl)
          have hwi := hg.wi
          clear hg
          refine OpRuns.of_ok (v := .bool true) (W' := W) ?_ ⟨rfl, Below.refl _ _⟩
          simp only [execOp, evT, e74, e81]
          go_simp
        refine StepsS.cons trivial (fun T W hg => ?_) ?_
        · have e82 : T 82 = .bool true := hg.fact 1 13 82 (by kernel_rfl)
          have hwi := hg.wi
          clear hg
          refine OpRuns.of_ok (v := .bool true) (W' := W) ?_ ⟨rfl, Below.refl _ _⟩
          simp only [execOp, evT, e82]
          go_simp
        refine StepsS.cons ⟨1, 83, by kernel_rfl, fun _ _ h => h⟩ (fun T W hg => ?_) ?_
        · have e10 : T 10 = .pointer (some ⟨w5.heap.size, 0, none⟩) := hg.keep 10 (by rfl)
          have hwi := hg.wi
          clear hg
          refine OpRuns.of_ok (v := .agg #[.int .i64 k1.t, .int .i64 k1.n, .string k1.s]) (W' := W) ?_ ⟨rfl, Below.refl _ _⟩
          obtain ⟨c0, c1, c2, _, _, _⟩ := (HK1.out.below hwi HK1.out.lt).three
          simp only [execOp, evT, e10]
          go_simp
        refine StepsS.cons ⟨1, 83, by kernel_rfl, fun _ _ h => h⟩ (fun T W hg => ?_) ?_
        · have e12 : T 12 = .pointer (some ⟨w6.heap.size, 0, none⟩) := hg.keep 12 (by rfl)
          have hwi := hg.wi
          clear hg
          refine OpRuns.of_ok (v := .agg #[.int .i64 k1.t, .int .i64 k1.n, .string k1.s]) (W' := W) ?_ ⟨rfl, Below.refl _ _⟩
          obtain ⟨c0, c1, c2, _, _, _⟩ := (HK2.out.below hwi HK2.out.lt).three
          simp only [execOp, evT, e12]
          go_simp
        refine StepsS.cons ⟨1, 83, by kernel_rfl, fun _ _ h => h⟩ (fun T W hg => ?_) ?_
        · have e84 : T 84 = .agg #[.int .i64 k1.t, .int .i64 k1.n, .string k1.s] := hg.fact 1 15 84 (by kernel_rfl)
          have e85 : T 85 = .agg #[.int .i64 k1.t, .int .i64 k1.n, .string k1.s] := hg.fact 1 16 85 (by kernel_rfl)
          have hwi := hg.wi
          clear hg
          refine OpRuns.of_ok (v := .bool true) (W' := W) ?_ ⟨rfl, Below.refl _ _⟩
          simp only [execOp, evT, e84, e85]
          go_simp
        refine StepsS.cons trivial (fun T W hg => ?_) ?_
        · have e83 : T 83 = .bool true := hg.fact 1 14 83 (by kernel_rfl)
          have e86 : T 86 = .bool true := hg.fact 1 17 86 (by kernel_rfl)
          have hwi := hg.wi
          clear hg
          refine OpRuns.of_ok (v := .bool true) (W' := W) ?_ ⟨rfl, Below.refl _ _⟩
          simp only [execOp, evT, e83, e86]
          go_simp
        refine StepsS.cons trivial (fun T W hg => ?_) ?_
        · have e87 : T 87 = .bool true := hg.fact 1 18 87 (by kernel_rfl)
          have hwi := hg.wi
          clear hg
          refine OpRuns.of_ok (v := .bool true) (W' := W) ?_ ⟨rfl, Below.refl _ _⟩
          simp only [execOp, evT, e87]
          go_simp
        refine StepsS.cons ⟨1, 88, by kernel_rfl, fun _ _ h => h⟩ (fun T W hg => ?_) ?_
        · have e11 : T 11 = .int .i64 0 := hg.keep 11 (by rfl)
          have hwi := hg.wi
          clear hg
          refine OpRuns.of_ok (v := .int .i64 0) (W' := W) ?_ ⟨rfl, Below.refl _ _⟩
          simp only [execOp, evT, e11]
          go_simp
        refine StepsS.cons ⟨1, 88, by kernel_rfl, fun _ _ h => h⟩ (fun T W hg => ?_) ?_
        · have e89 : T 89 = .int .i64 0 := hg.fact 1 20 89 (by kernel_rfl)
          have hwi := hg.wi
          clear hg
          refine OpRuns.of_ok (v := .bool true) (W' := W) ?_ ⟨rfl, Below.refl _ _⟩
          simp only [execOp, evT, e89]
          go_simp
        refine StepsS.cons ⟨1, 88, by kernel_rfl, fun _ _ h => h⟩ (fun T W hg => ?_) ?_
        · have e13 : T 13 = .bool true := hg.keep 13 (by rfl)
          have hwi := hg.wi
          clear hg
          refine OpRuns.of_ok (v := .bool true) (W' := W) ?_ ⟨rfl, Below.refl _ _⟩
          simp only [execOp, evT, e13]
          go_simp
        refine StepsS.cons ⟨1, 88, by kernel_rfl, fun _ _ h => h⟩ (fun T W hg => ?_) ?_
        · have e90 : T 90 = .bool true := hg.fact 1 21 90 (by kernel_rfl)
          have e91 : T 91 = .bool true := hg.fact 1 22 91 (by kernel_rfl)
          have hwi := hg.wi
          clear hg
          refine OpRuns.of_ok (v := .bool true) (W' := W) ?_ ⟨rfl, Below.refl _ _⟩
          simp only [execOp, evT, e90, e91]
          go_simp
        refine StepsS.cons trivial (fun T W hg => ?_) ?_
        · have e88 : T 88 = .bool true := hg.fact 1 19 88 (by kernel_rfl)
          have e92 : T 92 = .bool true := hg.fact 1 23 92 (by kernel_rfl)
          have hwi := hg.wi
          clear hg
          refine OpRuns.of_ok (v := .bool true) (W' := W) ?_ ⟨rfl, Below.refl _ _⟩
          simp only [execOp, evT, e88, e92]
          go_simp
        refine StepsS.cons trivial (fun T W hg => ?_) ?_
        · have e93 : T 93 = .bool true := hg.fact 1 24 93 (by kernel_rfl)
          have hwi := hg.wi
          clear hg
          refine OpRuns.of_ok (v := .bool true) (W' := W) ?_ ⟨rfl, Below.refl _ _⟩
          simp only [execOp, evT, e93]
          go_simp
        refine StepsS.cons ⟨1, 94, by kernel_rfl, fun _ _ h => h⟩ (fun T W hg => ?_) ?_
        · have e13 : T 13 = .bool true := hg.keep 13 (by rfl)
          have hwi := hg.wi
          clear hg
          refine OpRuns.of_ok (v := .bool true) (W' := W) ?_ ⟨rfl, Below.refl _ _⟩
          simp only [execOp, evT, e13]
          go_simp
        refine StepsS.cons ⟨1, 94, by kernel_rfl, fun _ _ h => h⟩ (fun T W hg => ?_) ?_
        · have e95 : T 95 = .bool true := hg.fact 1 26 95 (by kernel_rfl)
          have hwi := hg.wi
          clear hg
          refine OpRuns.of_ok (v := .bool true) (W' := W) ?_ ⟨rfl, Below.refl _ _⟩
          simp only [execOp, evT, e95]
          go_simp
        refine StepsS.skip (j := 27) (b := false) 1 96 rfl (by kernel_rfl) (fun _ _ h => h) (fun _ _ => trivial) ?_
        refine StepsS.skip (j := 27) (b := false) 1 96 rfl (by kernel_rfl) (fun _ _ h => h) (fun _ _ => trivial) ?_
        refine StepsS.cons ⟨1, 94, by kernel_rfl, fun _ _ h => h⟩ (fun T W hg => ?_) ?_
        · have e96 : T 96 = .bool true := hg.fact 1 27 96 (by kernel_rfl)
          have p98 : (fun r W => True) (T 98) W := hg.fact 1 29 98 (by kernel_rfl)
          simp only at p98
          have hwi := hg.wi
          clear hg
          refine OpRuns.of_ok (v := .bool true) (W' := W) ?_ ⟨rfl, Below.refl _ _⟩
          simp only [execOp, evT, e96]
          go_simp
        refine StepsS.cons trivial (fun T W hg => ?_) ?_
        · have e94 : T 94 = .bool true := hg.fact 1 25 94 (by kernel_rfl)
          have e99 : T 99 = .bool true := hg.fact 1 30 99 (by kernel_rfl)
          have hwi := hg.wi
          clear hg
          refine OpRuns.of_ok (v := .bool true) (W' := W) ?_ ⟨rfl, Below.refl _ _⟩
          simp only [execOp, evT, e94, e99]
          go_simp
        refine StepsS.cons trivial (fun T W hg => ?_) ?_
        · have e100 : T 100 = .bool true := hg.fact 1 31 100 (by kernel_rfl)
          have hwi := hg.wi
          clear hg
          refine OpRuns.of_ok (v := .bool true) (W' := W) ?_ ⟨rfl, Below.refl _ _⟩
          simp only [execOp, evT, e100]
          go_simp
        refine StepsS.cons ⟨1, 101, by kernel_rfl, fun _ _ h => h⟩ (fun T W hg => ?_) ?_
        · have e14 : T 14 = .pointer (some ⟨w7.heap.size, 0, none⟩) := hg.keep 14 (by rfl)
          have hwi := hg.wi
          clear hg
          refine OpRuns.of_ok (v := .agg #[.int .i64 k2.t, .int .i64 k2.n, .string k2.s]) (W' := W) ?_ ⟨rfl, Below.refl _ _⟩
          obtain ⟨c0, c1, c2, _, _, _⟩ := (HK3.out.below hwi HK3.out.lt).three
          simp only [execOp, evT, e14]
          go_simp
        refine StepsS.cons ⟨1, 101, by kernel_rfl, fun _ _ h => h⟩ (fun T W hg => ?_) ?_
        · have e16 : T 16 = .pointer (some ⟨w8.heap.size, 0, none⟩) := hg.keep 16 (by rfl)
          have hwi := hg.wi
          clear hg
          refine OpRuns.of_ok (v := .agg #[.int .i64 k2.t, .int .i64 k2.n, .string k2.s]) (W' := W) ?_ ⟨rfl, Below.refl _ _⟩
          obtain ⟨c0, c1, c2, _, _, _⟩ := (HK4.out.below hwi HK4.out.lt).three
          simp only [execOp, evT, e16]
          go_simp
        refine StepsS.cons ⟨1, 101, by kernel_rfl, fun _ _ h => h⟩ (fun T W hg => ?_) ?_
        · have e102 : T 102 = .agg #[.int .i64 k2.t, .int .i64 k2.n, .string k2.s] := hg.fact 1 33 102 (by kernel_rfl)
          have e103 : T 103 = .agg #[.int .i64 k2.t, .int .i64 k2.n, .string k2.s] := hg.fact 1 34 103 (by kernel_rfl)
          have hwi := hg.wi
          clear hg
          refine OpRuns.of_ok (v := .bool true) (W' := W) ?_ ⟨rfl, Below.refl _ _⟩
          simp only [execOp, evT, e102, e103]
          go_simp
        refine StepsS.cons trivial (fun T W hg => ?_) ?_
        · have e101 : T 101 = .bool true := hg.fact 1 32 101 (by kernel_rfl)
          have e104 : T 104 = .bool true := hg.fact 1 35 104 (by kernel_rfl)
          have hwi := hg.wi
          clear hg
          refine OpRuns.of_ok (v := .bool true) (W' := W) ?_ ⟨rfl, Below.refl _ _⟩
          simp only [execOp, evT, e101, e104]
          go_simp
        refine StepsS.cons trivial (fun T W hg => ?_) ?_
        · have e105 : T 105 = .bool true := hg.fact 1 36 105 (by kernel_rfl)
          have hwi := hg.wi
          clear hg
          refine OpRuns.of_ok (v := .bool true) (W' := W) ?_ ⟨rfl, Below.refl _ _⟩
          simp only [execOp, evT, e105]
          go_simp
        refine StepsS.cons ⟨1, 106, by kernel_rfl, fun _ _ h => h⟩ (fun T W hg => ?_) ?_
        · have e15 : T 15 = .int .i64 2 := hg.keep 15 (by rfl)
          have hwi := hg.wi
          clear hg
          refine OpRuns.of_ok (v := .int .i64 2) (W' := W) ?_ ⟨rfl, Below.refl _ _⟩
          simp only [execOp, evT, e15]
          go_simp
        refine StepsS.cons ⟨1, 106, by kernel_rfl, fun _ _ h => h⟩ (fun T W hg => ?_) ?_
        · have e107 : T 107 = .int .i64 2 := hg.fact 1 38 107 (by kernel_rfl)
          have hwi := hg.wi
          clear hg
          refine OpRuns.of_ok (v := .bool false) (W' := W) ?_ ⟨rfl, Below.refl _ _⟩
          simp only [execOp, evT, e107]
          go_simp
        refine StepsS.cons ⟨1, 106, by kernel_rfl, fun _ _ h => h⟩ (fun T W hg => ?_) ?_
        · have e17 : T 17 = .bool false := hg.keep 17 (by rfl)
          have hwi := hg.wi
          clear hg
          refine OpRuns.of_ok (v := .bool false) (W' := W) ?_ ⟨rfl, Below.refl _ _⟩
          simp only [execOp, evT, e17]
          go_simp
        refine StepsS.cons ⟨1, 106, by kernel_rfl, fun _ _ h => h⟩ (fun T W hg => ?_) ?_
        · have e108 : T 108 = .bool false := hg.fact 1 39 108 (by kernel_rfl)
          have e109 : T 109 = .bool false := hg.fact 1 40 109 (by kernel_rfl)
          have hwi := hg.wi
          clear hg
          refine OpRuns.of_ok (v := .bool true) (W' := W) ?_ ⟨rfl, Below.refl _ _⟩
          simp only [execOp, evT, e108, e109]
          go_simp
        refine StepsS.cons trivial (fun T W hg => ?_) ?_
        · have e106 : T 106 = .bool true := hg.fact 1 37 106 (by kernel_rfl)
          have e110 : T 110 = .bool true := hg.fact 1 41 110 (by kernel_rfl)
          have hwi := hg.wi
          clear hg
          refine OpRuns.of_ok (v := .bool true) (W' := W) ?_ ⟨rfl, Below.refl _ _⟩
          simp only [execOp, evT, e106, e110]
          go_simp
        refine StepsS.cons trivial (fun T W hg => ?_) ?_
        · have e111 : T 111 = .bool true := hg.fact 1 42 111 (by kernel_rfl)
          have hwi := hg.wi
          clear hg
          refine OpRuns.of_ok (v := .bool true) (W' := W) ?_ ⟨rfl, Below.refl _ _⟩
          simp only [execOp, evT, e111]
          go_simp
        refine StepsS.cons ⟨1, 112, by kernel_rfl, fun _ _ h => h⟩ (fun T W hg => ?_) ?_
        · have e17 : T 17 = .bool false := hg.keep 17 (by rfl)
          have hwi := hg.wi
          clear hg
          refine OpRuns.of_ok (v := .bool false) (W' := W) ?_ ⟨rfl, Below.refl _ _⟩
          simp only [execOp, evT, e17]
          go_simp
        refine StepsS.cons ⟨1, 112, by kernel_rfl, fun _ _ h => h⟩ (fun T W hg => ?_) ?_
        · have e113 : T 113 = .bool false := hg.fact 1 44 113 (by kernel_rfl)
          have hwi := hg.wi
          clear hg
          refine OpRuns.of_ok (v := .bool false) (W' := W) ?_ ⟨rfl, Below.refl _ _⟩
          simp only [execOp, evT, e113]
          go_simp
        refine StepsS.cons ⟨1, 114, by kernel_rfl, fun _ _ h => h⟩ (fun T W hg => ?_) ?_
        · have e15 : T 15 = .int .i64 2 := hg.keep 15 (by rfl)
          have hwi := hg.wi
          clear hg
          refine OpRuns.of_ok (v := .int .i64 2) (W' := W) ?_ ⟨rfl, Below.refl _ _⟩
          simp only [execOp, evT, e15]
          go_simp
        refine StepsS.cons ⟨1, 114, by kernel_rfl, fun _ _ h => h⟩ (fun T W hg => ?_) ?_
        · have e115 : T 115 = .int .i64 2 := hg.fact 1 46 115 (by kernel_rfl)
          have hwi := hg.wi
          clear hg
          refine OpRuns.of_ok (v := .bool true) (W' := W) ?_ ⟨rfl, Below.refl _ _⟩
          simp only [execOp, evT, e115]
          go_simp
        refine StepsS.cons ⟨1, 112, by kernel_rfl, fun _ _ h => h⟩ (fun T W hg => ?_) ?_
        · have e114 : T 114 = .bool false := hg.fact 1 45 114 (by kernel_rfl)
          have e116 : T 116 = .bool true := hg.fact 1 47 116 (by kernel_rfl)
          have hwi := hg.wi
          clear hg
          refine OpRuns.of_ok (v := .bool true) (W' := W) ?_ ⟨rfl, Below.refl _ _⟩
          simp only [execOp, evT, e114, e116]
          go_simp
        refine StepsS.cons trivial (fun T W hg => ?_) ?_
        · have e112 : T 112 = .bool true := hg.fact 1 43 112 (by kernel_rfl)
          have e117 : T 117 = .bool true := hg.fact 1 48 117 (by kernel_rfl)
          have hwi := hg.wi
          clear hg
          refine OpRuns.of_ok (v := .bool true) (W' := W) ?_ ⟨rfl, Below.refl _ _⟩
          simp only [execOp, evT, e112, e117]
          go_simp
        refine StepsS.cons trivial (fun T W hg => ?_) ?_
        · have e118 : T 118 = .bool true := hg.fact 1 49 118 (by kernel_rfl)
          have hwi := hg.wi
          clear hg
          refine OpRuns.of_ok (v := .bool true) (W' := W) ?_ ⟨rfl, Below.refl _ _⟩
          simp only [execOp, evT, e118]
          go_simp
        refine StepsS.cons ⟨1, 119, by kernel_rfl, fun _ _ h => h⟩ (fun T W hg => ?_) ?_
        · have hwi := hg.wi
          clear hg
          refine OpRuns.of_call ?_ ((known_any _ (HE8.out.below hwi (Nat.le_refl _))).mono fun e W' ⟨he, hb⟩ => ⟨_, he, rfl, hb⟩)
          simp only [execOp, resolve, invoke, List.map_toArray, List.map_nil, evT]
          go_simp
        refine StepsS.cons trivial (fun T W hg => ?_) ?_
        · have e119 : T 119 = .bool true := hg.fact 1 50 119 (by kernel_rfl)
          have e120 : T 120 = .bool true := hg.fact 1 51 120 (by kernel_rfl)
          have hwi := hg.wi
          clear hg
          refine OpRuns.of_ok (v := .bool true) (W' := W) ?_ ⟨rfl, Below.refl _ _⟩
          simp only [execOp, evT, e119, e120]
          go_simp
        refine StepsS.cons trivial (fun T W hg => ?_) ?_
        · have e121 : T 121 = .bool true := hg.fact 1 52 121 (by kernel_rfl)
          have hwi := hg.wi
          clear hg
          refine OpRuns.of_ok (v := .bool true) (W' := W) ?_ ⟨rfl, Below.refl _ _⟩
          simp only [execOp, evT, e121]
          go_simp
        exact StepsS.nil
      · intro us W1 hlen hF hb
        obtain ⟨y0, us0, rfl, hl0⟩ := len_cons hlen
        clear hlen
        obtain ⟨y1, us1, rfl, hl1⟩ := len_cons hl0
        clear hl0
        obtain ⟨y2, us2, rfl, hl2⟩ := len_cons hl1
        clear hl1
        obtain ⟨y3, us3, rfl, hl3⟩ := len_cons hl2
        clear hl2
        obtain ⟨y4, us4, rfl, hl4⟩ := len_cons hl3
        clear hl3
        obtain ⟨y5, us5, rfl, hl5⟩ := len_cons hl4
        clear hl4
        obtain ⟨y6, us6, rfl, hl6⟩ := len_cons hl5
        clear hl5
        obtain ⟨y7, us7, rfl, hl7⟩ := len_cons hl6
        clear hl6
        obtain ⟨y8, us8, rfl, hl8⟩ := len_cons hl7
        clear hl7
        obtain ⟨y9, us9, rfl, hl9⟩ := len_cons hl8
        clear hl8
        obtain ⟨y10, us10, rfl, hl10⟩ := len_cons hl9
        clear hl9
        obtain ⟨y11, us11, rfl, hl11⟩ := len_cons hl10
        clear hl10
        obtain ⟨y12, us12, rfl, hl12⟩ := len_cons hl11
        clear hl11
        obtain ⟨y13, us13, rfl, hl13⟩ := len_cons hl12
        clear hl12
        obtain ⟨y14, us14, rfl, hl14⟩ := len_cons hl13
        clear hl13
        obtain ⟨y15, us15, rfl, hl15⟩ := len_cons hl14
        clear hl14
        obtain ⟨y16, us16, rfl, hl16⟩ := len_cons hl15
        clear hl15
        obtain ⟨y17, us17, rfl, hl17⟩ := len_cons hl16
        clear hl16
        obtain ⟨y18, us18, rfl, hl18⟩ := len_cons hl17
        clear hl17
        obtain ⟨y19, us19, rfl, hl19⟩ := len_cons hl18
        clear hl18
        obtain ⟨y20, us20, rfl, hl20⟩ := len_cons hl19
        clear hl19
        obtain ⟨y21, us21, rfl, hl21⟩ := len_cons hl20
        clear hl20
        obtain ⟨y22, us22, rfl, hl22⟩ := len_cons hl21
        clear hl21
        obtain ⟨y23, us23, rfl, hl23⟩ := len_cons hl22
        clear hl22
        obtain ⟨y24, us24, rfl, hl24⟩ := len_cons hl23
        clear hl23
        obtain ⟨y25, us25, rfl, hl25⟩ := len_cons hl24
        clear hl24
        obtain ⟨y26, us26, rfl, hl26⟩ := len_cons hl25
        clear hl25
        obtain ⟨y27, us27, rfl, hl27⟩ := len_cons hl26
        clear hl26
        obtain ⟨y28, us28, rfl, hl28⟩ := len_cons hl27
        clear hl27
        obtain ⟨y29, us29, rfl, hl29⟩ := len_cons hl28
        clear hl28
        obtain ⟨y30, us30, rfl, hl30⟩ := len_cons hl29
        clear hl29
        obtain ⟨y31, us31, rfl, hl31⟩ := len_cons hl30
        clear hl30
        obtain ⟨y32, us32, rfl, hl32⟩ := len_cons hl31
        clear hl31
        obtain ⟨y33, us33, rfl, hl33⟩ := len_cons hl32
        clear hl32
        obtain ⟨y34, us34, rfl, hl34⟩ := len_cons hl33
        clear hl33
        obtain ⟨y35, us35, rfl, hl35⟩ := len_cons hl34
        clear hl34
        obtain ⟨y36, us36, rfl, hl36⟩ := len_cons hl35
        clear hl35
        obtain ⟨y37, us37, rfl, hl37⟩ := len_cons hl36
        clear hl36
        obtain ⟨y38, us38, rfl, hl38⟩ := len_cons hl37
        clear hl37
        obtain ⟨y39, us39, rfl, hl39⟩ := len_cons hl38
        clear hl38
        obtain ⟨y40, us40, rfl, hl40⟩ := len_cons hl39
        clear hl39
        obtain ⟨y41, us41, rfl, hl41⟩ := len_cons hl40
        clear hl40
        obtain ⟨y42, us42, rfl, hl42⟩ := len_cons hl41
        clear hl41
        obtain ⟨y43, us43, rfl, hl43⟩ := len_cons hl42
        clear hl42
        obtain ⟨y44, us44, rfl, hl44⟩ := len_cons hl43
        clear hl43
        obtain ⟨y45, us45, rfl, hl45⟩ := len_cons hl44
        clear hl44
        obtain ⟨y46, us46, rfl, hl46⟩ := len_cons hl45
        clear hl45
        obtain ⟨y47, us47, rfl, hl47⟩ := len_cons hl46
        clear hl46
        obtain ⟨y48, us48, rfl, hl48⟩ := len_cons hl47
        clear hl47
        obtain ⟨y49, us49, rfl, hl49⟩ := len_cons hl48
        clear hl48
        obtain ⟨y50, us50, rfl, hl50⟩ := len_cons hl49
        clear hl49
        obtain ⟨y51, us51, rfl, hl51⟩ := len_cons hl50
        clear hl50
        obtain ⟨y52, us52, rfl, hl52⟩ := len_cons hl51
        clear hl51
        obtain ⟨y53, us53, rfl, hl53⟩ := len_cons hl52
        clear hl52
        obtain rfl := len_nil hl53
        clear hl53
        have f53 : y53 = .bool true := hF 53 (by decide)
        clear hF
        subst f53
        simp only [updO, List.zip_cons_cons, List.zip_nil_right, List.setIfInBounds_toArray, List.set_cons_succ, List.set_cons_zero]
        have HBZ := Lib.hid (below_then HBW8.out hb hs8)
        clear hb
        go_wp2
        go_ret
        exact ⟨rfl, HBZ.out⟩
    ·
      simp only [if_true] at HP1 HQ1 HP2 HQ2
      refine (HP1.out _ HE4.out).mono ?_
      rintro e w5 ⟨rfl, hb5⟩
      obtain ⟨W5, hW5, hbW5, hg5, _⟩ := blk1 w5 23 #[.int .i64 k1.t, .int .i64 k1.n, .string k1.s]
      have hbn := below_then hb5 hbW5 hb5.size
      have HA5 := Lib.hid ((HA4.out.below hbn).more hbn.size)
      have HV5 := Lib.hid (HV4.out.below hbn HV4.out.lt)
      have HBW5 := Lib.hid (below_then HBW4.out hbn hs4)
      have HK15 := Lib.hid hg5
      have HW5 := Lib.hid hW5
      clear hb5 hbW5 hbn hg5 hW5
      go_wp2_with fail
      rw [HW5.out]
      refine (HQ1.out _).mono ?_
      rintro e w6 ⟨rfl, hb6⟩
      obtain ⟨W6, hW6, hbW6, hg6, _⟩ := blk1 w6 23 #[.int .i64 k1.t, .int .i64 k1.n, .string k1.s]
      have hbn := below_then hb6 hbW6 hb6.size
      have HA6 := Lib.hid ((HA5.out.below hbn).more hbn.size)
      have HV6 := Lib.hid (HV5.out.below hbn HV5.out.lt)
      have HBW6 := Lib.hid (below_then HBW5.out hbn HBW5.out.size)
      have HK16 := Lib.hid (HK15.out.below hbn HK15.out.lt)
      have HK26 := Lib.hid hg6
      have hcv6 := conv_at cx HA6.out
      rw [HLEN.out, ← hW6] at hcv6
      have HW6 := Lib.hid hW6
      clear hb6 hbW6 hbn hg6 hW6
      go_wp2_with fail
      clear hcv6
      rw [HW6.out]
      refine (HP2.out _ (HE.out.below HBW6.out (Nat.le_refl _))).mono ?_
      rintro e w7 ⟨rfl, hb7⟩
      obtain ⟨W7, hW7, hbW7, hg7, _⟩ := blk1 w7 23 #[.int .i64 k2.t, .int .i64 k2.n, .string k2.s]
      have hbn := below_then hb7 hbW7 hb7.size
      have HA7 := Lib.hid ((HA6.out.below hbn).more hbn.size)
      have HV7 := Lib.hid (HV6.out.below hbn HV6.out.lt)
      have HBW7 := Lib.hid (below_then HBW6.out hbn HBW6.out.size)
      have HK17 := Lib.hid (HK16.out.below hbn HK16.out.lt)
      have HK27 := Lib.hid (HK26.out.below hbn HK26.out.lt)
      have HK37 := Lib.hid hg7
      have hcv7 := conv_at cx HA7.out
      rw [HLEN.out, ← hW7] at hcv7
      have HW7 := Lib.hid hW7
      clear hb7 hbW7 hbn hg7 hW7
      go_wp2_with fail
      clear hcv7
      rw [HW7.out]
      refine (HQ2.out _).mono ?_
      rintro e w8 ⟨rfl, hb8⟩
      obtain ⟨W8, hW8, hbW8, hg8, _⟩ := blk1 w8 23 #[.int .i64 k2.t, .int .i64 k2.n, .string k2.s]
      have hbn := below_then hb8 hbW8 hb8.size
      have HV8 := Lib.hid (HV7.out.below hbn HV7.out.lt)
      have HBW8 := Lib.hid (below_then HBW7.out hbn HBW7.out.size)
      have HK1 := Lib.hid (HK17.out.below hbn HK17.out.lt)
      have HK2 := Lib.hid (HK27.out.below hbn HK27.out.lt)
      have HK3 := Lib.hid (HK37.out.below hbn HK37.out.lt)
      have HK4 := Lib.hid hg8
      have HE8 := Lib.hid (HE.out.below HBW8.out (Nat.le_refl _))
      have hs8 := HBW8.out.size
      have HW8 := Lib.hid hW8
      clear hb8 hbW8 hbn hg8 hW8
      go_wp2
      rw [HW8.out]
      refine wp_region_skips [some 69, some 70, some 71, some 72, some 73, some 74, some 75, some 76, some 77, some 78, some 79, some 80, some 81, some 82, some 83, some 84, some 85, some 86, some 87, some 88, some 89, some 90, some 91, some 92, some 93, some 94, some 95, some 96, some 97, some 98, some 99, some 100, some 101, some 102, some 103, some 104, some 105, some 106, some 107, some 108, some 109, some 110, some 111, some 112, some 113, some 114, some 115, some 116, some 117, some 118, some 119, some 120, some 121, some 8] (TXtt v u k1 k2) (by kernel_rfl) (by kernel_rfl) (by rfl) (by rfl) (TXtt_stab v u k1 k2 _) ?_ ?_
      ·
        refine StepsS.cons trivial (fun T W hg => ?_) ?_
        · have e4 : T 4 = .pointer (some ⟨w.heap.size, 0, none⟩) := hg.keep 4 (by rfl)
          have hwi := hg.wi
          clear hg
          refine OpRuns.of_ok (v := .agg #[.int .i64 v.t, .int .i64 v.n, .string v.s]) (W' := W) ?_ ⟨rfl, Below.refl _ _⟩
          obtain ⟨c0, c1, c2, _, _, _⟩ := (HV8.out.below hwi HV8.out.lt).three
          simp only [execOp, evT, e4]
          go_simp
        refine StepsS.cons trivial (fun T W hg => ?_) ?_
        · have e69 : T 69 = .agg #[.int .i64 v.t, .int .i64 v.n, .string v.s] := hg.fact 1 0 69 (by kernel_rfl)
          have hwi := hg.wi
          clear hg
          refine OpRuns.of_call ?_ ((format_any v.t v.n v.s _ HRV.out.1 HRV.out.2 (HE8.out.below hwi (Nat.le_refl _))).mono fun e W' ⟨he, hb⟩ => ⟨_, he, rfl, hb⟩)
          simp only [execOp, resolve, invoke, List.map_toArray, List.map_cons, List.map_nil, evT, e69]
          go_simp
        refine StepsS.cons trivial (fun T W hg => ?_) ?_
        · have e4 : T 4 = .pointer (some ⟨w.heap.size, 0, none⟩) := hg.keep 4 (by rfl)
          have hwi := hg.wi
          clear hg
          refine OpRuns.of_ok (v := .agg #[.int .i64 v.t, .int .i64 v.n, .string v.s]) (W' := W) ?_ ⟨rfl, Below.refl _ _⟩
          obtain ⟨c0, c1, c2, _, _, _⟩ := (HV8.out.below hwi HV8.out.lt).three
          simp only [execOp, evT, e4]
          go_simp
        refine StepsS.cons trivial (fun T W hg => ?_) ?_
        · have e71 : T 71 = .agg #[.int .i64 v.t, .int .i64 v.n, .string v.s] := hg.fact 1 2 71 (by kernel_rfl)
          have hwi := hg.wi
          clear hg
          refine OpRuns.of_call ?_ ((refFmt_any v.t v.n v.s _ HRV.out.1 HRV.out.2 (by omega)).mono fun e W' ⟨he, hb⟩ => ⟨_, he, rfl, hb⟩)
          simp only [execOp, resolve, invoke, List.map_toArray, List.map_cons, List.map_nil, evT, e71]
          go_simp
        refine StepsS.cons trivial (fun T W hg => ?_) ?_
        · have e70 : T 70 = .string ⟨(fmtL v.t v.n v.s).toArray⟩ := hg.fact 1 1 70 (by kernel_rfl)
          have e72 : T 72 = .string ⟨(fmtL v.t v.n v.s).toArray⟩ := hg.fact 1 3 72 (by kernel_rfl)
          have hwi := hg.wi
          clear hg
          refine OpRuns.of_ok (v := .bool true) (W' := W) ?_ ⟨rfl, Below.refl _ _⟩
          simp only [execOp, evT, e70, e72]
          go_simp
        refine StepsS.cons trivial (fun T W hg => ?_) ?_
        · have e73 : T 73 = .bool true := hg.fact 1 4 73 (by kernel_rfl)
          have hwi := hg.wi
          clear hg
          refine OpRuns.of_ok (v := .bool true) (W' := W) ?_ ⟨rfl, Below.refl _ _⟩
          simp only [execOp, evT, e73]
          go_simp
        refine StepsS.cons ⟨1, 74, by kernel_rfl, fun _ _ h => h⟩ (fun T W hg => ?_) ?_
        · have e4 : T 4 = .pointer (some ⟨w.heap.size, 0, none⟩) := hg.keep 4 (by rfl)
          have hwi := hg.wi
          clear hg
          refine OpRuns.of_ok (v := .agg #[.int .i64 v.t, .int .i64 v.n, .string v.s]) (W' := W) ?_ ⟨rfl, Below.refl _ _⟩
          obtain ⟨c0, c1, c2, _, _, _⟩ := (HV8.out.below hwi HV8.out.lt).three
          simp only [execOp, evT, e4]
          go_simp
        refine StepsS.cons ⟨1, 74, by kernel_rfl, fun _ _ h => h⟩ (fun T W hg => ?_) ?_
        · have e75 : T 75 = .agg #[.int .i64 v.t, .int .i64 v.n, .string v.s] := hg.fact 1 6 75 (by kernel_rfl)
          have hwi := hg.wi
          clear hg
          refine OpRuns.of_call ?_ ((HMK.out _).mono fun e W' ⟨he, hb⟩ => ⟨_, he, rfl, hb⟩)
          simp only [execOp, resolve, invoke, List.map_toArray, List.map_cons, List.map_nil, evT, e75]
          go_simp
        refine StepsS.cons ⟨1, 74, by kernel_rfl, fun _ _ h => h⟩ (fun T W hg => ?_) ?_
        · have e76 : T 76 = .agg #[.int .i64 u.t, .int .i64 u.n, .string u.s] := hg.fact 1 7 76 (by kernel_rfl)
          have hwi := hg.wi
          clear hg
          refine OpRuns.of_call ?_ ((format_any u.t u.n u.s _ HRU.out.1 HRU.out.2 (HE8.out.below hwi (Nat.le_refl _))).mono fun e W' ⟨he, hb⟩ => ⟨_, he, rfl, hb⟩)
          simp only [execOp, resolve, invoke, List.map_toArray, List.map_cons, List.map_nil, evT, e76]
          go_simp
        refine StepsS.cons ⟨1, 74, by kernel_rfl, fun _ _ h => h⟩ (fun T W hg => ?_) ?_
        · have e4 : T 4 = .pointer (some ⟨w.heap.size, 0, none⟩) := hg.keep 4 (by rfl)
          have hwi := hg.wi
          clear hg
          refine OpRuns.of_ok (v := .agg #[.int .i64 v.t, .int .i64 v.n, .string v.s]) (W' := W) ?_ ⟨rfl, Below.refl _ _⟩
          obtain ⟨c0, c1, c2, _, _, _⟩ := (HV8.out.below hwi HV8.out.lt).three
          simp only [execOp, evT, e4]
          go_simp
        refine StepsS.cons ⟨1, 74, by kernel_rfl, fun _ _ h => h⟩ (fun T W hg => ?_) ?_
        · have e78 : T 78 = .agg #[.int .i64 v.t, .int .i64 v.n, .string v.s] := hg.fact 1 9 78 (by kernel_rfl)
          have hwi := hg.wi
          clear hg
          refine OpRuns.of_call ?_ ((HMK.out _).mono fun e W' ⟨he, hb⟩ => ⟨_, he, rfl, hb⟩)
          simp only [execOp, resolve, invoke, List.map_toArray, List.map_cons, List.map_nil, evT, e78]
          go_simp
        refine StepsS.cons ⟨1, 74, by kernel_rfl, fun _ _ h => h⟩ (fun T W hg => ?_) ?_
        · have e79 : T 79 = .agg #[.int .i64 u.t, .int .i64 u.n, .string u.s] := hg.fact 1 10 79 (by kernel_rfl)
          have hwi := hg.wi
          clear hg
          refine OpRuns.of_call ?_ ((refFmt_any u.t u.n u.s _ HRU.out.1 HRU.out.2 HSU.out).mono fun e W' ⟨he, hb⟩ => ⟨_, he, rfl, hb⟩)
          simp only [execOp, resolve, invoke, List.map_toArray, List.map_cons, List.map_nil, evT, e79]
          go_simp
        refine StepsS.cons ⟨1, 74, by kernel_rfl, fun _ _ h => h⟩ (fun T W hg => ?_) ?_
        · have e77 : T 77 = .string ⟨(fmtL u.t u.n u.s).toArray⟩ := hg.fact 1 8 77 (by kernel_rfl)
          have e80 : T 80 = .string ⟨(fmtL u.t u.n u.s).toArray⟩ := hg.fact 1 11 80 (by kernel_rfl)
          have hwi := hg.wi
          clear hg
          refine OpRuns.of_ok (v := .bool true) (W' := W) ?_ ⟨rfl, Below.refl _ _⟩
          simp only [execOp, evT, e77, e80]
          go_simp
        refine StepsS.cons trivial (fun T W hg => ?_) ?_
        · have e74 : T 74 = .bool true := hg.fact 1 5 74 (by kernel_rfl)
          have e81 : T 81 = .bool true := hg.fact 1 12 81 (by kernel_rfl)
          have hwi := hg.wi
          clear hg
          refine OpRuns.of_ok (v := .bool true) (W' := W) ?_ ⟨rfl, Below.refl _ _⟩
          simp only [execOp, evT, e74, e81]
          go_simp
        refine StepsS.cons trivial (fun T W hg => ?_) ?_
        · have e82 : T 82 = .bool true := hg.fact 1 13 82 (by kernel_rfl)
          have hwi := hg.wi
          clear hg
          refine OpRuns.of_ok (v := .bool true) (W' := W) ?_ ⟨rfl, Below.refl _ _⟩
          simp only [execOp, evT, e82]
          go_simp
        refine StepsS.cons ⟨1, 83, by kernel_rfl, fun _ _ h => h⟩ (fun T W hg => ?_) ?_
        · have e10 : T 10 = .pointer (some ⟨w5.heap.size, 0, none⟩) := hg.keep 10 (by rfl)
          have hwi := hg.wi
          clear hg
          refine OpRuns.of_ok (v := .agg #[.int .i64 k1.t, .int .i64 k1.n, .string k1.s]) (W' := W) ?_ ⟨rfl, Below.refl _ _⟩
          obtain ⟨c0, c1, c2, _, _, _⟩ := (HK1.out.below hwi HK1.out.lt).three
          simp only [execOp, evT, e10]
          go_simp
        refine StepsS.cons ⟨1, 83, by kernel_rfl, fun _ _ h => h⟩ (fun T W hg => ?_) ?_
        · have e12 : T 12 = .pointer (some ⟨w6.heap.size, 0, none⟩) := hg.keep 12 (by rfl)
          have hwi := hg.wi
          clear hg
          refine OpRuns.of_ok (v := .agg #[.int .i64 k1.t, .int .i64 k1.n, .string k1.s]) (W' := W) ?_ ⟨rfl, Below.refl _ _⟩
          obtain ⟨c0, c1, c2, _, _, _⟩ := (HK2.out.below hwi HK2.out.lt).three
          simp only [execOp, evT, e12]
          go_simp
        refine StepsS.cons ⟨1, 83, by kernel_rfl, fun _ _ h => h⟩ (fun T W hg => ?_) ?_
        · have e84 : T 84 = .agg #[.int .i64 k1.t, .int .i64 k1.n, .string k1.s] := hg.fact 1 15 84 (by kernel_rfl)
          have e85 : T 85 = .agg #[.int .i64 k1.t, .int .i64 k1.n, .string k1.s] := hg.fact 1 16 85 (by kernel_rfl)
          have hwi := hg.wi
          clear hg
          refine OpRuns.of_ok (v := .bool true) (W' := W) ?_ ⟨rfl, Below.refl _ _⟩
          simp only [execOp, evT, e84, e85]
          go_simp
        refine StepsS.cons trivial (fun T W hg => ?_) ?_
        · have e83 : T 83 = .bool true := hg.fact 1 14 83 (by kernel_rfl)
          have e86 : T 86 = .bool true := hg.fact 1 17 86 (by kernel_rfl)
          have hwi := hg.wi
          clear hg
          refine OpRuns.of_ok (v := .bool true) (W' := W) ?_ ⟨rfl, Below.refl _ _⟩
          simp only [execOp, evT, e83, e86]
          go_simp
        refine StepsS.cons trivial (fun T W hg => ?_) ?_
        · have e87 : T 87 = .bool true := hg.fact 1 18 87 (by kernel_rfl)
          have hwi := hg.wi
          clear hg
          refine OpRuns.of_ok (v := .bool true) (W' := W) ?_ ⟨rfl, Below.refl _ _⟩
          simp only [execOp, evT, e87]
          go_simp
        refine StepsS.cons ⟨1, 88, by kernel_rfl, fun _ _ h => h⟩ (fun T W hg => ?_) ?_
        · have e11 : T 11 = .int .i64 0 := hg.keep 11 (by rfl)
          have hwi := hg.wi
          clear hg
          refine OpRuns.of_ok (v := .int .i64 0) (W' := W) ?_ ⟨rfl, Below.refl _ _⟩
          simp only [execOp, evT, e11]
          go_simp
        refine StepsS.cons ⟨1, 88, by kernel_rfl, fun _ _ h => h⟩ (fun T W hg => ?_) ?_
        · have e89 : T 89 = .int .i64 0 := hg.fact 1 20 89 (by kernel_rfl)
          have hwi := hg.wi
          clear hg
          refine OpRuns.of_ok (v := .bool true) (W' := W) ?_ ⟨rfl, Below.refl _ _⟩
          simp only [execOp, evT, e89]
          go_simp
        refine StepsS.cons ⟨1, 88, by kernel_rfl, fun _ _ h => h⟩ (fun T W hg => ?_) ?_
        · have e13 : T 13 = .bool true := hg.keep 13 (by rfl)
          have hwi := hg.wi
          clear hg
          refine OpRuns.of_ok (v := .bool true) (W' := W) ?_ ⟨rfl, Below.refl _ _⟩
          simp only [execOp, evT, e13]
          go_simp
        refine StepsS.cons ⟨1, 88, by kernel_rfl, fun _ _ h => h⟩ (fun T W hg => ?_) ?_
        · have e90 : T 90 = .bool true := hg.fact 1 21 90 (by kernel_rfl)
          have e91 : T 91 = .bool true := hg.fact 1 22 91 (by kernel_rfl)
          have hwi := hg.wi
          clear hg
          refine OpRuns.of_ok (v := .bool true) (W' := W) ?_ ⟨rfl, Below.refl _ _⟩
          simp only [execOp, evT, e90, e91]
          go_simp
        refine StepsS.cons trivial (fun T W hg => ?_) ?_
        · have e88 : T 88 = .bool true := hg.fact 1 19 88 (by kernel_rfl)
          have e92 : T 92 = .bool true := hg.fact 1 23 92 (by kernel_rfl)
          have hwi := hg.wi
          clear hg
          refine OpRuns.of_ok (v := .bool true) (W' := W) ?_ ⟨rfl, Below.refl _ _⟩
          simp only [execOp, evT, e88, e92]
          go_simp
        refine StepsS.cons trivial (fun T W hg => ?_) ?_
        · have e93 : T 93 = .bool true := hg.fact 1 24 93 (by kernel_rfl)
          have hwi := hg.wi
          clear hg
          refine OpRuns.of_ok (v := .bool true) (W' := W) ?_ ⟨rfl, Below.refl _ _⟩
          simp only [execOp, evT, e93]
          go_simp
        refine StepsS.cons ⟨1, 94, by kernel_rfl, fun _ _ h => h⟩ (fun T W hg => ?_) ?_
        · have e13 : T 13 = .bool true := hg.keep 13 (by rfl)
          have hwi := hg.wi
          clear hg
          refine OpRuns.of_ok (v := .bool true) (W' := W) ?_ ⟨rfl, Below.refl _ _⟩
          simp only [execOp, evT, e13]
          go_simp
        refine StepsS.cons ⟨1, 94, by kernel_rfl, fun _ _ h => h⟩ (fun T W hg => ?_) ?_
        · have e95 : T 95 = .bool true := hg.fact 1 26 95 (by kernel_rfl)
          have hwi := hg.wi
          clear hg
          refine OpRuns.of_ok (v := .bool true) (W' := W) ?_ ⟨rfl, Below.refl _ _⟩
          simp only [execOp, evT, e95]
          go_simp
        refine StepsS.skip (j := 27) (b := false) 1 96 rfl (by kernel_rfl) (fun _ _ h => h) (fun _ _ => trivial) ?_
        refine StepsS.skip (j := 27) (b := false) 1 96 rfl (by kernel_rfl) (fun _ _ h => h) (fun _ _ => trivial) ?_
        refine StepsS.cons ⟨1, 94, by kernel_rfl, fun _ _ h => h⟩ (fun T W hg => ?_) ?_
        · have e96 : T 96 = .bool true := hg.fact 1 27 96 (by kernel_rfl)
          have p98 : (fun r W => True) (T 98) W := hg.fact 1 29 98 (by kernel_rfl)
          simp only at p98
          have hwi := hg.wi
          clear hg
          refine OpRuns.of_ok (v := .bool true) (W' := W) ?_ ⟨rfl, Below.refl _ _⟩
          simp only [execOp, evT, e96]
          go_simp
        refine StepsS.cons trivial (fun T W hg => ?_) ?_
        · have e94 : T 94 = .bool true := hg.fact 1 25 94 (by kernel_rfl)
          have e99 : T 99 = .bool true := hg.fact 1 30 99 (by kernel_rfl)
          have hwi := hg.wi
          clear hg
          refine OpRuns.of_ok (v := .bool true) (W' := W) ?_ ⟨rfl, Below.refl _ _⟩
          simp only [execOp, evT, e94, e99]
          go_simp
        refine StepsS.cons trivial (fun T W hg => ?_) ?_
        · have e100 : T 100 = .bool true := hg.fact 1 31 100 (by kernel_rfl)
          have hwi := hg.wi
          clear hg
          refine OpRuns.of_ok (v := .bool true) (W' := W) ?_ ⟨rfl, Below.refl _ _⟩
          simp only [execOp, evT, e100]
          go_simp
        refine StepsS.cons ⟨1, 101, by kernel_rfl, fun _ _ h => h⟩ (fun T W hg => ?_) ?_
        · have e14 : T 14 = .pointer (some ⟨w7.heap.size, 0, none⟩) := hg.keep 14 (by rfl)
          have hwi := hg.wi
          clear hg
          refine OpRuns.of_ok (v := .agg #[.int .i64 k2.t, .int .i64 k2.n, .string k2.s]) (W' := W) ?_ ⟨rfl, Below.refl _ _⟩
          obtain ⟨c0, c1, c2, _, _, _⟩ := (HK3.out.below hwi HK3.out.lt).three
          simp only [execOp, evT, e14]
          go_simp
        refine StepsS.cons ⟨1, 101, by kernel_rfl, fun _ _ h => h⟩ (fun T W hg => ?_) ?_
        · have e16 : T 16 = .pointer (some ⟨w8.heap.size, 0, none⟩) := hg.keep 16 (by rfl)
          have hwi := hg.wi
          clear hg
          refine OpRuns.of_ok (v := .agg #[.int .i64 k2.t, .int .i64 k2.n, .string k2.s]) (W' := W) ?_ ⟨rfl, Below.refl _ _⟩
          obtain ⟨c0, c1, c2, _, _, _⟩ := (HK4.out.below hwi HK4.out.lt).three
          simp only [execOp, evT, e16]
          go_simp
        refine StepsS.cons ⟨1, 101, by kernel_rfl, fun _ _ h => h⟩ (fun T W hg => ?_) ?_
        · have e102 : T 102 = .agg #[.int .i64 k2.t, .int .i64 k2.n, .string k2.s] := hg.fact 1 33 102 (by kernel_rfl)
          have e103 : T 103 = .agg #[.int .i64 k2.t, .int .i64 k2.n, .string k2.s] := hg.fact 1 34 103 (by kernel_rfl)
          have hwi := hg.wi
          clear hg
          refine OpRuns.of_ok (v := .bool true) (W' := W) ?_ ⟨rfl, Below.refl _ _⟩
          simp only [execOp, evT, e102, e103]
          go_simp
        refine StepsS.cons trivial (fun T W hg => ?_) ?_
        · have e101 : T 101 = .bool true := hg.fact 1 32 101 (by kernel_rfl)
          have e104 : T 104 = .bool true := hg.fact 1 35 104 (by kernel_rfl)
          have hwi := hg.wi
          clear hg
          refine OpRuns.of_ok (v := .bool true) (W' := W) ?_ ⟨rfl, Below.refl _ _⟩
          simp only [execOp, evT, e101, e104]
          go_simp
        refine StepsS.cons trivial (fun T W hg => ?_) ?_
        · have e105 : T 105 = .bool true := hg.fact 1 36 105 (by kernel_rfl)
          have hwi := hg.wi
          clear hg
          refine OpRuns.of_ok (v := .bool true) (W' := W) ?_ ⟨rfl, Below.refl _ _⟩
          simp only [execOp, evT, e105]
          go_simp
        refine StepsS.cons ⟨1, 106, by kernel_rfl, fun _ _ h => h⟩ (fun T W hg => ?_) ?_
        · have e15 : T 15 = .int .i64 0 := hg.keep 15 (by rfl)
          have hwi := hg.wi
          clear hg
          refine OpRuns.of_ok (v := .int .i64 0) (W' := W) ?_ ⟨rfl, Below.refl _ _⟩
          simp only [execOp, evT, e15]
          go_simp
        refine StepsS.cons ⟨1, 106, by kernel_rfl, fun _ _ h => h⟩ (fun T W hg => ?_) ?_
        · have e107 : T 107 = .int .i64 0 := hg.fact 1 38 107 (by kernel_rfl)
          have hwi := hg.wi
          clear hg
          refine OpRuns.of_ok (v := .bool true) (W' := W) ?_ ⟨rfl, Below.refl _ _⟩
          simp only [execOp, evT, e107]
          go_simp
        refine StepsS.cons ⟨1, 106, by kernel_rfl, fun _ _ h => h⟩ (fun T W hg => ?_) ?_
        · have e17 : T 17 = .bool true := hg.keep 17 (by rfl)
          have hwi := hg.wi
          clear hg
          refine OpRuns.of_ok (v := .bool true) (W' := W) ?_ ⟨rfl, Below.refl _ _⟩
          simp only [execOp, evT, e17]
          go_simp
        refine StepsS.cons ⟨1, 106, by kernel_rfl, fun _ _ h => h⟩ (fun T W hg => ?_) ?_
        · have e108 : T 108 = .bool true := hg.fact 1 39 108 (by kernel_rfl)
          have e109 : T 109 = .bool true := hg.fact 1 40 109 (by kernel_rfl)
          have hwi := hg.wi
          clear hg
          refine OpRuns.of_ok (v := .bool true) (W' := W) ?_ ⟨rfl, Below.refl _ _⟩
          simp only [execOp, evT, e108, e109]
          go_simp
        refine StepsS.cons trivial (fun T W hg => ?_) ?_
        · have e106 : T 106 = .bool true := hg.fact 1 37 106 (by kernel_rfl)
          have e110 : T 110 = .bool true := hg.fact 1 41 110 (by kernel_rfl)
          have hwi := hg.wi
          clear hg
          refine OpRuns.of_ok (v := .bool true) (W' := W) ?_ ⟨rfl, Below.refl _ _⟩
          simp only [execOp, evT, e106, e110]
          go_simp
        refine StepsS.cons trivial (fun T W hg => ?_) ?_
        · have e111 : T 111 = .bool true := hg.fact 1 42 111 (by kernel_rfl)
          have hwi := hg.wi
          clear hg
          refine OpRuns.of_ok (v := .bool true) (W' := W) ?_ ⟨rfl, Below.refl _ _⟩
          simp only [execOp, evT, e111]
          go_simp
        refine StepsS.cons ⟨1, 112, by kernel_rfl, fun _ _ h => h⟩ (fun T W hg => ?_) ?_
        · have e17 : T 17 = .bool true := hg.keep 17 (by rfl)
          have hwi := hg.wi
          clear hg
          refine OpRuns.of_ok (v := .bool true) (W' := W) ?_ ⟨rfl, Below.refl _ _⟩
          simp only [execOp, evT, e17]
          go_simp
        refine StepsS.cons ⟨1, 112, by kernel_rfl, fun _ _ h => h⟩ (fun T W hg => ?_) ?_
        · have e113 : T 113 = .bool true := hg.fact 1 44 113 (by kernel_rfl)
          have hwi := hg.wi
          clear hg
          refine OpRuns.of_ok (v := .bool true) (W' := W) ?_ ⟨rfl, Below.refl _ _⟩
          simp only [execOp, evT, e113]
          go_simp
        refine StepsS.skip (j := 45) (b := false) 1 114 rfl (by kernel_rfl) (fun _ _ h => h) (fun _ _ => trivial) ?_
        refine StepsS.skip (j := 45) (b := false) 1 114 rfl (by kernel_rfl) (fun _ _ h => h) (fun _ _ => trivial) ?_
        refine StepsS.cons ⟨1, 112, by kernel_rfl, fun _ _ h => h⟩ (fun T W hg => ?_) ?_
        · have e114 : T 114 = .bool true := hg.fact 1 45 114 (by kernel_rfl)
          have p116 : (fun r W => True) (T 116) W := hg.fact 1 47 116 (by kernel_rfl)
          simp only at p116
          have hwi := hg.wi
          clear hg
          refine OpRuns.of_ok (v := .bool true) (W' := W) ?_ ⟨rfl, Below.refl _ _⟩
          simp only [execOp, evT, e114]
          go_simp
        refine StepsS.cons trivial (fun T W hg => ?_) ?_
        · have e112 : T 112 = .bool true := hg.fact 1 43 112 (by kernel_rfl)
          have e117 : T 117 = .bool true := hg.fact 1 48 117 (by kernel_rfl)
          have hwi := hg.wi
          clear hg
          refine OpRuns.of_ok (v := .bool true) (W' := W) ?_ ⟨rfl, Below.refl _ _⟩
          simp only [execOp, evT, e112, e117]
          go_simp
        refine StepsS.cons trivial (fun T W hg => ?_) ?_
        · have e118 : T 118 = .bool true := hg.fact 1 49 118 (by kernel_rfl)
          have hwi := hg.wi
          clear hg
          refine OpRuns.of_ok (v := .bool true) (W' := W) ?_ ⟨rfl, Below.refl _ _⟩
          simp only [execOp, evT, e118]
          go_simp
        refine StepsS.cons ⟨1, 119, by kernel_rfl, fun _ _ h => h⟩ (fun T W hg => ?_) ?_
        · have hwi := hg.wi
          clear hg
          refine OpRuns.of_call ?_ ((known_any _ (HE8.out.below hwi (Nat.le_refl _))).mono fun e W' ⟨he, hb⟩ => ⟨_, he, rfl, hb⟩)
          simp only [execOp, resolve, invoke, List.map_toArray, List.map_nil, evT]
          go_simp
        refine StepsS.cons trivial (fun T W hg => ?_) ?_
        · have e119 : T 119 = .bool true := hg.fact 1 50 119 (by kernel_rfl)
          have e120 : T 120 = .bool true := hg.fact 1 51 120 (by kernel_rfl)
          have hwi := hg.wi
          clear hg
          refine OpRuns.of_ok (v := .bool true) (W' := W) ?_ ⟨rfl, Below.refl _ _⟩
          simp only [execOp, evT, e119, e120]
          go_simp
        refine StepsS.cons trivial (fun T W hg => ?_) ?_
        · have e121 : T 121 = .bool true := hg.fact 1 52 121 (by kernel_rfl)
          have hwi := hg.wi
          clear hg
          refine OpRuns.of_ok (v := .bool true) (W' := W) ?_ ⟨rfl, Below.refl _ _⟩
          simp only [execOp, evT, e121]
          go_simp
        exact StepsS.nil
      · intro us W1 hlen hF hb
        obtain ⟨y0, us0, rfl, hl0⟩ := len_cons hlen
        clear hlen
        obtain ⟨y1, us1, rfl, hl1⟩ := len_cons hl0
        clear hl0
        obtain ⟨y2, us2, rfl, hl2⟩ := len_cons hl1
        clear hl1
        obtain ⟨y3, us3, rfl, hl3⟩ := len_cons hl2
        clear hl2
        obtain ⟨y4, us4, rfl, hl4⟩ := len_cons hl3
        clear hl3
        obtain ⟨y5, us5, rfl, hl5⟩ := len_cons hl4
        clear hl4
        obtain ⟨y6, us6, rfl, hl6⟩ := len_cons hl5
        clear hl5
        obtain ⟨y7, us7, rfl, hl7⟩ := len_cons hl6
        clear hl6
        obtain ⟨y8, us8, rfl, hl8⟩ := len_cons hl7
        clear hl7
        obtain ⟨y9, us9, rfl, hl9⟩ := len_cons hl8
        clear hl8
        obtain ⟨y10, us10, rfl, hl10⟩ := len_cons hl9
        clear hl9
        obtain ⟨y11, us11, rfl, hl11⟩ := len_cons hl10
        clear hl10
        obtain ⟨y12, us12, rfl, hl12⟩ := len_cons hl11
        clear hl11
        obtain ⟨y13, us13, rfl, hl13⟩ := len_cons hl12
        clear hl12
        obtain ⟨y14, us14, rfl, hl14⟩ := len_cons hl13
        clear hl13
        obtain ⟨y15, us15, rfl, hl15⟩ := len_cons hl14
        clear hl14
        obtain ⟨y16, us16, rfl, hl16⟩ := len_cons hl15
        clear hl15
        obtain ⟨y17, us17, rfl, hl17⟩ := len_cons hl16
        clear hl16
        obtain ⟨y18, us18, rfl, hl18⟩ := len_cons hl17
        clear hl17
        obtain ⟨y19, us19, rfl, hl19⟩ := len_cons hl18
        clear hl18
        obtain ⟨y20, us20, rfl, hl20⟩ := len_cons hl19
        clear hl19
        obtain ⟨y21, us21, rfl, hl21⟩ := len_cons hl20
        clear hl20
        obtain ⟨y22, us22, rfl, hl22⟩ := len_cons hl21
        clear hl21
        obtain ⟨y23, us23, rfl, hl23⟩ := len_cons hl22
        clear hl22
        obtain ⟨y24, us24, rfl, hl24⟩ := len_cons hl23
        clear hl23
        obtain ⟨y25, us25, rfl, hl25⟩ := len_cons hl24
        clear hl24
        obtain ⟨y26, us26, rfl, hl26⟩ := len_cons hl25
        clear hl25
        obtain ⟨y27, us27, rfl, hl27⟩ := len_cons hl26
        clear hl26
        obtain ⟨y28, us28, rfl, hl28⟩ := len_cons hl27
        clear hl27
        obtain ⟨y29, us29, rfl, hl29⟩ := len_cons hl28
        clear hl28
        obtain ⟨y30, us30, rfl, hl30⟩ := len_cons hl29
        clear hl29
        obtain ⟨y31, us31, rfl, hl31⟩ := len_cons hl30
        clear hl30
        obtain ⟨y32, us32, rfl, hl32⟩ := len_cons hl31
        clear hl31
        obtain ⟨y33, us33, rfl, hl33⟩ := len_cons hl32
        clear hl32
        obtain ⟨y34, us34, rfl, hl34⟩ := len_cons hl33
        clear hl33
        obtain ⟨y35, us35, rfl, hl35⟩ := len_cons hl34
        clear hl34
        obtain ⟨y36, us36, rfl, hl36⟩ := len_cons hl35
        clear hl35
        obtain ⟨y37, us37, rfl, hl37⟩ := len_cons hl36
        clear hl36
        obtain ⟨y38, us38, rfl, hl38⟩ := len_cons hl37
        clear hl37
        obtain ⟨y39, us39, rfl, hl39⟩ := len_cons hl38
        clear hl38
        obtain ⟨y40, us40, rfl, hl40⟩ := len_cons hl39
        clear hl39
        obtain ⟨y41, us41, rfl, hl41⟩ := len_cons hl40
        clear hl40
        obtain ⟨y42, us42, rfl, hl42⟩ := len_cons hl41
        clear hl41
        obtain ⟨y43, us43, rfl, hl43⟩ := len_cons hl42
        clear hl42
        obtain ⟨y44, us44, rfl, hl44⟩ := len_cons hl43
        clear hl43
        obtain ⟨y45, us45, rfl, hl45⟩ := len_cons hl44
        clear hl44
        obtain ⟨y46, us46, rfl, hl46⟩ := len_cons hl45
        clear hl45
        obtain ⟨y47, us47, rfl, hl47⟩ := len_cons hl46
        clear hl46
        obtain ⟨y48, us48, rfl, hl48⟩ := len_cons hl47
        clear hl47
        obtain ⟨y49, us49, rfl, hl49⟩ := len_cons hl48
        clear hl48
        obtain ⟨y50, us50, rfl, hl50⟩ := len_cons hl49
        clear hl49
        obtain ⟨y51, us51, rfl, hl51⟩ := len_cons hl50
        clear hl50
        obtain ⟨y52, us52, rfl, hl52⟩ := len_cons hl51
        clear hl51
        obtain ⟨y53, us53, rfl, hl53⟩ := len_cons hl52
        clear hl52
        obtain rfl := len_nil hl53
        clear hl53
        have f53 : y53 = .bool true := hF 53 (by decide)
        clear hF
        subst f53
        simp only [updO, List.zip_cons_cons, List.zip_nil_right, List.setIfInBounds_toArray, List.set_cons_succ, List.set_cons_zero]
        have HBZ := Lib.hid (below_then HBW8.out hb hs8)
        clear hb
        go_wp2
        go_ret
        exact ⟨rfl, HBZ.out⟩
set_option maxRecDepth 100000 in
set_option maxHeartbeats 1000000 in
theorem text_any (v : V) (s : ByteArray) (n x : Int) (w : World) (hE : Env w) (hr : -9223372036854775808 ≤ v.n ∧ v.n ≤ 9223372036854775807) (hvs : v.s.size ≤ 9223372036854775807) (hls : s.size ≤ 9223372036854775807) (hx0 : 0 ≤ x) (hx1 : x ≤ 255) :
    Calls Tryd.prog 3 #[.agg #[.int .i64 v.t, .int .i64 v.n, .string v.s], .string s, .int .i64 n, .int .u8 x] w (LawPost w) := by
  rcases Nat.lt_or_ge 80 v.s.size with h1 | h1
  · clear hr hE
    go_enter Tryd.func3, Tryd.ntmps3
    go_wp2
    go_ret
    exact ⟨rfl, (Below.refl _ _).alloc (Nat.le_refl _) _⟩
  · rcases Nat.lt_or_ge 100 s.size with h2 | h2
    · clear hr hE
      go_enter Tryd.func3, Tryd.ntmps3
      go_wp2
      go_ret
      exact ⟨rfl, (Below.refl _ _).alloc (Nat.le_refl _) _⟩
    · have hx : x = (((UInt8.ofNat x.toNat).toNat : Nat) : Int) := by
        have : (UInt8.ofNat x.toNat).toNat = x.toNat := by simp [UInt8.toNat_ofNat']; omega
        rw [this]; omega
      rw [hx]
      exact text_main v s n _ w hE hr h1 h2
end Go.Proofs.YtpjfkhbdhdolfaaDoor
