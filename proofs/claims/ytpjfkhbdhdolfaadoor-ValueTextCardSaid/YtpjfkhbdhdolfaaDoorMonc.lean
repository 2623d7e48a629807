/-
  The law for drawn regions, with rows: some operations append to a row that the region itself has made (they keep what lies below B, where the region began); a row's fact is used up by the operation that appends to it ('cons'). Who waits for whom is reckoned once, by bits.
-/
import Derived.Test.YtpjfkhbdhdolfaaDoorMonb
namespace Go.Proofs.YtpjfkhbdhdolfaaDoor
open Go.RowKit

def ancMask (acc : List Nat) : List Edge → Nat → Nat
  | [], m => m
  | e :: l, m => ancMask acc l (if Region.binds .any e then m ||| ((1 <<< e.on) ||| acc.getD e.on 0) else m)
def ancStep (acc : List Nat) (o : Oper) : List Nat := acc ++ [ancMask acc o.after.toList 0]
def ancs (l : List Oper) : List Nat := l.foldl ancStep []
/-- i waits for j, directly or through others. -/
def ancB (l : List Oper) (i j : Nat) : Bool := ((ancs l).getD i 0).testBit j
theorem ancMask_bit (acc : List Nat) (j : Nat) : ∀ (es : List Edge) (m : Nat), (ancMask acc es m).testBit j = true → m.testBit j = true ∨ ∃ e ∈ es, Region.binds .any e = true ∧ (e.on = j ∨ (acc.getD e.on 0).testBit j = true)
  | [], m, h => .inl h
  | e :: l, m, h => by
    rcases ancMask_bit acc j l _ h with h1 | ⟨e', he', hb, h2⟩
    · by_cases hb : Region.binds .any e = true
      · rw [if_pos hb, Nat.testBit_or, Nat.testBit_or, Bool.or_eq_true, Bool.or_eq_true] at h1
        rcases h1 with h1 | h1 | h1
        · exact .inl h1
        · refine .inr ⟨e, by simp, hb, .inl ?_⟩
          rw [Nat.one_shiftLeft, Nat.testBit_two_pow] at h1
          simpa using h1
        · exact .inr ⟨e, by simp, hb, .inr h1⟩
      · rw [if_neg hb] at h1
        exact .inl h1
    · exact .inr ⟨e', by simp [he'], hb, h2⟩
theorem ancs_snoc (l : List Oper) (o : Oper) : ancs (l ++ [o]) = ancStep (ancs l) o := by simp [ancs]
theorem snoc_ind {C : List Oper → Prop} (h0 : C []) (h1 : ∀ l o, C l → C (l ++ [o])) (l : List Oper) : C l := by
  have h : ∀ m : List Oper, C m.reverse := by
    intro m
    induction m with
    | nil => exact h0
    | cons o m ih => rw [List.reverse_cons]; exact h1 _ _ ih
  simpa using h l.reverse
theorem ancs_length (l : List Oper) : (ancs l).length = l.length := by
  refine snoc_ind (C := fun l => (ancs l).length = l.length) rfl (fun l o ih => ?_) l
  show (ancs (l ++ [o])).length = (l ++ [o]).length
  rw [ancs_snoc, ancStep]; simp [ih]
theorem ancs_spec {ops : Array Oper} {L : Array Bool} (hc : Closed ops L) : ∀ (l : List Oper), (∀ (k : Nat) (o : Oper), l[k]? = some o → ops[k]? = some o) → ∀ i j : Nat, ((ancs l).getD i 0).testBit j = true → L.getD i false = true → L.getD j false = true := by
  refine fun l => snoc_ind (C := fun l => (∀ (k : Nat) (o : Oper), l[k]? = some o → ops[k]? = some o) → ∀ i j : Nat, ((ancs l).getD i 0).testBit j = true → L.getD i false = true → L.getD j false = true) ?_ (fun l o ih => ?_) l
  · intro _ i j h; simp [ancs] at h
  · intro hl i j h hi
    have hl' : ∀ (k : Nat) (o : Oper), l[k]? = some o → ops[k]? = some o := fun k o' h' => hl k o' (by rw [List.getElem?_append_left (List.getElem?_eq_some_iff.1 h').1]; exact h')
    rw [ancs_snoc, ancStep] at h
    by_cases hlt : i < (ancs l).length
    · rw [List.getD_eq_getElem?_getD, List.getElem?_append_left hlt, ← List.getD_eq_getElem?_getD] at h
      exact ih hl' i j h hi
    · by_cases he : i = (ancs l).length
      · subst he
        rw [List.getD_eq_getElem?_getD, List.getElem?_append_right (Nat.le_refl _)] at h
        simp only [Nat.sub_self, List.getElem?_cons_zero, Option.getD_some] at h
        rw [ancs_length] at hi
        have ho : ops[l.length]? = some o := hl _ _ (by simp)
        rcases ancMask_bit _ _ _ _ h with h0 | ⟨e, hm, hb, h1⟩
        · simp at h0
        · have hon := hc l.length o ho hi e (by simpa using hm) hb
          rcases h1 with rfl | h1
          · exact hon
          · exact ih hl' e.on j h1 hon
      · rw [List.getD_eq_getElem?_getD, List.getElem?_eq_none (by simp; omega)] at h
        simp at h
theorem Closed.anc {l : List Oper} {L : Array Bool} (hc : Closed l.toArray L) {i j : Nat} (h : ancB l i j = true) (hi : L.getD i false = true) : L.getD j false = true :=
  ancs_spec hc l (fun k o h => by simpa using h) i j h hi

/-- What an operation does to the world: one that appends to a row keeps what lies below B; any other keeps all that was there. -/
def extOf (B : Nat) (W W' : World) : Bool → Prop
  | true => Below B W W' ∧ W.heap.size ≤ W'.heap.size
  | false => Below W.heap.size W W'
def aliveB (l : List Oper) (cons : List (Option Nat)) (i j : Nat) : Bool :=
  match cons.getD j none with
  | none => true
  | some c => c == i || ancB l c i
def deadB (l : List Oper) (cons : List (Option Nat)) (i j : Nat) : Bool :=
  j == i || ancB l j i ||
  match cons.getD j none with
  | none => false
  | some c => c == i || ancB l i c
/-- Facts that do not speak of the world. -/
inductive PureF : List (Value → World → Prop) → List Bool → Prop
  | nil : PureF [] []
  | eq {x : Value} {l : List (Value → World → Prop)} {p : List Bool} (h : PureF l p) : PureF ((fun v _ => v = x) :: l) (true :: p)
  | any {f : Value → World → Prop} {l : List (Value → World → Prop)} {p : List Bool} (h : PureF l p) : PureF (f :: l) (false :: p)
theorem PureF.get {l : List (Value → World → Prop)} {p : List Bool} (h : PureF l p) : ∀ j v W W', p.getD j true = true → factOf l j v W → factOf l j v W' := by
  induction h with
  | nil => intro j v W W' _ _; simp [factOf]
  | eq h ih =>
    intro j v W W' hp hf
    cases j with
    | zero => exact hf
    | succ j => exact ih j v W W' (by simpa using hp) hf
  | any h ih =>
    intro j v W W' hp hf
    cases j with
    | zero => simp at hp
    | succ j => exact ih j v W W' (by simpa using hp) hf
structure MonoC (F : List (Value → World → Prop)) (cons : List (Option Nat)) (B : Nat) (w : World) (init : List Value) (L : Array Bool) (us : List Value) (W : World) : Prop where
  len : us.length = init.length
  fact : ∀ j, L.getD j false = true → (∀ c, cons.getD j none = some c → L.getD c false = false) → factOf F j (us.getD j undef) W
  old : ∀ j, L.getD j false = false → us.getD j undef = init.getD j undef
  below : Below B w W
  size : B ≤ W.heap.size
structure GivenC (l : List Oper) (dsts : List (Option Nat)) (t : Array Value) (F : List (Value → World → Prop)) (cons : List (Option Nat)) (B : Nat) (w : World) (i : Nat) (T : Nat → Value) (W : World) : Prop where
  keep : ∀ s, dsts.contains (some s) = false → T s = t.getD s undef
  fact : ∀ j s, (j != i && ancB l i j && aliveB l cons i j && dsts[j]? == some (some s)) = true → factOf F j (T s) W
  old : ∀ j s, ((j == i || ancB l j i) && dsts[j]? == some (some s)) = true → T s = t.getD s undef
  below : Below B w W
  size : B ≤ W.heap.size
def GuardC (l : List Oper) (dsts : List (Option Nat)) (F : List (Value → World → Prop)) (cons : List (Option Nat)) (i : Nat) : Option (Nat × Bool) → Prop
  | none => True
  | some (j, b) => ∃ s, (j != i && ancB l i j && cons.getD j none == none && dsts[j]? == some (some s)) = true ∧ ∀ v W, factOf F j v W → v = .bool b
def StepC (P : Program) (l : List Oper) (dsts : List (Option Nat)) (t : Array Value) (F : List (Value → World → Prop)) (cons : List (Option Nat)) (ap : List Nat) (B : Nat) (w : World) (i : Nat) (o : Oper) : Prop :=
  GuardC l dsts F cons i o.guard ∧ ∀ (T : Nat → Value) (W : World), GivenC l dsts t F cons B w i T W → OpRuns P o T W fun v W' => factOf F i v W' ∧ extOf B W W' (ap.contains i)
inductive StepsC (P : Program) (l : List Oper) (dsts : List (Option Nat)) (t : Array Value) (F : List (Value → World → Prop)) (cons : List (Option Nat)) (ap : List Nat) (B : Nat) (w : World) : Nat → List Oper → Prop
  | nil {i : Nat} : StepsC P l dsts t F cons ap B w i []
  | cons' {i : Nat} {o : Oper} {r : List Oper} (h : StepC P l dsts t F cons ap B w i o) (hs : StepsC P l dsts t F cons ap B w (i + 1) r) : StepsC P l dsts t F cons ap B w i (o :: r)
section
variable {P : Program} {l : List Oper} {dsts : List (Option Nat)} {t : Array Value} {F : List (Value → World → Prop)} {cs : List (Option Nat)} {ap : List Nat} {B : Nat} {w : World}
theorem StepsC.cons {i : Nat} {o : Oper} {r : List Oper} (hg : GuardC l dsts F cs i o.guard) (h : ∀ (T : Nat → Value) (W : World), GivenC l dsts t F cs B w i T W → OpRuns P o T W fun v W' => factOf F i v W' ∧ extOf B W W' (ap.contains i))
    (hs : StepsC P l dsts t F cs ap B w (i + 1) r) : StepsC P l dsts t F cs ap B w i (o :: r) := .cons' ⟨hg, h⟩ hs
theorem StepsC.at {n : Nat} {r : List Oper} (h : StepsC P l dsts t F cs ap B w n r) : ∀ (k : Nat) (o : Oper), r[k]? = some o → StepC P l dsts t F cs ap B w (n + k) o := by
  induction h with
  | nil => intro k o h; simp at h
  | cons' h hs ih =>
    intro k o hk
    cases k with
    | zero =>
      simp only [List.getElem?_cons_zero, Option.some.injEq] at hk
      subst hk; exact h
    | succ k =>
      have := ih k o (by simpa using hk)
      rwa [Nat.add_assoc, Nat.add_comm 1 k] at this
theorem wp_region_rows {id : Nat} {Q : Exit → Act → World → Prop} {a : Act} (dsts : List (Option Nat)) (F : List (Value → World → Prop)) (pf : List Bool) (cons : List (Option Nat)) (ap : List Nat) (B : Nat)
    (hm : P.follows .mixedOrders = true) (hac : acyclic l.toArray = true) (hd : l.map (·.dst) = dsts) (hap : apartL a.tmps.size dsts = true) (hB : B ≤ w.heap.size) (hst' : ∀ W, Stab W F)
    (hpf : PureF F pf) (hdead : (ap.all fun i => (List.range l.length).all fun j => pf.getD j true || deadB l cons i j) = true)
    (hstep : StepsC P l dsts a.tmps F cons ap B w 0 l)
    (hend : ∀ (us : List Value) (W : World), us.length = dsts.length → (∀ j, j < l.length → cons.getD j none = none → factOf F j (us.getD j undef) W) → Below B w W → B ≤ W.heap.size → Q .normal ⟨updO a.tmps (dsts.zip us), a.defers⟩ W) : (Code.region id l.toArray true).wp P Q a w := by
  have hsz : dsts.length = l.length := by rw [← hd]; simp
  refine wp_region_inv (fun L a' W => ∃ us, a' = ⟨updO a.tmps (dsts.zip us), a.defers⟩ ∧ L.size = l.length ∧ Closed l.toArray L ∧ MonoC F cons B w (initO a.tmps dsts) L us W) hm hac ⟨initO a.tmps dsts, ?_, by simp, Closed.start l.toArray, ⟨rfl, fun j hj => absurd hj on_none, fun _ _ => rfl, (Below.refl _ _).drew, hB⟩⟩ ?_ ?_
  · rw [updO_init]
  · rintro L a' W i o h1 h2 h3 h4 ⟨us, rfl, _, hc, hJ⟩
    have h1 : L.size = l.length := by simpa using h1
    have h3' : l[i]? = some o := by simpa using h3
    have hi : i < l.length := (List.getElem?_eq_some_iff.1 h3').1
    have hdi : dsts[i]? = some o.dst := by rw [← hd, List.getElem?_map, h3']; rfl
    have hlen : us.length = dsts.length := by rw [hJ.len, initO_length]
    have hun : L.getD i false = false := getD_both h2
    have hc' := hc.step h3 h4
    have hup : ∀ j, j ≠ i → ancB l i j = true → L.getD j false = true := fun j hj hr => by
      have := hc'.anc hr (on_self (by omega))
      rwa [on_other (fun e => hj e.symm)] at this
    have hno : ∀ j, ancB l j i = true → L.getD j false = false := fun j hr => by
      cases hl : L.getD j false with
      | false => rfl
      | true =>
        have := hc.anc hr hl
        rw [hun] at this; cases this
    have G : GivenC l dsts a.tmps F cons B w i (fun s => (updO a.tmps (dsts.zip us)).getD s undef) W := by
      refine ⟨fun s hs => updO_keep dsts us _ s hs, fun j s hs => ?_, fun j s hs => ?_, hJ.below, hJ.size⟩
      · simp only [Bool.and_eq_true, bne_iff_ne, beq_iff_eq] at hs
        obtain ⟨⟨⟨hj, hr⟩, hal⟩, hs⟩ := hs
        show factOf F j ((updO a.tmps (dsts.zip us)).getD s undef) W
        rw [(updO_get dsts us _ j s hap hlen hs).1]
        refine hJ.fact j (hup j hj hr) fun c hcj => ?_
        rw [aliveB, hcj] at hal
        simp only [Bool.or_eq_true, beq_iff_eq] at hal
        rcases hal with rfl | hal
        · exact hun
        · exact hno c hal
      · simp only [Bool.and_eq_true, Bool.or_eq_true, beq_iff_eq] at hs
        obtain ⟨hr, hs⟩ := hs
        show (updO a.tmps (dsts.zip us)).getD s undef = _
        have hj : L.getD j false = false := by
          rcases hr with rfl | hr
          · exact hun
          · exact hno j hr
        rw [(updO_get dsts us _ j s hap hlen hs).1, hJ.old j hj, initO_get _ _ _ _ hs]
    obtain ⟨hg, hrun⟩ : StepC P l dsts a.tmps F cons ap B w i o := by
      have := hstep.at i o h3'
      rwa [Nat.zero_add] at this
    have hrun := hrun _ W G
    have hw : Region.wanted o (yielded l.toArray (updO a.tmps (dsts.zip us))) = true := by
      unfold Region.wanted
      cases hgd : o.guard with
      | none => rfl
      | some p =>
        obtain ⟨j, b⟩ := p
        rw [hgd] at hg
        obtain ⟨s, hs, hR⟩ := hg
        simp only [Bool.and_eq_true, bne_iff_ne, beq_iff_eq] at hs
        obtain ⟨⟨⟨hj, hr⟩, hal⟩, hs⟩ := hs
        have hv := hR _ _ (hJ.fact j (hup j hj hr) fun c hcj => by rw [hal] at hcj; cases hcj)
        rw [← (updO_get dsts us _ j s hap hlen hs).1] at hv
        have hlt := (updO_get dsts us a.tmps j s hap hlen hs).2
        have hsj : (l.toArray[j]?).bind (·.dst) = some s := by
          rw [← hd, List.getElem?_map] at hs
          cases ho : l[j]? with
          | none => simp [ho] at hs
          | some oj => simpa [ho] using hs
        have : (updO a.tmps (dsts.zip us))[s]? = some (.bool b) := by
          have hz : s < (updO a.tmps (dsts.zip us)).size := by rw [updO_size]; exact hlt
          simp only [Array.getD_eq_getD_getElem?, Array.getElem?_eq_getElem hz, Option.getD_some] at hv
          rw [Array.getElem?_eq_getElem hz, hv]
        simp only [yielded, hsj, Option.bind_some, this]
        cases b <;> rfl
    simp only [wpList]
    rw [if_pos hw]
    refine .inl ?_
    refine Oper.wp_mono ?_ hrun.wp
    rintro a'' W'' ⟨v, e, hR, hE⟩
    have hE2 : Below B W W'' ∧ W.heap.size ≤ W''.heap.size := by
      cases hb : ap.contains i with
      | true => rw [hb] at hE; exact hE
      | false =>
        rw [hb] at hE
        exact ⟨Below.mono hE hJ.size, Below.size hE⟩
    refine ⟨us.set i v, ?_, by simpa using h1, hc', ⟨by simpa using hJ.len, fun j hj hcj => ?_, fun j hj => ?_, hJ.below.trans hE2.1, Nat.le_trans hJ.size hE2.2⟩⟩
    · rw [e]; exact updO_put dsts us _ _ i _ v hap hlen hdi
    · by_cases hij : i = j
      · subst hij
        have : (us.set i v).getD i undef = v := by simp [List.getD, show i < us.length by omega]
        rw [this]; exact hR
      · have hjL : L.getD j false = true := by rwa [on_other hij] at hj
        have : (us.set i v).getD j undef = us.getD j undef := by simp [List.getD, hij]
        rw [this]
        have hf : factOf F j (us.getD j undef) W := hJ.fact j hjL fun c hcc => by
          have := hcj c hcc
          by_cases hic : i = c
          · subst hic; exact hun
          · rwa [on_other hic] at this
        cases hb : ap.contains i with
        | false =>
          rw [hb] at hE
          exact (hst' W).get j _ _ _ (Below.refl _ _) hf hE
        | true =>
          by_cases hjl : j < l.length
          · have h5 := List.all_eq_true.1 hdead i (by simpa using hb)
            have h6 := List.all_eq_true.1 h5 j (List.mem_range.2 hjl)
            rw [Bool.or_eq_true] at h6
            rcases h6 with h6 | h6
            · exact hpf.get j _ _ _ h6 hf
            · exfalso
              unfold deadB at h6
              simp only [Bool.or_eq_true, beq_iff_eq] at h6
              rcases h6 with (h6 | h6) | h6
              · exact hij h6.symm
              · rw [hno j h6] at hjL; cases hjL
              · cases hcc : cons.getD j none with
                | none => rw [hcc] at h6; cases h6
                | some c =>
                  rw [hcc] at h6
                  simp only [Bool.or_eq_true, beq_iff_eq] at h6
                  have h7 := hcj c hcc
                  rcases h6 with rfl | h6
                  · rw [on_self (by omega)] at h7; cases h7
                  · rw [hc'.anc h6 (on_self (by omega))] at h7; cases h7
          · have hL : L.getD j false = false := by simp [Array.getElem?_eq_none (show L.size ≤ j by omega)]
            rw [hL] at hjL; cases hjL
    · by_cases hij : i = j
      · subst hij
        rw [on_self (by omega)] at hj; cases hj
      · rw [on_other hij] at hj
        have : (us.set i v).getD j undef = us.getD j undef := by simp [List.getD, hij]
        rw [this]; exact hJ.old j hj
  · rintro L a' W h1 ⟨us, rfl, _, _, hJ⟩
    exact hend us W (by rw [hJ.len, initO_length]) (fun j hj hcj => hJ.fact j (h1 j (by simpa using hj)) fun c hc' => by rw [hcj] at hc'; cases hc') hJ.below hJ.size
end
end Go.Proofs.YtpjfkhbdhdolfaaDoor
