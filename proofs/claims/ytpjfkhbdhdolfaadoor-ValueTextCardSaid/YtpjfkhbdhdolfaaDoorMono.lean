/-
  A region that draws its order, by one fact for each operation: R i v W says what is known of the value v that operation i has yielded, in whatever later world W. If every operation keeps the facts that stand (they outlive every step by 'hstab') and yields its own out of those that it waits for, then behind the region all facts stand. The orders are not gone through, and an operation is looked at by itself, without the frame.
-/
import Derived.Test.YtpjfkhbdhdolfaaDoorInvb
namespace Go.Proofs.YtpjfkhbdhdolfaaDoor

/-- The frame with new values in some slots; an operation without a slot writes none. -/
def updO (t : Array Value) : List (Option Nat × Value) → Array Value
  | [] => t
  | (some s, v) :: l => updO (t.setIfInBounds s v) l
  | (none, _) :: l => updO t l
/-- No slot is written by two operations; every slot is there. -/
def apartL (n : Nat) : List (Option Nat) → Bool
  | [] => true
  | none :: l => apartL n l
  | some s :: l => !l.contains (some s) && decide (s < n) && apartL n l
def initO (t : Array Value) : List (Option Nat) → List Value
  | [] => []
  | some s :: l => t.getD s undef :: initO t l
  | none :: l => undef :: initO t l
theorem initO_length (t : Array Value) : ∀ l, (initO t l).length = l.length
  | [] => rfl
  | some _ :: l => by simp [initO, initO_length t l]
  | none :: l => by simp [initO, initO_length t l]
theorem initO_get (t : Array Value) : ∀ (l : List (Option Nat)) (j s : Nat), l[j]? = some (some s) → (initO t l).getD j undef = t.getD s undef
  | [], j, s, h => by simp at h
  | x :: l, 0, s, h => by
    simp at h
    subst h
    rfl
  | x :: l, j + 1, s, h => by
    have := initO_get t l j s (by simpa using h)
    cases x <;> simpa [initO] using this
theorem updO_init (t : Array Value) : ∀ l : List (Option Nat), updO t (l.zip (initO t l)) = t
  | [] => rfl
  | some s :: l => by simp only [initO, List.zip_cons_cons, updO, set_same]; exact updO_init t l
  | none :: l => by simp only [initO, List.zip_cons_cons, updO]; exact updO_init t l
theorem updO_size : ∀ (l : List (Option Nat × Value)) (t : Array Value), (updO t l).size = t.size
  | [], _ => rfl
  | (some s, v) :: l, t => by simp only [updO, updO_size l]; simp
  | (none, _) :: l, t => by simp only [updO, updO_size l]
theorem set_comm (t : Array Value) (i j : Nat) (u v : Value) (h : i ≠ j) : (t.setIfInBounds i u).setIfInBounds j v = (t.setIfInBounds j v).setIfInBounds i u := by
  apply Array.ext'
  simp only [Array.toList_setIfInBounds]
  exact List.set_comm _ _ h
theorem set_set (t : Array Value) (i : Nat) (u v : Value) : (t.setIfInBounds i u).setIfInBounds i v = t.setIfInBounds i v := by
  apply Array.ext'
  simp
/-- A slot that none of them writes, set before or behind. -/
theorem updO_set : ∀ (ds : List (Option Nat)) (us : List Value) (t : Array Value) (s : Nat) (v : Value), ds.contains (some s) = false → (updO t (ds.zip us)).setIfInBounds s v = updO (t.setIfInBounds s v) (ds.zip us)
  | [], _, _, _, _, _ => by simp [updO]
  | _ :: _, [], _, _, _, _ => by simp [updO]
  | none :: ds, u :: us, t, s, v, h => by
    simp only [List.zip_cons_cons, updO]
    exact updO_set ds us t s v (by simpa using h)
  | some d :: ds, u :: us, t, s, v, h => by
    simp only [List.zip_cons_cons, updO]
    simp only [List.contains_cons, Bool.or_eq_false_iff] at h
    have hne : d ≠ s := by
      have := h.1
      intro e
      subst e
      simp at this
    rw [updO_set ds us _ s v h.2, set_comm _ _ _ _ _ hne]
theorem updO_keep : ∀ (ds : List (Option Nat)) (us : List Value) (t : Array Value) (s : Nat), ds.contains (some s) = false → (updO t (ds.zip us)).getD s undef = t.getD s undef
  | [], _, _, _, _ => by simp [updO]
  | _ :: _, [], _, _, _ => by simp [updO]
  | none :: ds, u :: us, t, s, h => by
    simp only [List.zip_cons_cons, updO]
    exact updO_keep ds us t s (by simpa using h)
  | some d :: ds, u :: us, t, s, h => by
    simp only [List.zip_cons_cons, updO]
    simp only [List.contains_cons, Bool.or_eq_false_iff] at h
    have hne : d ≠ s := by
      have := h.1
      intro e
      subst e
      simp at this
    rw [updO_keep ds us _ s h.2]
    simp [hne]
theorem updO_get : ∀ (ds : List (Option Nat)) (us : List Value) (t : Array Value) (j s : Nat), apartL t.size ds = true → us.length = ds.length → ds[j]? = some (some s) → (updO t (ds.zip us)).getD s undef = us.getD j undef ∧ s < t.size
  | [], _, _, j, s, _, _, h => by simp at h
  | x :: ds, [], t, j, s, ha, hl, h => by simp at hl
  | x :: ds, u :: us, t, 0, s, ha, hl, h => by
    simp only [List.getElem?_cons_zero, Option.some.injEq] at h
    subst h
    simp only [apartL, Bool.and_eq_true, Bool.not_eq_true', decide_eq_true_eq] at ha
    simp only [List.zip_cons_cons, updO]
    rw [updO_keep _ _ _ _ ha.1.1]
    exact ⟨by simp [ha.1.2], ha.1.2⟩
  | x :: ds, u :: us, t, j + 1, s, ha, hl, h => by
    have h' : ds[j]? = some (some s) := by simpa using h
    cases x with
    | none =>
      have := updO_get ds us t j s ha (by simpa using hl) h'
      simpa [updO] using this
    | some d =>
      simp only [apartL, Bool.and_eq_true] at ha
      have := updO_get ds us (t.setIfInBounds d u) j s (by simpa using ha.2) (by simpa using hl) h'
      simpa [updO] using this
theorem updO_put : ∀ (ds : List (Option Nat)) (us : List Value) (t : Array Value) (d : List Deferred) (i : Nat) (o : Option Nat) (v : Value), apartL t.size ds = true → us.length = ds.length → ds[i]? = some o →
    (⟨updO t (ds.zip us), d⟩ : Act).put o v = ⟨updO t (ds.zip (us.set i v)), d⟩
  | [], _, _, _, i, o, v, _, _, h => by simp at h
  | x :: ds, [], t, d, i, o, v, ha, hl, h => by simp at hl
  | x :: ds, u :: us, t, d, 0, o, v, ha, hl, h => by
    simp only [List.getElem?_cons_zero, Option.some.injEq] at h
    subst h
    cases x with
    | none => rfl
    | some s =>
      simp only [apartL, Bool.and_eq_true, Bool.not_eq_true'] at ha
      simp only [List.zip_cons_cons, updO, List.set_cons_zero, Act.put]
      rw [updO_set _ _ _ _ _ ha.1.1, set_set]
  | x :: ds, u :: us, t, d, i + 1, o, v, ha, hl, h => by
    have h' : ds[i]? = some o := by simpa using h
    cases x with
    | none =>
      simp only [List.zip_cons_cons, updO, List.set_cons_succ]
      exact updO_put ds us t d i o v ha (by simpa using hl) h'
    | some s =>
      simp only [apartL, Bool.and_eq_true] at ha
      simp only [List.zip_cons_cons, updO, List.set_cons_succ]
      exact updO_put ds us _ d i o v (by simpa using ha.2) (by simpa using hl) h'

/-- What an operand says, by the slots' values. -/
def evT (T : Nat → Value) : Operand → Value
  | .tmp s => T s
  | .const v => v
  | .global g => .pointer (some ⟨g, 0, none⟩)
  | .func f => .func (.func f) #[] #[]
theorem evT_act (a : Act) : a.eval = evT fun s => a.tmps.getD s undef := by
  funext x
  cases x <;> rfl
/-- One operation, by itself: it yields a value of which K holds, and does not panic. -/
def OpRuns (P : Program) (o : Oper) (T : Nat → Value) (W : World) (K : Value → World → Prop) : Prop :=
  match (execOp (evT T) o).run P W with
  | .ok (.value v) W' => K v W'
  | .ok .skip W' => K undef W'
  | .ok (.enter f args) W' => Calls P f args W' fun e W'' => ∃ v, e = .returned v ∧ K v W''
  | _ => False
theorem OpRuns.of_ok {P : Program} {o : Oper} {T : Nat → Value} {W W' : World} {K : Value → World → Prop} {v : Value} (h : (execOp (evT T) o).run P W = .ok (.value v) W') (hK : K v W') : OpRuns P o T W K := by
  unfold OpRuns; rw [h]; exact hK
theorem OpRuns.of_call {P : Program} {o : Oper} {T : Nat → Value} {W : World} {K : Value → World → Prop} {f : FuncId} {args : Array Value} (h : (execOp (evT T) o).run P W = .ok (.enter f args) W) (hK : Calls P f args W fun e W'' => ∃ v, e = .returned v ∧ K v W'') : OpRuns P o T W K := by
  unfold OpRuns; rw [h]; exact hK
theorem OpRuns.wp {P : Program} {o : Oper} {a : Act} {W : World} {K : Value → World → Prop} {Q : Exit → Act → World → Prop} (h : OpRuns P o (fun s => a.tmps.getD s undef) W K) : o.wp P a W (fun a' W' => ∃ v, a' = a.put o.dst v ∧ K v W') Q := by
  unfold OpRuns at h
  unfold Oper.wp
  rw [evT_act]
  generalize (execOp (evT fun s => a.tmps.getD s undef) o).run P W = r at h
  cases r with
  | ok n w' =>
    cases n <;> simp only [Oper.upon] at h ⊢ <;>
      first
        | exact ⟨_, rfl, h⟩
        | exact Calls.mono h (fun e w'' ⟨v, he, hk⟩ => by subst he; exact ⟨v, rfl, hk⟩)
        | exact h.elim
  | halt x w' => cases x <;> exact h.elim

/-- j waits for i, directly or through others. -/
def reach (ops : Array Oper) : Nat → Nat → Nat → Bool
  | 0, j, i => j == i
  | n + 1, j, i => j == i || ((ops[j]?).map fun o => o.after.any fun e => Region.binds .any e && reach ops n e.on i).getD false
theorem Closed.reach {ops : Array Oper} {L : Array Bool} (h : Closed ops L) : ∀ (n j i : Nat), reach ops n j i = true → L.getD j false = true → L.getD i false = true
  | 0, j, i, hr, hl => by
    simp only [Go.Proofs.YtpjfkhbdhdolfaaDoor.reach, beq_iff_eq] at hr
    subst hr; exact hl
  | n + 1, j, i, hr, hl => by
    simp only [Go.Proofs.YtpjfkhbdhdolfaaDoor.reach, Bool.or_eq_true, beq_iff_eq] at hr
    rcases hr with rfl | hr
    · exact hl
    · cases ho : ops[j]? with
      | none => simp [ho] at hr
      | some o =>
        simp only [ho, Option.map_some, Option.getD_some] at hr
        obtain ⟨e, he, hb⟩ := Array.any_eq_true'.1 hr
        simp only [Bool.and_eq_true] at hb
        exact Closed.reach h n e.on i hb.2 (h j o ho hl e he hb.1)

/-- What holds between two operations. 'cons j': the operation that uses j's fact up. -/
structure MonoAt (R : Nat → Value → World → Prop) (cons : Nat → Option Nat) (WI : World → Prop) (init : List Value) (L : Array Bool) (us : List Value) (W : World) : Prop where
  len : us.length = init.length
  fact : ∀ j, L.getD j false = true → (∀ c, cons j = some c → L.getD c false = false) → R j (us.getD j undef) W
  old : ∀ j, L.getD j false = false → us.getD j undef = init.getD j undef
  wi : WI W
/-- j's fact has not been used up when i comes up. -/
def alive (ops : Array Oper) (cons : Nat → Option Nat) (n i j : Nat) : Bool :=
  match cons j with
  | none => true
  | some c => reach ops n c i
/-- What an operation is given: the slots that the region does not write are as they were; what it waits for has yielded; what waits for it has not yet. -/
structure Given (ops : Array Oper) (dsts : List (Option Nat)) (t : Array Value) (R : Nat → Value → World → Prop) (cons : Nat → Option Nat) (WI : World → Prop) (i : Nat) (T : Nat → Value) (W : World) : Prop where
  keep : ∀ s, dsts.contains (some s) = false → T s = t.getD s undef
  fact : ∀ n j s, (j != i && reach ops n i j && alive ops cons n i j && dsts[j]? == some (some s)) = true → R j (T s) W
  old : ∀ n j s, (reach ops n j i && dsts[j]? == some (some s)) = true → T s = t.getD s undef
  wi : WI W
def GuardOk (ops : Array Oper) (dsts : List (Option Nat)) (R : Nat → Value → World → Prop) (cons : Nat → Option Nat) (i : Nat) : Option (Nat × Bool) → Prop
  | none => True
  | some (j, b) => ∃ n s, (j != i && reach ops n i j && cons j == none && dsts[j]? == some (some s)) = true ∧ ∀ v W, R j v W → v = .bool b
/-- Each operation's own obligation. -/
def Steps (P : Program) (ops : Array Oper) (dsts : List (Option Nat)) (t : Array Value) (R : Nat → Value → World → Prop) (cons : Nat → Option Nat) (WI : World → Prop) (Ext : Nat → World → World → Prop) : Nat → List Oper → Prop
  | _, [] => True
  | i, o :: l => (GuardOk ops dsts R cons i o.guard ∧ ∀ (T : Nat → Value) (W : World), Given ops dsts t R cons WI i T W → OpRuns P o T W fun v W' => R i v W' ∧ Ext i W W') ∧ Steps P ops dsts t R cons WI Ext (i + 1) l
theorem Steps.at {P : Program} {ops : Array Oper} {dsts : List (Option Nat)} {t : Array Value} {R : Nat → Value → World → Prop} {cons : Nat → Option Nat} {WI : World → Prop} {Ext : Nat → World → World → Prop} : ∀ (l : List Oper) (n : Nat), Steps P ops dsts t R cons WI Ext n l → ∀ (k : Nat) (o : Oper), l[k]? = some o →
    GuardOk ops dsts R cons (n + k) o.guard ∧ ∀ (T : Nat → Value) (W : World), Given ops dsts t R cons WI (n + k) T W → OpRuns P o T W fun v W' => R (n + k) v W' ∧ Ext (n + k) W W'
  | [], _, _, k, o, h => by simp at h
  | x :: l, n, hs, 0, o, h => by
    simp only [List.getElem?_cons_zero, Option.some.injEq] at h
    subst h
    exact hs.1
  | x :: l, n, hs, k + 1, o, h => by
    have := Steps.at l (n + 1) hs.2 k o (by simpa using h)
    rw [show n + 1 + k = n + (k + 1) by omega] at this
    exact this
theorem wp_region_mono {P : Program} {id : Nat} {ops : Array Oper} {Q : Exit → Act → World → Prop} {a : Act} {w : World} (dsts : List (Option Nat)) (R : Nat → Value → World → Prop) (cons : Nat → Option Nat) (WI : World → Prop) (Ext : Nat → World → World → Prop)
    (hm : P.follows .mixedOrders = true) (hac : acyclic ops = true) (hd : ops.toList.map (·.dst) = dsts) (hap : apartL a.tmps.size dsts = true)
    (hext : ∀ i W W', WI W → Ext i W W' → WI W') (hstab : ∀ i j v W W', cons j ≠ some i → WI W → R j v W → Ext i W W' → R j v W') (h0 : WI w.drew)
    (hstep : Steps P ops dsts a.tmps R cons WI Ext 0 ops.toList)
    (hend : ∀ (us : List Value) (W : World), us.length = dsts.length → (∀ j, j < ops.size → cons j = none → R j (us.getD j undef) W) → WI W → Q .normal ⟨updO a.tmps (dsts.zip us), a.defers⟩ W) : (Code.region id ops true).wp P Q a w := by
  have hsz : dsts.length = ops.size := by rw [← hd]; simp
  refine wp_region_inv (fun L a' W => ∃ us, a' = ⟨updO a.tmps (dsts.zip us), a.defers⟩ ∧ L.size = ops.size ∧ Closed ops L ∧ MonoAt R cons WI (initO a.tmps dsts) L us W) hm hac ⟨initO a.tmps dsts, ?_, by simp, Closed.start ops, ⟨rfl, fun j hj => absurd hj on_none, fun _ _ => rfl, h0⟩⟩ ?_ ?_
  · rw [updO_init]
  · rintro L a' W i o h1 h2 h3 h4 ⟨us, rfl, _, hc, hJ⟩
    have hi : i < ops.size := (Array.getElem?_eq_some_iff.1 h3).1
    have hdi : dsts[i]? = some o.dst := by
      rw [← hd, List.getElem?_map]
      simp only [Array.getElem?_toList, h3, Option.map_some]
    have hlen : us.length = dsts.length := by rw [hJ.len, initO_length]
    have hun : L.getD i false = false := getD_both h2
    have hup : ∀ n j, j ≠ i → reach ops n i j = true → L.getD j false = true := fun n j hj hr => by
      have hc' := hc.step h3 h4
      have := hc'.reach n i j hr (on_self (by omega))
      rwa [on_other (fun e => hj e.symm)] at this
    have hno : ∀ n j, reach ops n j i = true → L.getD j false = false := fun n j hr => by
      cases hl : L.getD j false with
      | false => rfl
      | true =>
        have := hc.reach n j i hr hl
        rw [hun] at this; cases this
    have G : Given ops dsts a.tmps R cons WI i (fun s => (updO a.tmps (dsts.zip us)).getD s undef) W := by
      refine ⟨fun s hs => updO_keep dsts us _ s hs, fun n j s hs => ?_, fun n j s hs => ?_, hJ.wi⟩
      · simp only [Bool.and_eq_true, bne_iff_ne, beq_iff_eq] at hs
        obtain ⟨⟨⟨hj, hr⟩, hal⟩, hs⟩ := hs
        show R j ((updO a.tmps (dsts.zip us)).getD s undef) W
        rw [(updO_get dsts us _ j s hap hlen hs).1]
        refine hJ.fact j (hup n j hj hr) fun c hcj => ?_
        rw [alive, hcj] at hal
        exact hno n c hal
      · simp only [Bool.and_eq_true, beq_iff_eq] at hs
        obtain ⟨hr, hs⟩ := hs
        show (updO a.tmps (dsts.zip us)).getD s undef = _
        rw [(updO_get dsts us _ j s hap hlen hs).1, hJ.old j (hno n j hr), initO_get _ _ _ _ hs]
    have hS := Steps.at ops.toList 0 hstep i o (by simpa using h3)
    rw [Nat.zero_add] at hS
    obtain ⟨hg, hrun⟩ := hS
    have hrun := hrun _ W G
    have hw : Region.wanted o (yielded ops (updO a.tmps (dsts.zip us))) = true := by
      unfold Region.wanted
      cases hgd : o.guard with
      | none => rfl
      | some p =>
        obtain ⟨j, b⟩ := p
        rw [hgd] at hg
        obtain ⟨n, s, hs, hR⟩ := hg
        simp only [Bool.and_eq_true, bne_iff_ne, beq_iff_eq] at hs
        obtain ⟨⟨⟨hj, hr⟩, hal⟩, hs⟩ := hs
        have hv := hR _ _ (hJ.fact j (hup n j hj hr) fun c hcj => by rw [hal] at hcj; cases hcj)
        rw [← (updO_get dsts us _ j s hap hlen hs).1] at hv
        have hlt := (updO_get dsts us a.tmps j s hap hlen hs).2
        have hsj : (ops[j]?).bind (·.dst) = some s := by
          rw [← hd, List.getElem?_map, Array.getElem?_toList] at hs
          cases ho : ops[j]? with
          | none => simp [ho] at hs
          | some oj => simpa [ho] using hs
        have : (updO a.tmps (dsts.zip us))[s]? = some (.bool b) := by
          have hz : s < (updO a.tmps (dsts.zip us)).size := by rw [updO_size]; exact hlt
          simp only [Array.getD_eq_getD_getElem?, Array.getElem?_eq_getElem hz, Option.getD_some] at hv
          rw [Array.getElem?_eq_getElem hz, hv]
        simp only [yielded, hsj, Option.bind_some, this]
        cases b <;> rfl
    simp only [wpList]
    rw [if_pos hw]
    refine .inl ?_
    refine Oper.wp_mono ?_ hrun.wp
    rintro a'' W'' ⟨v, e, hR, hE⟩
    refine ⟨us.set i v, ?_, by simpa using h1, hc.step h3 h4, ⟨by simpa using hJ.len, fun j hj hcj => ?_, fun j hj => ?_, hext _ _ _ hJ.wi hE⟩⟩
    · rw [e]; exact updO_put dsts us _ _ i _ v hap hlen hdi
    · by_cases hij : i = j
      · subst hij
        have : (us.set i v).getD i undef = v := by simp [List.getD, show i < us.length by omega]
        rw [this]; exact hR
      · rw [on_other hij] at hj
        have : (us.set i v).getD j undef = us.getD j undef := by simp [List.getD, hij]
        rw [this]
        refine hstab i j _ _ _ (fun e => ?_) hJ.wi (hJ.fact j hj fun c hc' => ?_) hE
        · have := hcj i e
          rw [on_self (by omega)] at this; cases this
        · have := hcj c hc'
          by_cases hic : i = c
          · subst hic; exact hun
          · rwa [on_other hic] at this
    · by_cases hij : i = j
      · subst hij
        rw [on_self (by omega)] at hj; cases hj
      · rw [on_other hij] at hj
        have : (us.set i v).getD j undef = us.getD j undef := by simp [List.getD, hij]
        rw [this]; exact hJ.old j hj
  · rintro L a' W h1 ⟨us, rfl, hsz', _, hJ⟩
    refine hend us W (by rw [hJ.len, initO_length]) (fun j hj hcj => hJ.fact j (h1 j hj) fun c hc' => by rw [hcj] at hc'; cases hc') hJ.wi
end Go.Proofs.YtpjfkhbdhdolfaaDoor
