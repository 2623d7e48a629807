import Derived.Test.YtpinhcdcnaaihaaGreatDoorA05
namespace Go.Proofs.YtpinhcdcnaaihaaGreatDoor
open Go.RowKit
def StepT (P : Program) (ops : Array Oper) (dsts : List (Option Nat)) (t : Array Value) (R : Nat → Value → World → Prop) (cons : Nat → Option Nat) (WI : World → Prop) (Ext : Nat → World → World → Prop) (i : Nat) (o : Oper) : Prop :=
  (GuardOk ops dsts R cons i o.guard ∧ ∀ (T : Nat → Value) (W : World), Given ops dsts t R cons WI i T W → OpRuns P o T W fun v W' => R i v W' ∧ Ext i W W') ∨
  (∃ j b n s, o.guard = some (j, b) ∧ (j != i && reach ops n i j && cons j == none && dsts[j]? == some (some s)) = true ∧ (∀ v W, R j v W → v ≠ .bool b) ∧ ∀ W, R i undef W)
def StepsT (P : Program) (ops : Array Oper) (dsts : List (Option Nat)) (t : Array Value) (R : Nat → Value → World → Prop) (cons : Nat → Option Nat) (WI : World → Prop) (Ext : Nat → World → World → Prop) : Nat → List Oper → Prop
  | _, [] => True
  | i, o :: l => StepT P ops dsts t R cons WI Ext i o ∧ StepsT P ops dsts t R cons WI Ext (i + 1) l
theorem StepsT.at {P : Program} {ops : Array Oper} {dsts : List (Option Nat)} {t : Array Value} {R : Nat → Value → World → Prop} {cons : Nat → Option Nat} {WI : World → Prop} {Ext : Nat → World → World → Prop} : ∀ (l : List Oper) (n : Nat), StepsT P ops dsts t R cons WI Ext n l → ∀ (k : Nat) (o : Oper), l[k]? = some o → StepT P ops dsts t R cons WI Ext (n + k) o
  | [], _, _, k, o, h => by simp at h
  | x :: l, n, hs, 0, o, h => by
    simp only [List.getElem?_cons_zero, Option.some.injEq] at h
    subst h
    exact hs.1
  | x :: l, n, hs, k + 1, o, h => by
    have := StepsT.at l (n + 1) hs.2 k o (by simpa using h)
    rw [show n + 1 + k = n + (k + 1) by omega] at this
    exact this
theorem StepsT.cons {P : Program} {ops : Array Oper} {dsts : List (Option Nat)} {t : Array Value} {R : Nat → Value → World → Prop} {cons : Nat → Option Nat} {WI : World → Prop} {Ext : Nat → World → World → Prop} {i : Nat} {o : Oper} {l : List Oper}
    (hg : GuardOk ops dsts R cons i o.guard) (h : ∀ (T : Nat → Value) (W : World), Given ops dsts t R cons WI i T W → OpRuns P o T W fun v W' => R i v W' ∧ Ext i W W') (hs : StepsT P ops dsts t R cons WI Ext (i + 1) l) : StepsT P ops dsts t R cons WI Ext i (o :: l) := ⟨.inl ⟨hg, h⟩, hs⟩
theorem StepsT.skip {P : Program} {ops : Array Oper} {dsts : List (Option Nat)} {t : Array Value} {R : Nat → Value → World → Prop} {cons : Nat → Option Nat} {WI : World → Prop} {Ext : Nat → World → World → Prop} {i : Nat} {o : Oper} {l : List Oper} {j : Nat} {b : Bool} (n s : Nat)
    (hg : o.guard = some (j, b)) (hr : (j != i && reach ops n i j && cons j == none && dsts[j]? == some (some s)) = true) (hR : ∀ v W, R j v W → v ≠ .bool b) (hi : ∀ W, R i undef W) (hs : StepsT P ops dsts t R cons WI Ext (i + 1) l) : StepsT P ops dsts t R cons WI Ext i (o :: l) := ⟨.inr ⟨j, b, n, s, hg, hr, hR, hi⟩, hs⟩
theorem wp_region_cond {P : Program} {id : Nat} {ops : Array Oper} {Q : Exit → Act → World → Prop} {a : Act} {w : World} (dsts : List (Option Nat)) (R : Nat → Value → World → Prop) (cons : Nat → Option Nat) (WI : World → Prop) (Ext : Nat → World → World → Prop)
    (hm : P.follows .mixedOrders = true) (hac : acyclic ops = true) (hd : ops.toList.map (·.dst) = dsts) (hap : apartL a.tmps.size dsts = true)
    (hext : ∀ i W W', WI W → Ext i W W' → WI W') (hstab : ∀ i j v W W', cons j ≠ some i → WI W → R j v W → Ext i W W' → R j v W') (h0 : WI w.drew)
    (hstep : StepsT P ops dsts a.tmps R cons WI Ext 0 ops.toList)
    (hend : ∀ (us : List Value) (W : World), us.length = dsts.length → (∀ j, j < ops.size → cons j = none → R j (us.getD j undef) W) → WI W → Q .normal ⟨updO a.tmps (dsts.zip us), a.defers⟩ W) : (Code.region id ops true).wp P Q a w := by
  have hsz : dsts.length = ops.size := by rw [← hd]; simp
  refine wp_region_inv (fun L a' W => ∃ us, a' = ⟨updO a.tmps (dsts.zip us), a.defers⟩ ∧ L.size = ops.size ∧ Closed ops L ∧ MonoAt R cons WI (initO a.tmps dsts) L us W) hm hac ⟨initO a.tmps dsts, ?_, by simp, Closed.start ops, ⟨rfl, fun j hj => absurd hj on_none, fun _ _ => rfl, h0⟩⟩ ?_ ?_
  · rw [updO_init]
  · rintro L a' W i o h1 h2 h3 h4 ⟨us, rfl, _, hc, hJ⟩
    have hi : i < ops.size := (Array.getElem?_eq_some_iff.1 h3).1
    have hdi : dsts[i]? = some o.dst := by
      rw [← hd, List.getElem?_map]
      simp only [Array.getElem?_toList, h3, Option.map_some]
    have hlen : us.length = dsts.length := by rw [hJ.len, initO_length]
    have hun : L.getD i false = false := getD_both h2
    have hup : ∀ n j, j ≠ i → reach ops n i j = true → L.getD j false = true := fun n j hj hr => by
      have hc' := hc.step h3 h4
      have := hc'.reach n i j hr (on_self (by omega))
      rwa [on_other (fun e => hj e.symm)] at this
    have hno : ∀ n j, reach ops n j i = true → L.getD j false = false := fun n j hr => by
      cases hl : L.getD j false with
      | false => rfl
      | true =>
        have := hc.reach n j i hr hl
        rw [hun] at this; cases this
    have G : Given ops dsts a.tmps R cons WI i (fun s => (updO a.tmps (dsts.zip us)).getD s undef) W := by
      refine ⟨fun s hs => updO_keep dsts us _ s hs, fun n j s hs => ?_, fun n j s hs => ?_, hJ.wi⟩
      · simp only [Bool.and_eq_true, bne_iff_ne, beq_iff_eq] at hs
        obtain ⟨⟨⟨hj, hr⟩, hal⟩, hs⟩ := hs
        show R j ((updO a.tmps (dsts.zip us)).getD s undef) W
        rw [(updO_get dsts us _ j s hap hlen hs).1]
        refine hJ.fact j (hup n j hj hr) fun c hcj => ?_
        rw [alive, hcj] at hal
        exact hno n c hal
      · simp only [Bool.and_eq_true, beq_iff_eq] at hs
        obtain ⟨hr, hs⟩ := hs
        show (updO a.tmps (dsts.zip us)).getD s undef = _
        rw [(updO_get dsts us _ j s hap hlen hs).1, hJ.old j (hno n j hr), initO_get _ _ _ _ hs]
    have hS := StepsT.at ops.toList 0 hstep i o (by simpa using h3)
    rw [Nat.zero_add] at hS
    have guardV : ∀ j b' n s, (j != i && reach ops n i j && cons j == none && dsts[j]? == some (some s)) = true → (∀ v W, R j v W → v = .bool b') → yielded ops (updO a.tmps (dsts.zip us)) j = some b' := by
      intro j b' n s hs hR
      simp only [Bool.and_eq_true, bne_iff_ne, beq_iff_eq] at hs
      obtain ⟨⟨⟨hj, hr⟩, hal⟩, hs⟩ := hs
      have hv := hR _ _ (hJ.fact j (hup n j hj hr) fun c hcj => by rw [hal] at hcj; cases hcj)
      rw [← (updO_get dsts us _ j s hap hlen hs).1] at hv
      have hlt := (updO_get dsts us a.tmps j s hap hlen hs).2
      have hsj : (ops[j]?).bind (·.dst) = some s := by
        rw [← hd, List.getElem?_map, Array.getElem?_toList] at hs
        cases ho : ops[j]? with
        | none => simp [ho] at hs
        | some oj => simpa [ho] using hs
      have : (updO a.tmps (dsts.zip us))[s]? = some (.bool b') := by
        have hz : s < (updO a.tmps (dsts.zip us)).size := by rw [updO_size]; exact hlt
        simp only [Array.getD_eq_getD_getElem?, Array.getElem?_eq_getElem hz, Option.getD_some] at hv
        rw [Array.getElem?_eq_getElem hz, hv]
      simp only [yielded, hsj, Option.bind_some, this]
    rcases hS with hS | ⟨j, b, n, s, hgd, hs, hR, hRi⟩
    rotate_left
    · have hw : Region.wanted o (yielded ops (updO a.tmps (dsts.zip us))) = false := by
        unfold Region.wanted
        rw [hgd]
        simp only [Bool.and_eq_true, bne_iff_ne, beq_iff_eq] at hs
        obtain ⟨⟨⟨hj, hr⟩, hal⟩, hs⟩ := hs
        have hv := hR _ _ (hJ.fact j (hup n j hj hr) fun c hcj => by rw [hal] at hcj; cases hcj)
        rw [← (updO_get dsts us _ j s hap hlen hs).1] at hv
        have hlt := (updO_get dsts us a.tmps j s hap hlen hs).2
        have hsj : (ops[j]?).bind (·.dst) = some s := by
          rw [← hd, List.getElem?_map, Array.getElem?_toList] at hs
          cases ho : ops[j]? with
          | none => simp [ho] at hs
          | some oj => simpa [ho] using hs
        have hz : s < (updO a.tmps (dsts.zip us)).size := by rw [updO_size]; exact hlt
        simp only [Array.getD_eq_getD_getElem?, Array.getElem?_eq_getElem hz, Option.getD_some] at hv
        simp only [yielded, hsj, Option.bind_some, Array.getElem?_eq_getElem hz]
        generalize (updO a.tmps (dsts.zip us))[s] = u at hv
        cases u with
        | bool x =>
          cases x <;> cases b <;> first | rfl | (exact absurd rfl hv)
        | _ => rfl
      simp only [wpList]
      rw [if_neg (by rw [hw]; exact Bool.false_ne_true)]
      refine ⟨us.set i undef, ?_, by simpa using h1, hc.step h3 h4, ⟨by simpa using hJ.len, fun j hj hcj => ?_, fun j hj => ?_, hJ.wi⟩⟩
      · exact updO_put dsts us _ _ i _ undef hap hlen hdi
      · by_cases hij : i = j
        · subst hij
          have : (us.set i undef).getD i undef = undef := by simp [List.getD, show i < us.length by omega]
          rw [this]; exact hRi _
        · rw [on_other hij] at hj
          have : (us.set i undef).getD j undef = us.getD j undef := by simp [List.getD, hij]
          rw [this]
          refine hJ.fact j hj fun c hc' => ?_
          have := hcj c hc'
          by_cases hic : i = c
          · subst hic; exact hun
          · rwa [on_other hic] at this
      · by_cases hij : i = j
        · subst hij
          rw [on_self (by omega)] at hj; cases hj
        · rw [on_other hij] at hj
          have : (us.set i undef).getD j undef = us.getD j undef := by simp [List.getD, hij]
          rw [this]
          exact hJ.old j hj
    obtain ⟨hg, hrun⟩ := hS
    have hrun := hrun _ W G
    have hw : Region.wanted o (yielded ops (updO a.tmps (dsts.zip us))) = true := by
      unfold Region.wanted
      cases hgd : o.guard with
      | none => rfl
      | some p =>
        obtain ⟨j, b⟩ := p
        rw [hgd] at hg
        obtain ⟨n, s, hs, hR⟩ := hg
        have := guardV j b n s hs hR
        simp only [this]
        cases b <;> rfl
    simp only [wpList]
    rw [if_pos hw]
    refine .inl ?_
    refine Oper.wp_mono ?_ hrun.wp
    rintro a'' W'' ⟨v, e, hR, hE⟩
    refine ⟨us.set i v, ?_, by simpa using h1, hc.step h3 h4, ⟨by simpa using hJ.len, fun j hj hcj => ?_, fun j hj => ?_, hext _ _ _ hJ.wi hE⟩⟩
    · rw [e]; exact updO_put dsts us _ _ i _ v hap hlen hdi
    · by_cases hij : i = j
      · subst hij
        have : (us.set i v).getD i undef = v := by simp [List.getD, show i < us.length by omega]
        rw [this]; exact hR
      · rw [on_other hij] at hj
        have : (us.set i v).getD j undef = us.getD j undef := by simp [List.getD, hij]
        rw [this]
        refine hstab i j _ _ _ (fun e => ?_) hJ.wi (hJ.fact j hj fun c hc' => ?_) hE
        · have := hcj i e
          rw [on_self (by omega)] at this; cases this
        · have := hcj c hc'
          by_cases hic : i = c
          · subst hic; exact hun
          · rwa [on_other hic] at this
    · by_cases hij : i = j
      · subst hij
        rw [on_self (by omega)] at hj; cases hj
      · rw [on_other hij] at hj
        have : (us.set i v).getD j undef = us.getD j undef := by simp [List.getD, hij]
        rw [this]; exact hJ.old j hj
  · rintro L a' W h1 ⟨us, rfl, hsz', _, hJ⟩
    refine hend us W (by rw [hJ.len, initO_length]) (fun j hj hcj => hJ.fact j (h1 j hj) fun c hc' => by rw [hcj] at hc'; cases hc') hJ.wi
end Go.Proofs.YtpinhcdcnaaihaaGreatDoor
namespace Go.Proofs.YtpinhcdcnaaihaaGreatDoor
open Go.RowKit
def posOf (s : Nat) : List (Option Nat) → Option Nat
  | [] => none
  | d :: ds => if d = some s then some 0 else (posOf s ds).map (· + 1)
theorem posOf_some {s : Nat} : ∀ {ds : List (Option Nat)} {j : Nat}, posOf s ds = some j → ds[j]? = some (some s)
  | [], j, h => by simp [posOf] at h
  | d :: ds, j, h => by
    simp only [posOf] at h
    split at h
    · next e => cases h; subst e; rfl
    · simp only [Option.map_eq_some_iff] at h
      obtain ⟨k, hk, rfl⟩ := h
      simpa using posOf_some hk
theorem posOf_none {s : Nat} : ∀ {ds : List (Option Nat)}, posOf s ds = none → ds.contains (some s) = false
  | [], _ => rfl
  | d :: ds, h => by
    simp only [posOf] at h
    split at h
    · cases h
    · next e =>
      simp only [Option.map_eq_none_iff] at h
      simp only [List.contains_cons, posOf_none h, Bool.or_false, beq_eq_false_iff_ne]
      exact fun e' => e e'.symm
theorem apartL_take {n : Nat} : ∀ {ds : List (Option Nat)} (i : Nat), apartL n ds = true → apartL n (ds.take i) = true
  | [], i, _ => by simp [apartL]
  | d :: ds, 0, _ => rfl
  | none :: ds, i + 1, h => by
    simp only [List.take_succ_cons, apartL] at h ⊢
    exact apartL_take i h
  | some s :: ds, i + 1, h => by
    simp only [List.take_succ_cons, apartL, Bool.and_eq_true, Bool.not_eq_true'] at h ⊢
    refine ⟨⟨?_, h.1.2⟩, apartL_take i h.2⟩
    cases hc : (ds.take i).contains (some s) with
    | false => rfl
    | true =>
      have := List.contains_iff_mem.2 (List.mem_of_mem_take (List.contains_iff_mem.1 hc))
      rw [h.1.1] at this; cases this
def depOk (ops : Array Oper) (dsts : List (Option Nat)) (n i s : Nat) : Bool :=
  match posOf s dsts with
  | none => true
  | some j => if j < i then reach ops n i j else reach ops n j i
def depsOk (ops : Array Oper) (dsts : List (Option Nat)) (n : Nat) : Bool := (List.range ops.size).all fun i => match ops[i]? with
  | some o => (opSlots o.op).all (depOk ops dsts n i)
  | none => true
inductive Chain (ops : Array Oper) (dsts : List (Option Nat)) (n : Nat) : Nat → St → List Oper → List Tree → Prop
  | nil {i : Nat} {S : St} : Chain ops dsts n i S [] []
  | op {i : Nat} {S : St} {o : Oper} {os : List Oper} {t : Tree} {ts : List Tree} (hg : o.guard = none) (h : OpOK o S t) (hs : Chain ops dsts n (i + 1) (S.put o.dst t) os ts) : Chain ops dsts n i S (o :: os) (t :: ts)
  | cnd {i : Nat} {S : St} {o : Oper} {os : List Oper} {t : Tree} {ts : List Tree} (j : Nat) (b : Bool) (s : Nat) (C : Prop) [Decidable C] (hg : o.guard = some (j, b)) (hj : (j != i && reach ops n i j && decide (j < i) && dsts[j]? == some (some s)) = true) (hG : ∃ gv, S.get s = .sc gv ∧ (C ↔ gv = .bool b)) (h : C → OpOK o S t) (hs : Chain ops dsts n (i + 1) (S.put o.dst (if C then t else .sc undef)) os ts) : Chain ops dsts n i S (o :: os) ((if C then t else .sc undef) :: ts)
def putAll (S : St) : List (Option Nat) → List Tree → St
  | d :: ds, t :: ts => putAll (S.put d t) ds ts
  | _, _ => S
theorem putAll_snoc : ∀ (ds : List (Option Nat)) (ts : List Tree) (S : St) (d : Option Nat) (t : Tree), ds.length = ts.length → putAll S (ds ++ [d]) (ts ++ [t]) = (putAll S ds ts).put d t
  | [], [], S, d, t, _ => rfl
  | _ :: ds, _ :: ts, S, d, t, h => putAll_snoc ds ts _ d t (by simpa using h)
theorem putAll_mem : ∀ (ds : List (Option Nat)) (ts : List Tree) (S : St), (putAll S ds ts).bs = S.bs ∧ (putAll S ds ts).rs = S.rs ∧ (putAll S ds ts).n = S.n
  | [], _, S => ⟨rfl, rfl, rfl⟩
  | _ :: _, [], S => ⟨rfl, rfl, rfl⟩
  | d :: ds, t :: ts, S => by
    have := putAll_mem ds ts (S.put d t)
    rw [St.put_bs, St.put_rs, St.put_n] at this
    exact this
theorem putAll_out : ∀ (ds : List (Option Nat)) (ts : List Tree) (S : St) (s : Nat), ds.contains (some s) = false → (putAll S ds ts).get s = S.get s
  | [], _, S, s, _ => rfl
  | _ :: _, [], S, s, _ => rfl
  | d :: ds, t :: ts, S, s, h => by
    simp only [List.contains_cons, Bool.or_eq_false_iff] at h
    have := putAll_out ds ts (S.put d t) s h.2
    rw [St.put_get, if_neg (fun e => by rw [e] at h; simp at h)] at this
    exact this
theorem putAll_at : ∀ (ds : List (Option Nat)) (ts : List Tree) (S : St) (n j s : Nat) (t : Tree), apartL n ds = true → ds[j]? = some (some s) → ts[j]? = some t → (putAll S ds ts).get s = t
  | [], _, S, n, j, s, t, _, h, _ => by simp at h
  | _ :: _, [], S, n, j, s, t, _, _, h => by simp at h
  | d :: ds, x :: ts, S, n, 0, s, t, ha, h, h' => by
    simp only [List.getElem?_cons_zero, Option.some.injEq] at h h'
    subst h h'
    simp only [apartL, Bool.and_eq_true, Bool.not_eq_true'] at ha
    show (putAll (S.put (some s) x) ds ts).get s = x
    rw [putAll_out ds ts _ s ha.1.1, St.put_get, if_pos rfl]
  | d :: ds, x :: ts, S, n, j + 1, s, t, ha, h, h' => by
    have ha' : apartL n ds = true := by
      cases d with
      | none => exact ha
      | some _ => simp only [apartL, Bool.and_eq_true] at ha; exact ha.2
    exact putAll_at ds ts (S.put d x) n j s t ha' (by simpa using h) (by simpa using h')
theorem Chain.length {ops : Array Oper} {dsts : List (Option Nat)} {n i : Nat} {S : St} {os : List Oper} {ts : List Tree} (h : Chain ops dsts n i S os ts) : os.length = ts.length := by induction h <;> simp_all
theorem apartL_uniq : ∀ {n : Nat} {ds : List (Option Nat)} {j j' s : Nat}, apartL n ds = true → ds[j]? = some (some s) → ds[j']? = some (some s) → j = j'
  | _, [], j, _, _, _, h, _ => by simp at h
  | n, d :: ds, 0, 0, s, _, _, _ => rfl
  | n, d :: ds, 0, j' + 1, s, ha, h, h' => by
    simp only [List.getElem?_cons_zero, Option.some.injEq] at h
    subst h
    simp only [apartL, Bool.and_eq_true, Bool.not_eq_true'] at ha
    have hm := List.mem_of_getElem? (i := j') (by simpa using h' : ds[j']? = some (some s))
    have := List.contains_iff_mem.2 hm
    rw [ha.1.1] at this; cases this
  | n, d :: ds, j + 1, 0, s, ha, h, h' => by
    simp only [List.getElem?_cons_zero, Option.some.injEq] at h'
    subst h'
    simp only [apartL, Bool.and_eq_true, Bool.not_eq_true'] at ha
    have hm := List.mem_of_getElem? (i := j) (by simpa using h : ds[j]? = some (some s))
    have := List.contains_iff_mem.2 hm
    rw [ha.1.1] at this; cases this
  | n, d :: ds, j + 1, j' + 1, s, ha, h, h' => by
    have ha' : apartL n ds = true := by
      cases d with
      | none => exact ha
      | some _ => simp only [apartL, Bool.and_eq_true] at ha; exact ha.2
    rw [apartL_uniq ha' (by simpa using h : ds[j]? = _) (by simpa using h' : ds[j']? = _)]
section
variable {w0 : World} {G0 : Bse} {Q : Exit → St → Prop} {S : St}
def RT (G0 : Bse) (bx : List Nat) (rv : List Value) (rs : List (Option Row)) (ts : List Tree) (j : Nat) (v : Value) (W : World) : Prop := FT (en W G0 bx rv rs) [v] [ts.getD j .any]
def WT (w0 w : World) (G0 : Bse) (S : St) (bx : List Nat) (rv : List Value) (W : World) : Prop := Mem w0 G0 S.bs S.rs bx rv W ∧ Below w.heap.size w W
theorem chain_steps {ops : Array Oper} {dsts : List (Option Nat)} {n : Nat} {a : Act} {w : World} {bx : List Nat} {rv : List Value} (hap : apartL a.tmps.size dsts = true) (hdep : depsOk ops dsts n = true) (hdo : ops.toList.map (·.dst) = dsts) (hsl : ∀ i, FT (en w G0 bx rv S.rs) [a.tmps.getD i undef] [S.get i]) (ts : List Tree) :
    ∀ (os : List Oper) (i : Nat) (us : List Tree) (S' : St), Chain ops dsts n i S' os us → (∀ (k : Nat) (o : Oper), os[k]? = some o → ops[i + k]? = some o) → us = ts.drop i → S' = putAll S (dsts.take i) (ts.take i) → i + os.length ≤ ops.size → i ≤ ts.length → StepsT Tryz.prog ops dsts a.tmps (RT G0 bx rv S.rs ts) (fun _ => none) (WT w0 w G0 S bx rv) (fun _ W W' => Below W.heap.size W W') i os
  | [], i, us, S', h, _, _, _, _, _ => trivial
  | o :: os, i, us, S', h, hops, hus, hS', hlen, hle => by
    have hoi : ops[i]? = some o := hops 0 o rfl
    have hil : i < ops.size := by simp only [List.length_cons] at hlen; omega
    have hdl : dsts.length = ops.size := by rw [← hdo]; simp
    have hdi : dsts[i]? = some o.dst := by
      rw [← hdo, List.getElem?_map]
      simp only [Array.getElem?_toList, hoi, Option.map_some]
    have hmem := putAll_mem (dsts.take i) (ts.take i) S
    rw [← hS'] at hmem
    have hnext : ∀ t us', us = t :: us' → us' = ts.drop (i + 1) ∧ ts[i]? = some t ∧ S'.put o.dst t = putAll S (dsts.take (i + 1)) (ts.take (i + 1)) ∧ i + 1 ≤ ts.length := fun t us' e => by
      have h1 : ts.drop i = t :: us' := by rw [← hus, e]
      have hlt : i < ts.length := by
        rcases Nat.lt_or_ge i ts.length with h | h
        · exact h
        · rw [List.drop_of_length_le h] at h1; cases h1
      rw [List.drop_eq_getElem_cons hlt] at h1
      injection h1 with h2 h3
      refine ⟨h3.symm, by rw [List.getElem?_eq_getElem hlt, h2], ?_, hlt⟩
      obtain ⟨hdlt, hdge⟩ := List.getElem?_eq_some_iff.1 hdi
      rw [List.take_succ_eq_append_getElem hdlt, List.take_succ_eq_append_getElem hlt, putAll_snoc _ _ _ _ _ (by simp only [List.length_take]; omega), hdge, h2, hS']
    have hget : ∀ s, (∀ j, dsts[j]? = some (some s) → i ≤ j) → S'.get s = S.get s := fun s hs => by
      rw [hS']
      refine putAll_out _ _ _ s ?_
      cases hc : (dsts.take i).contains (some s) with
      | false => rfl
      | true =>
        obtain ⟨j, hj, hje⟩ := List.getElem_of_mem (List.contains_iff_mem.1 hc)
        have h1 : (dsts.take i)[j]? = some (some s) := by rw [List.getElem?_eq_getElem hj, hje]
        obtain ⟨h2, h3⟩ := take_get h1
        have := hs j h3
        omega
    have hgetj : ∀ s j, dsts[j]? = some (some s) → j < i → ∃ t, ts[j]? = some t ∧ S'.get s = t := fun s j hj hji => by
      have hjl : j < ts.length := by omega
      refine ⟨ts[j], List.getElem?_eq_getElem hjl, ?_⟩
      rw [hS']
      have hap' := apartL_take i hap
      exact putAll_at _ _ S a.tmps.size j s _ hap' (get_take hj hji) (get_take (List.getElem?_eq_getElem hjl) hji)
    have hargs : ∀ (T : Nat → Value) (W : World), Given ops dsts a.tmps (RT G0 bx rv S.rs ts) (fun _ => none) (WT w0 w G0 S bx rv) i T W → ∀ s, (opSlots o.op).contains s = true → FT (en W G0 bx rv S'.rs) [T s] [S'.get s] := fun T W hG s hs => by
      rw [hmem.2.1]
      have hd : depOk ops dsts n i s = true := by
        have h1 := List.all_eq_true.1 hdep i (List.mem_range.2 hil)
        simp only [hoi] at h1
        exact List.all_eq_true.1 h1 s (List.contains_iff_mem.1 hs)
      unfold depOk at hd
      cases hx : posOf s dsts with
      | none =>
        have hnot := posOf_none hx
        rw [hG.keep s hnot, hget s (fun j hj => by
          have := List.contains_iff_mem.2 (List.mem_of_getElem? hj)
          rw [hnot] at this; cases this)]
        exact (hsl s).later hG.wi.2
      | some j =>
        have hj := posOf_some hx
        simp only [hx] at hd
        split at hd
        · next hlt =>
          obtain ⟨t, ht, he⟩ := hgetj s j hj hlt
          have := hG.fact n j s (by simp only [Bool.and_eq_true, bne_iff_ne, beq_iff_eq]; exact ⟨⟨⟨by omega, hd⟩, rfl⟩, hj⟩)
          unfold RT at this
          rw [List.getD_eq_getElem?_getD, ht, Option.getD_some] at this
          rw [he]; exact this
        · next hge =>
          rw [hG.old n j s (by simp only [Bool.and_eq_true, beq_iff_eq]; exact ⟨hd, hj⟩), hget s (fun j' hj' => by
            rw [apartL_uniq hap hj' hj]; omega)]
          exact (hsl s).later hG.wi.2
    have hops' : ∀ (k : Nat) (o : Oper), os[k]? = some o → ops[i + 1 + k]? = some o := fun k x hx => by have := hops (k + 1) x (by simpa using hx); rw [show i + 1 + k = i + (k + 1) by omega, this]
    have hlen' : i + 1 + os.length ≤ ops.size := by simp only [List.length_cons] at hlen; omega
    have hrun : ∀ t, OpOK o S' t → ts[i]? = some t → ∀ (T : Nat → Value) (W : World), Given ops dsts a.tmps (RT G0 bx rv S.rs ts) (fun _ => none) (WT w0 w G0 S bx rv) i T W → OpRuns Tryz.prog o T W fun v W' => RT G0 bx rv S.rs ts i v W' ∧ Below W.heap.size W W' := fun t hok ht T W hG => by
      have := hok w0 G0 bx rv W T (by rw [hmem.1, hmem.2.1]; exact hG.wi.1) (hargs T W hG)
      rw [hmem.2.1] at this
      unfold RT
      rw [List.getD_eq_getElem?_getD, ht, Option.getD_some]
      exact this
    have hguard : ∀ j s gv, (j != i && reach ops n i j && decide (j < i) && dsts[j]? == some (some s)) = true → S'.get s = .sc gv → (j != i && reach ops n i j && (none : Option Nat) == none && dsts[j]? == some (some s)) = true ∧ ∀ v W, RT G0 bx rv S.rs ts j v W → v = gv := fun j s gv hj hS => by
      simp only [Bool.and_eq_true, bne_iff_ne, beq_iff_eq, decide_eq_true_eq] at hj ⊢
      obtain ⟨⟨⟨h1, h2⟩, h3⟩, h4⟩ := hj
      refine ⟨⟨⟨⟨h1, h2⟩, trivial⟩, h4⟩, fun v W hv => ?_⟩
      obtain ⟨t, ht, he⟩ := hgetj s j h4 h3
      unfold RT at hv
      rw [List.getD_eq_getElem?_getD, ht, Option.getD_some, ← he, hS] at hv
      exact hv.isSc
    cases h with
    | @op _ _ _ _ t ts' hg hok hs =>
      obtain ⟨e1, e2, e3, e4⟩ := hnext t ts' rfl
      exact .cons (by rw [hg]; trivial) (hrun t hok e2) (chain_steps hap hdep hdo hsl ts os (i + 1) ts' _ hs hops' e1 e3 hlen' e4)
    | @cnd _ _ _ _ t ts' j b s C _ hg hj hG hok hs =>
      obtain ⟨gv, hS, hC⟩ := hG
      obtain ⟨e1, e2, e3, e4⟩ := hnext _ ts' rfl
      obtain ⟨g1, g2⟩ := hguard j s gv hj hS
      by_cases hc : C
      · rw [if_pos hc] at e2
        exact .cons (by rw [hg]; exact ⟨n, s, g1, fun v W hv => (g2 v W hv).trans (hC.1 hc)⟩) (hrun t (hok hc) e2) (chain_steps hap hdep hdo hsl ts os (i + 1) ts' _ hs hops' e1 e3 hlen' e4)
      · rw [if_neg hc] at e2
        refine .skip n s hg g1 (fun v W hv e => hc (hC.2 ((g2 v W hv).symm.trans e))) (fun W => ?_) (chain_steps hap hdep hdo hsl ts os (i + 1) ts' _ hs hops' e1 e3 hlen' e4)
        unfold RT
        rw [List.getD_eq_getElem?_getD, e2, Option.getD_some]
        exact .pure (.sc _ .nil) .nil
theorem updO_getD {a : Act} {dsts : List (Option Nat)} {us : List Value} (hap : apartL a.tmps.size dsts = true) (hl : us.length = dsts.length) (s : Nat) : (updO a.tmps (dsts.zip us)).getD s undef = match posOf s dsts with | none => a.tmps.getD s undef | some j => us.getD j undef := by
  cases hx : posOf s dsts with
  | none => exact updO_keep dsts us _ s (posOf_none hx)
  | some j => exact (updO_get dsts us _ j s hap hl (posOf_some hx)).1
theorem sim_all {a : Act} {W : World} {bx : List Nat} {rv : List Value} {dsts : List (Option Nat)} {us : List Value} {ts : List Tree} (hap : apartL S.n dsts = true) (hn : a.tmps.size = S.n) (hdf : a.defers = []) (hul : us.length = dsts.length) (htl : ts.length = dsts.length) (hm : Mem w0 G0 S.bs S.rs bx rv W) (hsl : ∀ i, FT (en W G0 bx rv S.rs) [a.tmps.getD i undef] [S.get i]) (hR : ∀ j, j < dsts.length → RT G0 bx rv S.rs ts j (us.getD j undef) W) : Sim w0 G0 (putAll S dsts ts) ⟨updO a.tmps (dsts.zip us), a.defers⟩ W := by
  have hmem := putAll_mem dsts ts S
  refine ⟨bx, rv, by rw [hmem.1, hmem.2.1]; exact hm, by rw [hmem.2.2, updO_size]; exact hn, hdf, fun i => ?_⟩
  rw [hmem.2.1]
  show FT _ [(updO a.tmps (dsts.zip us)).getD i undef] _
  rw [updO_getD (by rw [hn]; exact hap) hul]
  cases hx : posOf i dsts with
  | none => rw [putAll_out dsts ts S i (posOf_none hx)]; exact hsl i
  | some j =>
    have hj := posOf_some hx
    have hjl := (List.getElem?_eq_some_iff.1 hj).1
    have := hR j hjl
    unfold RT at this
    have hjt : j < ts.length := by omega
    have e : ts.getD j .any = ts[j] := by rw [List.getD_eq_getElem?_getD, List.getElem?_eq_getElem hjt, Option.getD_some]
    rw [e] at this
    rw [putAll_at dsts ts S S.n j i _ hap hj (List.getElem?_eq_getElem hjt)]
    exact this
theorem AWP.draw {id n : Nat} {ops : List Oper} {dsts : List (Option Nat)} {ts : List Tree} (hac : acyclic ops.toArray = true) (hd : ops.map (·.dst) = dsts) (hap : apartL S.n dsts = true) (hdep : depsOk ops.toArray dsts n = true) (hch : Chain ops.toArray dsts n 0 S ops ts) (k : Q .normal (putAll S dsts ts)) : AWP w0 G0 (.region id ops.toArray true) Q S := by
  rintro a w ⟨bx, rv, hm, hn, hdf, hsl⟩
  have hdl : dsts.length = ops.length := by rw [← hd]; simp
  have hst := chain_steps (w0 := w0) (G0 := G0) (S := S) (w := w) (bx := bx) (rv := rv) (a := a) (by rw [hn]; exact hap) hdep (by simpa using hd) hsl ts ops 0 ts S hch (fun k o ho => by simpa using ho) rfl rfl (by simp) (Nat.zero_le _)
  refine wp_region_cond dsts (RT G0 bx rv S.rs ts) (fun _ => none) (WT w0 w G0 S bx rv) (fun _ W W' => Below W.heap.size W W') (by kernel_rfl) hac (by simpa using hd) (by rw [hn]; exact hap)
    (fun _ W W' h1 h2 => ⟨h1.1.later h2, h1.2.trans (h2.mono h1.2.size)⟩) (fun _ j v W W' _ _ hR hE => FT.later hR hE) ⟨hm.later (Below.refl _ _).drew, (Below.refl _ _).drew⟩ (by simpa using hst) ?_
  intro us W hul hR hW
  exact ⟨_, k, sim_all hap hn hdf hul (by rw [hdl]; exact hch.length.symm) hW.1 (fun i => (hsl i).later hW.2) (fun j hj => hR j (by simp; omega) rfl)⟩
end
end Go.Proofs.YtpinhcdcnaaihaaGreatDoor
