import Derived.Test.YtpinhcdcnaaihaaGreatDoorA08
namespace Go.Proofs.YtpinhcdcnaaihaaGreatDoor
open Go.RowKit
structure Cfg where
  on : List Nat
  sl : List (Nat × Tree)
  bs : List (TypeId × List Tree)
  rs : List (Option Row)
  ts : List Tree
def frG (dsts : List (Option Nat)) (c : Cfg) (L : Nat → Bool) (s : Nat) : Tree :=
  match posOf s dsts with
  | none => look c.sl s
  | some j => cond (L j) (c.ts.getD j .any) (look c.sl s)
def pickA (dsts : List (Option Nat)) (ts : List Tree) (sl : List (Nat × Tree)) : List Nat → List (Nat × Tree)
  | [] => sl
  | j :: js => match dsts[j]? with
    | some (some d) => (d, ts.getD j .any) :: pickA dsts ts sl js
    | _ => pickA dsts ts sl js
theorem pickA_out {dsts : List (Option Nat)} {ts : List Tree} {sl : List (Nat × Tree)} {s : Nat} (h : posOf s dsts = none) : ∀ anc, look (pickA dsts ts sl anc) s = look sl s
  | [] => rfl
  | j :: js => by
    simp only [pickA]
    split
    · next d hd =>
      rw [look_cons, if_neg, pickA_out h js]
      rintro rfl
      have := List.contains_iff_mem.2 (List.mem_of_getElem? hd)
      rw [posOf_none h] at this; cases this
    · exact pickA_out h js
theorem pickA_at {dsts : List (Option Nat)} {ts : List Tree} {sl : List (Nat × Tree)} {s j n : Nat} (ha : apartL n dsts = true) (h : posOf s dsts = some j) : ∀ anc, look (pickA dsts ts sl anc) s = if anc.contains j then ts.getD j .any else look sl s
  | [] => by simp [pickA]
  | i :: js => by
    have ih := pickA_at (ts := ts) (sl := sl) ha h js
    simp only [pickA]
    have hj := posOf_some h
    by_cases hi : i = j
    · subst hi
      simp only [hj, look_cons]
      simp
    · have hc : (i :: js).contains j = js.contains j := by
        rw [List.contains_cons, show (j == i) = false from beq_eq_false_iff_ne.2 fun e => hi e.symm, Bool.false_or]
      rw [hc]
      split
      · next d hd =>
        rw [look_cons, if_neg, ih]
        rintro rfl
        exact hi (apartL_uniq ha hd hj)
      · exact ih
def readOk (ops : Array Oper) (fu : Nat) (dsts : List (Option Nat)) (i : Nat) (anc : List Nat) (o : Oper) : Bool := (opSlots o.op).all fun s => match posOf s dsts with
  | none => true
  | some j => cond (anc.contains j) (!Nat.beq j i && reach ops fu i j) (Nat.beq j i || reach ops fu j i)
def stOk (ops : Array Oper) (fu : Nat) (ws : List Nat) (c : Cfg) (i : Nat) : Bool := !c.on.contains i && ws.all fun j => Nat.beq j i || cond (reach ops fu i j) (c.on.contains j) (cond (reach ops fu j i) (!c.on.contains j) true)
def OnOK (ws : List Nat) (c : Cfg) (L : Nat → Bool) : Prop := (∀ j, ws.contains j = true → L j = c.on.contains j) ∧ ∀ j, c.on.contains j = true → ws.contains j = true
def WrOK (pn : Nat) (o : Oper) (S0 : St) (K : Tree → Tree) (tt : Tree) (bs' : List (TypeId × List Tree)) (rs' : List (Option Row)) : Prop := ∀ w0 (G0 : Bse) (S : St), G0.pn = pn → S.n = S0.n → S.bs = S0.bs → S.rs = S0.rs → (∀ s, (opSlots o.op).contains s = true → S0.get s = .any ∨ S.get s = S0.get s) →
  ∃ S', OpDo w0 G0 o S S' ∧ S'.n = S.n ∧ S'.bs = bs' ∧ S'.rs = rs' ∧ ∀ s, S'.get s = if o.dst = some s then tt else K (S.get s)
inductive TsK (ops : Array Oper) (fu i : Nat) (K : Tree → Tree) : Nat → List Tree → List Tree → Prop
  | nil {j : Nat} : TsK ops fu i K j [] []
  | k {j : Nat} {t t' : Tree} {ts ts' : List Tree} (h : t' = K t) (r : TsK ops fu i K (j + 1) ts ts') : TsK ops fu i K j (t :: ts) (t' :: ts')
  | a {j : Nat} {t t' : Tree} {ts ts' : List Tree} (h : t' = .any) (r : TsK ops fu i K (j + 1) ts ts') : TsK ops fu i K j (t :: ts) (t' :: ts')
  | i {j : Nat} {t t' : Tree} {ts ts' : List Tree} (h : j = i) (r : TsK ops fu i K (j + 1) ts ts') : TsK ops fu i K j (t :: ts) (t' :: ts')
  | d {j : Nat} {t t' : Tree} {ts ts' : List Tree} (h : reach ops fu j i = true) (r : TsK ops fu i K (j + 1) ts ts') : TsK ops fu i K j (t :: ts) (t' :: ts')
theorem TsK.at {ops : Array Oper} {fu i : Nat} {K : Tree → Tree} : ∀ {j : Nat} {ts ts' : List Tree}, TsK ops fu i K j ts ts' → ∀ q, ts'.getD q .any = K (ts.getD q .any) ∨ ts'.getD q .any = .any ∨ j + q = i ∨ reach ops fu (j + q) i = true
  | _, _, _, .nil, q => .inr (.inl (by simp))
  | _, _, _, .k h _, 0 => .inl (by simpa using h)
  | _, _, _, .a h _, 0 => .inr (.inl (by simpa using h))
  | _, _, _, .i h _, 0 => .inr (.inr (.inl h))
  | _, _, _, .d h _, 0 => .inr (.inr (.inr h))
  | j, _, _, .k _ r, q + 1 => by have := r.at q; rw [show j + 1 + q = j + (q + 1) by omega] at this; simpa using this
  | j, _, _, .a _ r, q + 1 => by have := r.at q; rw [show j + 1 + q = j + (q + 1) by omega] at this; simpa using this
  | j, _, _, .i _ r, q + 1 => by have := r.at q; rw [show j + 1 + q = j + (q + 1) by omega] at this; simpa using this
  | j, _, _, .d _ r, q + 1 => by have := r.at q; rw [show j + 1 + q = j + (q + 1) by omega] at this; simpa using this
def onB (i : Nat) (on on' : List Nat) : Bool := on'.contains i && (on.all fun j => on'.contains j) && on'.all fun j => j == i || on.contains j
theorem onB_eq {i : Nat} {on on' : List Nat} (h : onB i on on' = true) (j : Nat) : on'.contains j = (j == i || on.contains j) := by
  simp only [onB, Bool.and_eq_true] at h
  obtain ⟨⟨h1, h2⟩, h3⟩ := h
  cases hc : on'.contains j with
  | true => exact (List.all_eq_true.1 h3 j (List.contains_iff_mem.1 hc)).symm
  | false =>
    symm
    rw [Bool.or_eq_false_iff]
    constructor
    · cases hj : j == i with
      | false => rfl
      | true => rw [beq_iff_eq.1 hj, h1] at hc; cases hc
    · cases hj : on.contains j with
      | false => rfl
      | true =>
        have := List.all_eq_true.1 h2 j (List.contains_iff_mem.1 hj)
        rw [this] at hc; cases hc
theorem TsK.ks {ops : Array Oper} {fu i : Nat} {K : Tree → Tree} : ∀ (m : Nat) {j : Nat} {ts ts' : List Tree} (_ : ts'.take m = (ts.take m).map K) (_ : TsK ops fu i K (j + m) (ts.drop m) (ts'.drop m)), TsK ops fu i K j ts ts'
  | 0, _, _, _, _, r => r
  | m + 1, j, [], [], _, _ => .nil
  | m + 1, j, [], _ :: _, h, _ => by cases h
  | m + 1, j, _ :: _, [], h, _ => by cases h
  | m + 1, j, t :: ts, t' :: ts', h, r => by
    rw [List.take_succ_cons, List.take_succ_cons, List.map_cons] at h
    injection h with h1 h2
    refine .k h1 (TsK.ks m h2 ?_)
    rw [Nat.add_right_comm, Nat.add_assoc]
    exact r
inductive OpC (pn : Nat) (ops : Array Oper) (fu n : Nat) (dsts : List (Option Nat)) (ws : List Nat) (Cs : List Cfg) (i : Nat) (o : Oper) (anc : List Nat) : List Cfg → Prop
  | nil : OpC pn ops fu n dsts ws Cs i o anc []
  | no {c : Cfg} {cs : List Cfg} (h : stOk ops fu ws c i = false) (r : OpC pn ops fu n dsts ws Cs i o anc cs) : OpC pn ops fu n dsts ws Cs i o anc (c :: cs)
  | ok {c : Cfg} {cs : List Cfg} {t : Tree} (hw : ws.contains i = false) (ht : c.ts[i]? = some t) (hg : o.guard = none) (h : OpOK o ⟨n, pickA dsts c.ts c.sl anc, c.bs, c.rs⟩ t) (r : OpC pn ops fu n dsts ws Cs i o anc cs) : OpC pn ops fu n dsts ws Cs i o anc (c :: cs)
  | cnd {c : Cfg} {cs : List Cfg} {t : Tree} (j : Nat) (b : Bool) (gs d : Nat) (C : Prop) [Decidable C] (hw : ws.contains i = false) (hg : o.guard = some (j, b)) (hj : (ops[j]?).bind (·.dst) = some gs) (hgs : Nat.blt gs n = true) (hp : posOf gs dsts = some j) (ha : anc.contains j = true) (hr : (!Nat.beq j i && reach ops fu i j) = true) (hG : ∃ gv, look (pickA dsts c.ts c.sl anc) gs = .sc gv ∧ (C ↔ gv = .bool b)) (hd : o.dst = some d) (hdn : Nat.blt d n = true) (ht : c.ts[i]? = some (if C then t else .sc undef)) (h : C → OpOK o ⟨n, pickA dsts c.ts c.sl anc, c.bs, c.rs⟩ t) (r : OpC pn ops fu n dsts ws Cs i o anc cs) : OpC pn ops fu n dsts ws Cs i o anc (c :: cs)
  | wr {c : Cfg} {cs : List Cfg} (m : Nat) {c' : Cfg} (K : Tree → Tree) (tt : Tree) (hw : ws.contains i = true) (hm : Cs[m]? = some c') (hg : o.guard = none) (h : WrOK pn o ⟨n, pickA dsts c.ts c.sl anc, c.bs, c.rs⟩ K tt c'.bs c'.rs) (hon : onB i c.on c'.on = true) (hK : K .any = .any) (hsl : c.sl.map (fun p => (p.1, K p.2)) = c'.sl) (hti : c'.ts[i]? = some tt) (hts : TsK ops fu i K 0 c.ts c'.ts) (r : OpC pn ops fu n dsts ws Cs i o anc cs) : OpC pn ops fu n dsts ws Cs i o anc (c :: cs)
inductive StepsW (pn : Nat) (ops : Array Oper) (fu n : Nat) (dsts : List (Option Nat)) (ws : List Nat) (Cs : List Cfg) : Nat → List Oper → Prop
  | nil {i : Nat} : StepsW pn ops fu n dsts ws Cs i []
  | op {i : Nat} {o : Oper} {os : List Oper} (anc : List Nat) (hr : readOk ops fu dsts i anc o = true) (h : OpC pn ops fu n dsts ws Cs i o anc Cs) (r : StepsW pn ops fu n dsts ws Cs (i + 1) os) : StepsW pn ops fu n dsts ws Cs i (o :: os)
theorem OpC.nos {pn : Nat} {ops : Array Oper} {fu n : Nat} {dsts : List (Option Nat)} {ws : List Nat} {Cs : List Cfg} {i : Nat} {o : Oper} {anc : List Nat} : ∀ {cs : List Cfg} (k : Nat) (_ : OpC pn ops fu n dsts ws Cs i o anc (cs.drop k)) (_ : ((cs.take k).all fun c => !stOk ops fu ws c i) = true := by kernel_rfl), OpC pn ops fu n dsts ws Cs i o anc cs
  | [], k, r, _ => by rwa [List.drop_nil] at r
  | _ :: _, 0, r, _ => r
  | c :: cs, k + 1, r, h => by
    rw [List.take_succ_cons, List.all_cons, Bool.and_eq_true, Bool.not_eq_true'] at h
    exact .no h.1 (OpC.nos k r h.2)
theorem OpC.fin {pn : Nat} {ops : Array Oper} {fu n : Nat} {dsts : List (Option Nat)} {ws : List Nat} {Cs cs : List Cfg} {i : Nat} {o : Oper} {anc : List Nat} (h : (cs.all fun c => !stOk ops fu ws c i) = true := by kernel_rfl) : OpC pn ops fu n dsts ws Cs i o anc cs :=
  OpC.nos cs.length (by rw [List.drop_length]; exact .nil) (by rw [List.take_length]; exact h)
theorem OpC.okk {pn : Nat} {ops : Array Oper} {fu n : Nat} {dsts : List (Option Nat)} {ws : List Nat} {Cs cs : List Cfg} {c : Cfg} {i : Nat} {o : Oper} {anc : List Nat} {t : Tree} (ht : c.ts[i]? = some t) (h : OpOK o ⟨n, pickA dsts c.ts c.sl anc, c.bs, c.rs⟩ t) (r : OpC pn ops fu n dsts ws Cs i o anc cs) (hw : (!ws.contains i && o.guard.isNone) = true := by kernel_rfl) : OpC pn ops fu n dsts ws Cs i o anc (c :: cs) := by
  rw [Bool.and_eq_true, Bool.not_eq_true', Option.isNone_iff_eq_none] at hw
  exact .ok hw.1 ht hw.2 h r
theorem StepsW.opp {pn : Nat} {ops : Array Oper} {fu n : Nat} {dsts : List (Option Nat)} {ws : List Nat} {Cs : List Cfg} {i : Nat} {o : Oper} {os : List Oper} (anc : List Nat) (h : OpC pn ops fu n dsts ws Cs i o anc Cs) (r : StepsW pn ops fu n dsts ws Cs (i + 1) os) (hr : readOk ops fu dsts i anc o = true := by kernel_rfl) : StepsW pn ops fu n dsts ws Cs i (o :: os) := .op anc hr h r
def SSW (n : Nat) (dsts : List (Option Nat)) (ws : List Nat) (Cs : List Cfg) (L : Nat → Bool) (S : St) : Prop := ∃ c, c ∈ Cs ∧ OnOK ws c L ∧ S.n = n ∧ S.bs = c.bs ∧ S.rs = c.rs ∧ ∀ s, frG dsts c L s = .any ∨ S.get s = frG dsts c L s
section
variable {w0 : World} {G0 : Bse} {Q : Exit → St → Prop} {S : St} {ops : Array Oper} {fu n : Nat} {dsts : List (Option Nat)} {ws : List Nat} {Cs : List Cfg} {o : Oper}
theorem OpOK.up {S S' : St} {t : Tree} (h : OpOK o S t) (hb : S'.bs = S.bs) (hr : S'.rs = S.rs) (hs : ∀ s, (opSlots o.op).contains s = true → S.get s = .any ∨ S'.get s = S.get s) : OpOK o S' t := by
  intro w0 G0 bx rv w T hm hT
  rw [hb, hr] at hm
  rw [hr] at hT ⊢
  refine h w0 G0 bx rv w T hm fun s hc => ?_
  rcases hs s hc with h1 | h1
  · rw [h1]; exact .any _ .nil
  · rw [← h1]; exact hT s hc
theorem kn_le {c : Cfg} {L : Nat → Bool} {i : Nat} {anc : List Nat} (ha : apartL n dsts = true) (hr : readOk ops fu dsts i anc o = true) (hK : Kn ops L i) (hS : ∀ s, frG dsts c L s = .any ∨ S.get s = frG dsts c L s) (s : Nat) (hs : (opSlots o.op).contains s = true) : (⟨n, pickA dsts c.ts c.sl anc, c.bs, c.rs⟩ : St).get s = .any ∨ S.get s = (⟨n, pickA dsts c.ts c.sl anc, c.bs, c.rs⟩ : St).get s := by
  have h1 := List.all_eq_true.1 hr s (List.contains_iff_mem.1 hs)
  have h2 := hS s
  show look (pickA dsts c.ts c.sl anc) s = .any ∨ S.get s = look (pickA dsts c.ts c.sl anc) s
  unfold frG at h2
  cases hp : posOf s dsts with
  | none =>
    rw [hp] at h2
    rw [pickA_out hp]; exact h2
  | some j =>
    rw [hp] at h1 h2
    dsimp only at h1 h2
    rw [pickA_at ha hp]
    cases hc : anc.contains j with
    | true =>
      simp only [hc, cond_true] at h1
      simp only [Bool.and_eq_true, Bool.not_eq_true'] at h1
      have hL : L j = true := hK.up fu j (by rw [h1.1, h1.2]; rfl)
      simp only [hL, cond_true] at h2
      simpa using h2
    | false =>
      simp only [hc, cond_false, Bool.or_eq_true] at h1
      have hL : L j = false := by
        rcases h1 with h1 | h1
        · rw [Nat.eq_of_beq_eq_true h1]; exact hK.self
        · exact hK.down fu j h1
      simp only [hL, cond_false] at h2
      simpa using h2
theorem stOk_of {c : Cfg} {L : Nat → Bool} {i : Nat} (hon : OnOK ws c L) (hK : Kn ops L i) : stOk ops fu ws c i = true := by
  unfold stOk
  rw [Bool.and_eq_true]
  refine ⟨?_, List.all_eq_true.2 fun j hj => ?_⟩
  · cases hc : c.on.contains i with
    | false => rfl
    | true =>
      have := hon.1 i (hon.2 i hc)
      rw [hK.self, hc] at this; cases this
  · have hj' := List.contains_iff_mem.2 hj
    cases hb : Nat.beq j i with
    | true => rfl
    | false =>
      cases h1 : reach ops fu i j with
      | true =>
        have := hon.1 j hj'
        rw [hK.up fu j (by rw [hb, h1]; rfl)] at this
        rw [← this]; rfl
      | false =>
        cases h2 : reach ops fu j i with
        | true =>
          have := hon.1 j hj'
          rw [hK.down fu j h2] at this
          rw [← this]; rfl
        | false => rfl
theorem upL_self (L : Nat → Bool) (i : Nat) : upL L i i = true := by simp [upL]
theorem upL_ne {L : Nat → Bool} {i j : Nat} (h : j ≠ i) : upL L i j = L j := by
  unfold upL
  cases hb : Nat.beq j i with
  | true => exact absurd (Nat.eq_of_beq_eq_true hb) h
  | false => rfl
theorem AOps.cS {ops : Array Oper} {rest : List Oper} {d j s : Nat} {t : Tree} {b : Bool} (C : Prop) [Decidable C] (hg : o.guard = some (j, b)) (hj : (ops[j]?).bind (·.dst) = some s) (hs : Nat.blt s S.n = true) (hG : ∃ gv, S.get s = .sc gv ∧ (C ↔ gv = .bool b)) (hd : o.dst = some d) (hn : Nat.blt d S.n = true) (h : C → OpOK o S t)
    (k : AOps w0 G0 ops rest Q (S.put o.dst (if C then t else .sc undef))) : AOps w0 G0 ops (o :: rest) Q S := by
  obtain ⟨n, sl, bs, rs⟩ := S
  rw [hd] at k
  exact AOps.c C hg hj hs hG hd hn h k
theorem opC_step (ha : apartL n dsts = true) {i : Nat} {anc : List Nat} (hdi : dsts[i]? = some o.dst) (hr : readOk ops fu dsts i anc o = true) {L : Nat → Bool} (hK : Kn ops L i) (hS : SSW n dsts ws Cs L S) : ∀ {cs : List Cfg}, OpC G0.pn ops fu n dsts ws Cs i o anc cs → (∀ c, c ∈ Cs → c ∈ cs) → AOps w0 G0 ops [o] (fun e S' => e = .normal ∧ SSW n dsts ws Cs (upL L i) S') S := by
  obtain ⟨c, hc, hon, hn, hbs, hrs, hsl⟩ := hS
  have hdn : dstOk S.n o.dst = true := by
    cases hd : o.dst with
    | none => rfl
    | some d =>
      rw [hn]
      rw [hd] at hdi
      clear hr hon hsl hK hc
      induction dsts generalizing i with
      | nil => simp at hdi
      | cons x xs ih =>
        cases i with
        | zero =>
          simp only [List.getElem?_cons_zero, Option.some.injEq] at hdi
          subst hdi
          simp only [apartL, Bool.and_eq_true] at ha
          simpa [dstOk] using ha.1.2
        | succ i =>
          refine ih ?_ (by simpa using hdi)
          cases x with
          | none => exact ha
          | some _ => simp only [apartL, Bool.and_eq_true] at ha; exact ha.2
  have fin : ∀ t, ws.contains i = false → c.ts[i]? = some t → SSW n dsts ws Cs (upL L i) (S.put o.dst t) := fun t hw ht => by
    refine ⟨c, hc, ⟨fun j hj => ?_, hon.2⟩, by rw [St.put_n]; exact hn, by rw [St.put_bs]; exact hbs, by rw [St.put_rs]; exact hrs, fun s => ?_⟩
    · rw [upL_ne (fun e => by rw [e, hw] at hj; cases hj)]
      exact hon.1 j hj
    · rw [St.put_get]
      have h2 := hsl s
      unfold frG at h2 ⊢
      cases hp : posOf s dsts with
      | none =>
        rw [hp] at h2
        have : o.dst ≠ some s := fun e => by
          rw [e] at hdi
          have := List.contains_iff_mem.2 (List.mem_of_getElem? hdi)
          rw [posOf_none hp] at this; cases this
        rw [if_neg this]; exact h2
      | some j =>
        rw [hp] at h2
        dsimp only at h2 ⊢
        have hj := posOf_some hp
        by_cases hji : j = i
        · subst hji
          rw [hj] at hdi
          injection hdi with hdi
          rw [if_pos hdi.symm, upL_self]
          right
          simp [List.getD_eq_getElem?_getD, ht]
        · rw [upL_ne hji, if_neg (fun e => hji (by rw [e] at hdi; exact apartL_uniq ha hj hdi))]
          exact h2
  have key : ∀ {cs : List Cfg}, OpC G0.pn ops fu n dsts ws Cs i o anc cs → c ∈ cs → AOps w0 G0 ops [o] (fun e S' => e = .normal ∧ SSW n dsts ws Cs (upL L i) S') S := by
    intro cs h hm
    induction h with
    | nil => cases hm
    | @no c1 cs h _ ih =>
      rcases List.mem_cons.1 hm with rfl | hm
      · rw [stOk_of hon hK] at h; cases h
      · exact ih hm
    | @ok c1 cs t hw ht hg h _ ih =>
      rcases List.mem_cons.1 hm with rfl | hm
      · have hok : OpOK o S t := h.up hbs hrs (kn_le ha hr hK hsl)
        exact AOps.ok hg hdn hok (AOps.nil ⟨rfl, fin t hw ht⟩)
      · exact ih hm
    | @cnd c1 cs t j b gs d C dC hw hg hj hgs hp hanc hre hG hd hdl ht h _ ih =>
      rcases List.mem_cons.1 hm with rfl | hm
      · obtain ⟨gv, hG1, hG2⟩ := hG
        have hL : L j = true := hK.up fu j hre
        have hSg : S.get gs = .sc gv := by
          have h2 := hsl gs
          unfold frG at h2
          rw [hp] at h2
          dsimp only at h2
          rw [hL, cond_true] at h2
          rw [pickA_at ha hp, if_pos hanc] at hG1
          rcases h2 with h2 | h2
          · rw [h2] at hG1; cases hG1
          · rw [h2]; exact hG1
        exact AOps.cS C hg hj (by rw [hn]; exact hgs) ⟨gv, hSg, hG2⟩ hd (by rw [hn]; exact hdl) (fun hC => (h hC).up hbs hrs (kn_le ha hr hK hsl)) (AOps.nil ⟨rfl, fin _ hw ht⟩)
      · exact ih hm
    | @wr c1 cs m c' K tt hw hm' hg h hon' hKa hsl' hti hts _ ih =>
      rcases List.mem_cons.1 hm with rfl | hm
      · obtain ⟨S', hdo, e1, e2, e3, e4⟩ := h w0 G0 S rfl hn hbs hrs (kn_le ha hr hK hsl)
        refine AOps.turn hg hdo (AOps.nil ⟨rfl, c', List.mem_of_getElem? hm', ⟨fun j hj => ?_, fun j hj => ?_⟩, e1.trans hn, e2, e3, fun s => ?_⟩)
        · rw [onB_eq hon']
          by_cases hji : j = i
          · subst hji; rw [upL_self]; simp
          · rw [upL_ne hji, hon.1 j hj]
            have : (j == i) = false := beq_eq_false_iff_ne.2 hji
            rw [this]; rfl
        · rw [onB_eq hon', Bool.or_eq_true] at hj
          rcases hj with hj | hj
          · rw [beq_iff_eq.1 hj]; exact hw
          · exact hon.2 j hj
        · rw [e4]
          have h2 := hsl s
          have hlk : look c'.sl s = K (look c.sl s) := by rw [← hsl', look_map K hKa]
          unfold frG at h2 ⊢
          cases hp : posOf s dsts with
          | none =>
            rw [hp] at h2
            have : o.dst ≠ some s := fun e => by
              rw [e] at hdi
              have := List.contains_iff_mem.2 (List.mem_of_getElem? hdi)
              rw [posOf_none hp] at this; cases this
            simp only
            rw [if_neg this, hlk]
            rcases h2 with h2 | h2
            · simp only at h2; rw [h2]; exact .inl hKa
            · simp only at h2; rw [h2]; exact .inr rfl
          | some j =>
            rw [hp] at h2
            have hj := posOf_some hp
            dsimp only at h2 ⊢
            by_cases hji : j = i
            · subst hji
              rw [hj] at hdi
              injection hdi with hdi
              rw [if_pos hdi.symm, upL_self, cond_true]
              right
              simp [List.getD_eq_getElem?_getD, hti]
            · rw [upL_ne hji, if_neg (fun e => hji (by rw [e] at hdi; exact apartL_uniq ha hj hdi))]
              cases hL : L j with
              | false =>
                rw [hL, cond_false] at h2
                rw [cond_false, hlk]
                rcases h2 with h2 | h2
                · rw [h2]; exact .inl hKa
                · rw [h2]; exact .inr rfl
              | true =>
                rw [hL, cond_true] at h2
                rw [cond_true]
                rcases hts.at j with h3 | h3 | h3 | h3
                · rw [h3]
                  rcases h2 with h2 | h2
                  · rw [h2]; exact .inl hKa
                  · rw [h2]; exact .inr rfl
                · exact .inl h3
                · exact absurd (by omega) hji
                · rw [Nat.zero_add] at h3
                  have := hK.down fu j h3
                  rw [hL] at this; cases this
      · exact ih hm
  intro cs h hall
  exact key h (hall c hc)
theorem StepsW.at (ha : apartL n dsts = true) (hd : ops.toList.map (·.dst) = dsts) : ∀ {os : List Oper} {i : Nat}, StepsW G0.pn ops fu n dsts ws Cs i os → (∀ (k : Nat) (o : Oper), os[k]? = some o → ops[i + k]? = some o) → ∀ (k : Nat) (o : Oper), os[k]? = some o → ∀ L, Kn ops L (i + k) → ∀ S, SSW n dsts ws Cs L S → AOps w0 G0 ops [o] (fun e S' => e = .normal ∧ SSW n dsts ws Cs (upL L (i + k)) S') S
  | _, _, .nil, _, k, o, h, _, _, _, _ => by simp at h
  | _, i, .op anc hr h _, hall, 0, o, ho, L, hK, S, hS => by
    have hoi := hall 0 o ho
    simp only [List.getElem?_cons_zero, Option.some.injEq] at ho
    subst ho
    refine opC_step ha ?_ hr hK hS h (fun _ h => h)
    rw [Nat.add_zero] at hoi
    rw [← hd, List.getElem?_map, Array.getElem?_toList, hoi]; rfl
  | _, i, .op _ _ _ r, hall, k + 1, o, ho, L, hK, S, hS => by
    have := r.at ha hd (fun q x hx => by have := hall (q + 1) x (by simpa using hx); rwa [show i + (q + 1) = i + 1 + q by omega] at this) k o (by simpa using ho) L (by rw [show i + 1 + k = i + (k + 1) by omega]; exact hK) S hS
    rw [show i + 1 + k = i + (k + 1) by omega] at this
    exact this
theorem Sim.leG {S' : St} {a : Act} {w : World} (h : Sim w0 G0 S a w) (hn : S'.n = S.n) (hb : S'.bs = S.bs) (hr : S'.rs = S.rs) (hs : ∀ s, S'.get s = .any ∨ S'.get s = S.get s) : Sim w0 G0 S' a w := by
  obtain ⟨bx, rv, hm, hsz, hdf, hsl⟩ := h
  refine ⟨bx, rv, by rw [hb, hr]; exact hm, by rw [hn]; exact hsz, hdf, fun i => ?_⟩
  rw [hr]
  rcases hs i with h1 | h1
  · rw [h1]; exact .any _ .nil
  · rw [h1]; exact hsl i
theorem putSl_out {s : Nat} : ∀ (ds : List (Option Nat)) (ts : List Tree) (sl : List (Nat × Tree)), posOf s ds = none → look (putSl sl ds ts) s = look sl s
  | [], ts, sl, _ => by cases sl <;> rfl
  | some d :: ds, [], sl, _ => rfl
  | none :: ds, [], sl, _ => rfl
  | some d :: ds, t :: ts, sl, h => by
    simp only [posOf] at h
    split at h
    · cases h
    · next hne =>
      simp only [Option.map_eq_none_iff] at h
      simp only [putSl]
      rw [putSl_out ds ts _ h, look_cons, if_neg (fun e => hne (by rw [e]))]
  | none :: ds, t :: ts, sl, h => by
    simp only [posOf] at h
    split at h
    · cases h
    · simp only [Option.map_eq_none_iff] at h
      simp only [putSl]
      exact putSl_out ds ts _ h
theorem putSl_at {s n : Nat} : ∀ (ds : List (Option Nat)) (ts : List Tree) (sl : List (Nat × Tree)) (j : Nat), apartL n ds = true → ds.length = ts.length → posOf s ds = some j → look (putSl sl ds ts) s = ts.getD j .any
  | [], ts, sl, j, _, _, h => by simp [posOf] at h
  | some d :: ds, [], sl, j, _, hl, _ => by simp at hl
  | none :: ds, [], sl, j, _, hl, _ => by simp at hl
  | some d :: ds, t :: ts, sl, j, ha, hl, h => by
    simp only [apartL, Bool.and_eq_true, Bool.not_eq_true'] at ha
    simp only [posOf] at h
    simp only [putSl]
    split at h
    · next he =>
      cases h
      injection he with he
      subst he
      have : posOf d ds = none := by
        cases hp : posOf d ds with
        | none => rfl
        | some q =>
          have := List.contains_iff_mem.2 (List.mem_of_getElem? (posOf_some hp))
          rw [ha.1.1] at this; cases this
      rw [putSl_out ds ts _ this, look_cons, if_pos rfl]; rfl
    · simp only [Option.map_eq_some_iff] at h
      obtain ⟨q, hq, rfl⟩ := h
      rw [putSl_at ds ts _ q ha.2 (by simpa using hl) hq]; simp
  | none :: ds, t :: ts, sl, j, ha, hl, h => by
    simp only [posOf] at h
    simp only [putSl]
    split at h
    · next he => cases he
    · simp only [Option.map_eq_some_iff] at h
      obtain ⟨q, hq, rfl⟩ := h
      rw [putSl_at ds ts _ q ha (by simpa using hl) hq]; simp
theorem AWP.drawW {id fu n : Nat} {ops : List Oper} {sl sl' : List (Nat × Tree)} {bs : List (TypeId × List Tree)} {rs : List (Option Row)} (dsts : List (Option Nat)) (ws : List Nat) (ts : List Tree) (Cm : List Cfg) (cN : Cfg) (hac : acyclic ops.toArray = true) (hd : ops.map (·.dst) = dsts) (hap : apartL n dsts = true) (hws : (ws.all fun j => Nat.blt j ops.length) = true) (hCs : ((⟨[], sl, bs, rs, ts⟩ :: Cm).all fun c => !(ws.all fun j => c.on.contains j)) = true) (hlen : dsts.length = cN.ts.length) (hsl : putSl cN.sl dsts cN.ts = sl')
    (hs : StepsW G0.pn ops.toArray fu n dsts ws ((⟨[], sl, bs, rs, ts⟩ :: Cm) ++ [cN]) 0 ops) (k : Q .normal ⟨n, sl', cN.bs, cN.rs⟩) : AWP w0 G0 (.region id ops.toArray true) Q ⟨n, sl, bs, rs⟩ := by
  subst hsl
  intro a w hsim
  refine wp_region_inv (fun L a W => L.size = ops.toArray.size ∧ Closed ops.toArray L ∧ ∃ S, SSW n dsts ws ((⟨[], sl, bs, rs, ts⟩ :: Cm) ++ [cN]) (fun j => L.getD j false) S ∧ Sim w0 G0 S a W) (by kernel_rfl) hac ⟨by simp, Closed.start _, ⟨n, sl, bs, rs⟩, ?_, hsim.drew⟩ ?_ ?_
  · have : (fun j => (Array.replicate ops.toArray.size false).getD j false) = fun _ => false := by
      funext j
      cases h : (Array.replicate ops.toArray.size false).getD j false with
      | false => rfl
      | true => exact absurd h on_none
    rw [this]
    refine ⟨⟨[], sl, bs, rs, ts⟩, by simp, ⟨fun j hj => rfl, fun j hj => by simp at hj⟩, rfl, rfl, rfl, fun s => ?_⟩
    right
    unfold frG
    split <;> rfl
  · rintro L a W i o h1 h2 h3 h4 ⟨_, hc, S, hS, hsim⟩
    have hi : i < ops.toArray.size := (Array.getElem?_eq_some_iff.1 h3).1
    have hun : L.getD i false = false := getD_both h2
    have hup : ∀ n j, j ≠ i → reach ops.toArray n i j = true → L.getD j false = true := fun n j hj hr => by
      have hc' := hc.step h3 h4
      have := hc'.reach n i j hr (on_self (by omega))
      rwa [on_other (fun e => hj e.symm)] at this
    have hno : ∀ n j, reach ops.toArray n j i = true → L.getD j false = false := fun n j hr => by
      cases hl : L.getD j false with
      | false => rfl
      | true =>
        have := hc.reach n j i hr hl
        rw [hun] at this; cases this
    have hK : Kn ops.toArray (fun j => L.getD j false) i := ⟨hun, fun n j hj => by
      simp only [Bool.and_eq_true, Bool.not_eq_true'] at hj
      exact hup n j (fun e => by subst e; simp at hj) hj.2, hno⟩
    have hst := hs.at (w0 := w0) (G0 := G0) hap (by simpa using hd) (fun k o ho => by simpa using ho) i o (by simpa using h3) (fun j => L.getD j false) (by rw [Nat.zero_add]; exact hK) S hS a W hsim
    rw [Nat.zero_add] at hst
    refine wpOne_mono ?_ hst
    rintro e a' W' ⟨S', ⟨rfl, hSx⟩, hsim'⟩
    refine ⟨by simpa using h1, hc.step h3 h4, S', ?_, hsim'⟩
    have : (fun j => (L.setIfInBounds i true).getD j false) = upL (fun j => L.getD j false) i := by
      funext j
      by_cases hj : j = i
      · subst hj
        rw [on_self (by omega), upL_self]
      · rw [on_other (fun e => hj e.symm), upL_ne hj]
    rw [this]; exact hSx
  · rintro L a W h1 ⟨_, _, S, ⟨c, hc, hon, hn, hbs, hrs, hsl⟩, hsim⟩
    have hall : ∀ j, j < ops.length → L.getD j false = true := fun j hj => h1 j (by simpa using hj)
    have hcN : c = cN := by
      rcases List.mem_append.1 hc with h | h
      · have := List.all_eq_true.1 hCs c h
        simp only [Bool.not_eq_true'] at this
        rw [List.all_eq_false] at this
        obtain ⟨j, hj, hjn⟩ := this
        have := hon.1 j (List.contains_iff_mem.2 hj)
        have hlt := List.all_eq_true.1 hws j hj
        rw [Nat.blt_eq] at hlt
        simp only [hall j hlt] at this
        exact absurd this.symm hjn
      · exact List.mem_singleton.1 h
    subst hcN
    refine ⟨_, k, hsim.leG hn.symm hbs.symm hrs.symm fun s => ?_⟩
    have h2 := hsl s
    show look (putSl c.sl dsts c.ts) s = .any ∨ look (putSl c.sl dsts c.ts) s = S.get s
    unfold frG at h2
    cases hp : posOf s dsts with
    | none =>
      rw [hp] at h2
      rw [putSl_out _ _ _ hp]
      exact h2.imp (fun h => h) Eq.symm
    | some j =>
      rw [hp] at h2
      dsimp only at h2
      rw [putSl_at _ _ _ j hap hlen hp]
      have hj := (List.getElem?_eq_some_iff.1 (posOf_some hp)).1
      have : L.getD j false = true := hall j (by rw [← hd] at hj; simpa using hj)
      simp only [this, cond_true] at h2
      exact h2.imp (fun h => h) Eq.symm
end
theorem AWP.leG {w0 : World} {G0 : Bse} {c : Code} {Q : Exit → St → Prop} {n : Nat} {sl sl' : List (Nat × Tree)} {bs : List (TypeId × List Tree)} {rs : List (Option Row)} (hk : KeepsP ⟨n, sl, bs, rs⟩ sl') (h : AWP w0 G0 c Q ⟨n, sl', bs, rs⟩) : AWP w0 G0 c Q ⟨n, sl, bs, rs⟩ := fun a w hs => h a w (hs.leP ⟨rfl, rfl, rfl, hk⟩)
theorem ev_up {S S0 : St} {op : Op} {x : Operand} {t : Tree} (hs : ∀ s, (opSlots op).contains s = true → S0.get s = .any ∨ S.get s = S0.get s) (hx : x ∈ op.operands.toList) (h : S0.ev x = t) (ht : t ≠ .any) : S.ev x = t := by
  cases x with
  | tmp s =>
    have hc : (opSlots op).contains s = true := List.contains_iff_mem.2 (List.mem_filterMap.2 ⟨_, hx, rfl⟩)
    rcases hs s hc with h1 | h1
    · exact absurd (h.symm.trans h1) ht
    · exact h1.trans h
  | const v => exact h
  | global g => exact h
  | func f => exact h
theorem wr_append {pn : Nat} {o : Oper} {n d k m by_ : Nat} {sl : List (Nat × Tree)} {bs bs' : List (TypeId × List Tree)} {rs rs' : List (Option Row)} {x y : Operand} {t : TypeId} {R : Row} {ys : List Tree} (ho : o.op = .call { callee := .builtin .append, args := #[x, y], argTypes := #[t, t] }) (hd : o.dst = some d) (hn : Nat.blt d n = true) (ht : appT Tryz.prog t = some (R.e, R.sz, by_)) (hx : St.ev ⟨n, sl, bs, rs⟩ x = .own k) (hR : rs[k]? = some (some R)) (hy : St.ev ⟨n, sl, bs, rs⟩ y = .sl ys) (hm : R.sz = m) (hs : Sized m ys) (h1 : AllC Tree.one ys) (h2 : AllC Tree.noDig ys) (h3 : R.es.length + ys.length ≤ 1073741824) (h4 : Nat.ble by_ 100000 = true) (hbs : bs.map (fun p => (p.1, p.2.map (killT0 k))) = bs') (hrs : rs.set k (some ⟨R.e, R.sz, R.es ++ ys, false⟩) = rs') : WrOK pn o ⟨n, sl, bs, rs⟩ (killT k) (.own k) bs' rs' := by
  subst hm hbs hrs
  intro w0 G0 S e0 e1 e2 e3 hs'
  dsimp only at e1 e2 e3
  have hx' := ev_up hs' (by rw [ho]; simp [Op.operands, Call.operands]) hx (by simp)
  have hy' := ev_up hs' (by rw [ho]; simp [Op.operands, Call.operands]) hy (by simp)
  refine ⟨_, do_append (S := S) ho (by rw [hd, e1]; simpa [dstOk, Nat.blt_eq] using hn) ht hx' (by rw [e3]; exact hR) hy' hs h1 h2 h3 (by simpa using h4), by rw [St.put_n]; rfl, by rw [St.put_bs, ← e2]; rfl, by rw [St.put_rs]; dsimp only; rw [e3], fun s => ?_⟩
  rw [St.put_get]
  split
  · rfl
  · exact St.kill_get S k s
theorem wr_store {pn : Nat} {o : Oper} {n b off m : Nat} {sl : List (Nat × Tree)} {bs bs' : List (TypeId × List Tree)} {rs : List (Option Row)} {ty bt : TypeId} {x y : Operand} {cs : List Tree} {t : Tree} (ho : o.op = .store ty x y) (hdst : o.dst = none) (hx : St.ev ⟨n, sl, bs, rs⟩ x = .box b off) (hb : bs[b]? = some (bt, cs)) (ht : St.ev ⟨n, sl, bs, rs⟩ y = t) (h1 : t.oneA = true) (h2 : t.cells.all Tree.one = true) (h3 : t.cells.all Tree.noDig = true) (hs : (Tryz.prog.info? ty).map (·.size) = some m) (hl : t.cells.length = m) (hle : Nat.ble (off + m) cs.length = true) (hbs : bs.set b (bt, putC cs off t) = bs') : WrOK pn o ⟨n, sl, bs, rs⟩ id .any bs' rs := by
  subst hbs
  intro w0 G0 S e0 e1 e2 e3 hs'
  dsimp only at e1 e2 e3
  have hx' := ev_up hs' (by rw [ho]; simp [Op.operands]) hx (by simp)
  have hy' := ev_up hs' (by rw [ho]; simp [Op.operands]) ht (by rintro rfl; simp [Tree.oneA, Tree.one] at h1)
  refine ⟨_, do_store_box (S := S) ho hdst hx' (by rw [e2]; exact hb) hy' h1 h2 h3 hs hl (by simpa using hle), rfl, by rw [e2], e3, fun s => ?_⟩
  rw [hdst, if_neg (by simp)]
  rfl
end Go.Proofs.YtpinhcdcnaaihaaGreatDoor
