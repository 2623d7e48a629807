import Derived.Test.YtpinhcdcnaaihaaGreatDoorA35
import Derived.LoopN
import Derived.Scope
namespace Go.Proofs.YtpinhcdcnaaihaaGreatDoor
def Gl (P : Program) (E : EE) : Prop := ∀ g, g < P.globals.size → E.lo g = some (g, 0)
theorem Gl.le {P : Program} {E E' : EE} (h : Gl P E) (hE : E.Le E') : Gl P E' := fun g hg => hE.lo _ _ (h g hg)
abbrev CallF := FuncId → List Value → AH → Rs
def CallOK (P : Program) (base : Nat) (call : CallF) : Prop := ∀ f args A v A', call f args A = some (v, A') → (∃ fn, P.funcs[f]? = some fn ∧ (fn.name == "runtime.NumGoroutine") = false ∧ fn.body.isNone = false) ∧ ∀ E w vs, RelA P E A base w → Gl P E → VL P E vs args → Calls P f vs.toArray w fun e w' => ∃ u, e = .returned u ∧ Aft P E A' base w v u w'
section
variable {P : Program} {base : Nat} {sl : Slo} {A : AH} {o : Oper} {call : CallF}
noncomputable def evFn (P : Program) (sl : Slo) (A : AH) (fn : Fn) (a b : List Operand) : Rs := some (.func fn (mapR (evO P sl) a).toArray (mapR (evO P sl) b).toArray, A)
theorem good_fn {fn : Fn} {a b : Array Operand} (ho : o.op = .makeFunc fn a b) : Good P base sl A o (evFn P sl A fn a.toList b.toList) := Good.pure1 fun E w T hR hS => by
  refine ⟨.func fn (a.map (evF T)) (b.map (evF T)), by simp [execOp, ho, Instr.makeFunc], ?_⟩
  have := VL.fn (P := P) (E := E) fn (a.toList.map (evF T)) _ (b.toList.map (evF T)) _ (hS.args a.toList) (hS.args b.toList) .nil
  have e : ∀ c : Array Operand, (c.toList.map (evF T)).toArray = c.map (evF T) := fun c => Array.ext' (by simp)
  rwa [e, e] at this
theorem VL.cleans {E : EE} : ∀ {us vs : List Value}, VL P E us vs → vs.all (cln 1) = true → us = vs
  | [], [], _, _ => rfl
  | [], _ :: _, h, _ => by cases h
  | _ :: _, [], h, _ => by cases h
  | u :: us, v :: vs, h, hc => by
    simp only [List.all_cons, Bool.and_eq_true] at hc
    rw [h.head.clean 1 hc.1, VL.cleans h.tail hc.2]
noncomputable def noBody (P : Program) (g : FuncId) : Bool := match P.funcs[g]? with | some fn => fn.body.isNone | none => false
noncomputable def evEx (P : Program) (A : AH) (g : FuncId) (args : List Value) : Rs := cond (allR (cln 1) args) (bnd (pureRun P (callFunc g args.toArray)) fun n => match n with | .value v => forceV v A | _ => none) none
noncomputable def evCall (P : Program) (call : CallF) (sl : Slo) (A : AH) (f : Operand) (xs : List Operand) : Rs :=
  match evO P sl f with
  | .func (.func g) a b => cond (noBody P g) (evEx P A g (appR a.toList (appR (mapR (evO P sl) xs) b.toList))) (call g (appR a.toList (appR (mapR (evO P sl) xs) b.toList)) A)
  | _ => none
theorem VL.func {E : EE} {u : Value} {g : Fn} {a b : Array Value} (h : VL P E [u] [.func g a b]) : ∃ xs ys, u = .func g xs ys ∧ VL P E xs.toList a.toList ∧ VL P E ys.toList b.toList := by
  cases h with
  | sc v h _ =>
    simp only [scV, Bool.and_eq_true] at h
    have e1 : a.toList = [] := List.eq_nil_of_length_eq_zero (Nat.eq_of_beq_eq_true h.1)
    have e2 : b.toList = [] := List.eq_nil_of_length_eq_zero (Nat.eq_of_beq_eq_true h.2)
    exact ⟨a, b, rfl, by rw [e1]; exact .nil, by rw [e2]; exact .nil⟩
  | fn f xs cs xs' cs' hx hx' _ => exact ⟨_, _, rfl, by simpa using hx, by simpa using hx'⟩
theorem good_call {f : Operand} {xs : Array Operand} {ts : Array TypeId} (hc : CallOK P base call) (ho : o.op = .call { callee := .value f, args := xs, argTypes := ts }) : Good P base sl A o (evCall P call sl A f xs.toList) := by
  intro v A' he E w T hR hS
  unfold evCall at he
  split at he
  · next g a b hf =>
    have h1 := hS.at f
    rw [hf] at h1
    obtain ⟨us, vs, h2, h3, h4⟩ := h1.func
    simp only [appR_eq, ← List.append_assoc] at he
    have hargs := (h3.append (hS.args xs.toList)).append h4
    have e3 : (us.toList ++ xs.toList.map (evF T) ++ vs.toList).toArray = us ++ xs.map (evF T) ++ vs := Array.ext' (by simp)
    cases hnb : noBody P g with
    | true =>
    rw [hnb] at he
    have he : evEx P A g (a.toList ++ mapR (evO P sl) xs.toList ++ b.toList) = some (v, A') := he
    unfold evEx at he
    simp only [allR_eq] at he
    obtain ⟨hcl, he⟩ := cond_of he
    obtain ⟨n, h5, he⟩ := bnd_of he
    split at he
    · next y =>
      obtain ⟨rfl, rfl, h6⟩ := forceV_of he
      have h7 := hargs.cleans hcl
      have h8 := pureRun_of w h5
      refine .of_ok (v := v) (W' := w) ?_ (.here hR (.sc _ h6 .nil))
      rw [← h7, e3] at h8
      have h9 := h8
      rw [Array.append_assoc] at h9
      simp [execOp, ho, resolve, h2, Deferred.ofValue, invoke, h8, h9]
    · cases he
    | false =>
    rw [hnb] at he
    have he : call g (a.toList ++ mapR (evO P sl) xs.toList ++ b.toList) A = some (v, A') := he
    obtain ⟨⟨fn, h5, h6, h7⟩, h8⟩ := hc _ _ _ _ _ he
    have h9 := h8 E w (us.toList ++ xs.toList.map (evF T) ++ vs.toList) hR hS.glob hargs
    refine .of_call (f := g) (args := (us.toList ++ xs.toList.map (evF T) ++ vs.toList).toArray) ?_ h9
    have e1 : ¬ fn.name = "runtime.NumGoroutine" := by simpa using h6
    have e2 : ¬ fn.body = none := fun e => by rw [e] at h7; cases h7
    rw [e3]
    simp [execOp, ho, resolve, h2, Deferred.ofValue, invoke, callFunc, h5, e1, e2]
  · cases he
noncomputable def evPu (P : Program) (sl : Slo) (A : AH) (f : Array Value → Sem Value) (xs : List Operand) : Rs := cond (allR (cln 1) (mapR (evO P sl) xs)) (bnd (pureRun P (f (mapR (evO P sl) xs).toArray)) fun v => forceV v A) none
theorem good_pu {f : Array Value → Sem Value} {xs : Array Operand} (ho : ∀ T, execOp (evF T) o = (do pure (.value (← f (xs.map (evF T)))))) : Good P base sl A o (evPu P sl A f xs.toList) := by
  intro v A' he E w T hR hS
  unfold evPu at he
  simp only [allR_eq] at he
  obtain ⟨hcl, he⟩ := cond_of he
  obtain ⟨u, h2, he⟩ := bnd_of he
  obtain ⟨rfl, rfl, h3⟩ := forceV_of he
  have h7 := (hS.args xs.toList).cleans hcl
  have h4 := pureRun_of w h2
  refine .of_ok (v := v) (W' := w) ?_ (.here hR (.sc _ h3 .nil))
  have e3 : (xs.toList.map (evF T)).toArray = xs.map (evF T) := Array.ext' (by simp)
  rw [← h7, e3] at h4
  rw [ho, Sem.run_bind, h4]
  rfl
noncomputable def evCap (P : Program) (sl : Slo) (A : AH) (ts : List TypeId) (xs : List Operand) : Rs :=
  match ts, xs with
  | [t], [x] => match P.underlying t, evO P sl x with
    | some (.slice _), .slice none _ _ => some (.int .i64 (.ofNat 0), A)
    | some (.array n _), _ => some (.int .i64 (.ofNat n), A)
    | _, _ => none
  | _, _ => none
theorem good_cap {xs : Array Operand} {ts : Array TypeId} (ho : o.op = .call { callee := .builtin .cap, args := xs, argTypes := ts }) : Good P base sl A o (evCap P sl A ts.toList xs.toList) := by
  intro v A' he E w T hR hS
  obtain ⟨xs⟩ := xs
  obtain ⟨ts⟩ := ts
  simp only at he
  unfold evCap at he
  split at he
  · next t x =>
    have h1 := hS.at x
    split at he
    · next e m c hu hx =>
      cases he
      rw [hx] at h1
      obtain ⟨hp, rfl, rfl⟩ := h1.nilSlice
      refine .of_ok (v := goInt 0) (W' := w) ?_ (.here hR (.sc _ rfl .nil))
      simp [execOp, ho, resolve, invoke, builtin, Builtin.cap_, run_underlying hu, hp]
    · next n e hu =>
      cases he
      refine .of_ok (v := goInt n) (W' := w) ?_ (.here hR (.sc _ rfl .nil))
      simp [execOp, ho, resolve, invoke, builtin, Builtin.cap_, run_underlying hu]
    · cases he
  · cases he
noncomputable def evBi (P : Program) (sl : Slo) (A : AH) (b : Builtin) (ts : List TypeId) (xs : List Operand) : Rs :=
  match b with
  | .append => evAppB P sl A ts xs
  | .len => evLenB P sl A ts xs
  | .copy => evCopy P sl A ts xs
  | .min => evPu P sl A (Builtin.min_ #[] 0) xs
  | .max => evPu P sl A (Builtin.max_ #[] 0) xs
  | .cap => evCap P sl A ts xs
  | .unsafeSliceData => evUSD P sl A xs
  | .unsafeString => evUSt P sl A ts xs
  | _ => none
noncomputable def evOp (P : Program) (call : CallF) (sl : Slo) (A : AH) (o : Oper) : Rs :=
  match o.op with
  | .move x => some (evO P sl x, A)
  | .assign x => some (evO P sl x, A)
  | .pick c a b => evPick P sl A c a b
  | .alloc e => evAlloc P A e
  | .box _ x => evBox P sl A x
  | .build t ps => evBuild P sl A t ps.toList
  | .buildSlice t len ps => evBSl P sl A t len ps.toList
  | .load t a => evLd P sl A t a
  | .store t a x => evSt P sl A t a x
  | .nilCheck x => evNilC P sl A x
  | .binOp op t x y _ => evBin P sl A op t x y
  | .unOp op _ x => evUn P sl A op x
  | .convert s d x => evCv P sl A s d x
  | .makeSlice t l c => evMS P sl A t l c
  | .slice t x lo hi mx => evSl P sl A t x lo hi mx
  | .fieldAddr s x f => evFA P sl A s x f
  | .field t x f => evFld P sl A t x f
  | .indexAddr t x ix => evIA P sl A t x ix
  | .index t x ix => evIx P sl A t x ix
  | .extract t i => evExt P sl A t i
  | .makeFunc fn a b => evFn P sl A fn a.toList b.toList
  | .makeMap _ r => evMk A r
  | .lookup t x ix ok => evLk P sl A t x ix ok
  | .mapUpdate t m k x => evMU P sl A t m k x
  | .insert t m k x => evMU P sl A t m k x
  | .call c => match c.callee with
    | .builtin b => evBi P sl A b c.argTypes.toList c.args.toList
    | .value f => evCall P call sl A f c.args.toList
    | _ => none
  | _ => none
theorem good_op (hc : CallOK P base call) : Good P base sl A o (evOp P call sl A o) := by
  unfold evOp
  split
  · next h => exact good_move h
  · next h => exact good_assign h
  · next h => exact good_pick h
  · next h => exact good_alloc h
  · next h => exact good_box h
  · next h => exact good_build h
  · next h => exact good_bsl h
  · next h => exact good_load h
  · next h => exact good_store h
  · next h => exact good_nilc h
  · next h => exact good_bin h
  · next h => exact good_un h
  · next h => exact good_cv h
  · next h => exact good_ms h
  · next h => exact good_sl h
  · next h => exact good_fa h
  · next h => exact good_fld h
  · next h => exact good_ia h
  · next h => exact good_ix h
  · next h => exact good_ext h
  · next h => exact good_fn h
  · next h => exact good_mk h
  · next h => exact good_lk h
  · next h => exact good_mu (.inl h)
  · next h => exact good_mu (.inr h)
  · next c h =>
    obtain ⟨cl, xs, ts⟩ := c
    cases cl with
    | builtin b =>
      show Good P base sl A o (evBi P sl A b ts.toList xs.toList)
      unfold evBi
      split
      · exact good_app h
      · exact good_len h
      · exact good_copy h
      · exact good_pu fun T => by simp only [execOp, h, resolve, invoke, builtin]; rfl
      · exact good_pu fun T => by simp only [execOp, h, resolve, invoke, builtin]; rfl
      · exact good_cap h
      · exact good_usd h
      · exact good_ust h
      · exact Good.none
    | value f => exact good_call hc h
    | invoke _ _ => exact Good.none
  · exact Good.none
structure SimA (P : Program) (E : EE) (sl : Slo) (a : Act) : Prop where
  size : a.tmps.size = sl.n
  wf : ∀ d, d < sl.n → InR sl d
  slot : ∀ s, VL P E [a.tmps.getD s undef] [slt sl s]
  dfr : a.defers = []
theorem SimA.mono {E E' : EE} {a : Act} (h : SimA P E sl a) (hE : E.Le E') : SimA P E' sl a := ⟨h.size, h.wf, fun s => (h.slot s).mono hE, h.dfr⟩
theorem undefV {E : EE} : VL P E [undef] [undef] := .tup [] [] .nil .nil
theorem SimA.put {E : EE} {a : Act} {u v : Value} (h : SimA P E sl a) (hv : VL P E [u] [v]) (d : Option Nat) : SimA P E (Option.rec sl (fun d => sset sl d v) d) (a.put d u) := by
  cases d with
  | none => exact h
  | some d =>
    refine ⟨?_, fun e he => (h.wf e (by revert he; show e < (sset sl d v).n → _; unfold sset; cases Nat.blt d sl.n <;> exact id)).sset, fun s => ?_, h.dfr⟩
    · show (a.tmps.setIfInBounds d u).size = (sset sl d v).n
      rw [Array.size_setIfInBounds, h.size]
      unfold sset
      cases Nat.blt d sl.n <;> rfl
    · show VL P E [(a.tmps.setIfInBounds d u).getD s undef] [slt (sset sl d v) s]
      have h1 := h.slot s
      have hs := h.size
      rw [Array.getD_eq_getD_getElem?] at h1 ⊢
      rw [Array.getElem?_setIfInBounds]
      by_cases hd : d < sl.n
      · obtain ⟨g1, g2⟩ := slt_sset sl d v s hd
        by_cases e : d = s
        · subst e
          rw [if_pos rfl, if_pos (by omega)]
          rcases g2 rfl with g | g
          · rw [g]; exact hv
          · rw [g]; exact .any _ .nil
        · rw [if_neg e, g1 (fun h => e h.symm)]
          exact h1
      · have e1 : sset sl d v = sl := by
          unfold sset
          cases hb : Nat.blt d sl.n with
          | true => exact absurd (blt_of hb) hd
          | false => rfl
        rw [e1]
        by_cases e : d = s
        · subst e
          rw [if_pos rfl, if_neg (by omega)]
          rw [Array.getElem?_eq_none (by omega)] at h1
          exact h1
        · rw [if_neg e]
          exact h1
theorem SimA.slots {E : EE} {a : Act} (h : SimA P E sl a) (hg : Gl P E) : SlotV P E (fun s => a.tmps.getD s undef) sl := ⟨h.slot, hg⟩
noncomputable def evGd (ops : List Oper) (sl : Slo) (g : Option (Nat × Bool)) : Option Bool := Option.rec (some true) (fun p => bnd (nthR ops p.1) fun o => bnd o.dst fun d => match slt sl d with | .bool b => some (cond b p.2 (!p.2)) | .tuple _ => some false | _ => none) g
theorem gd_good {E : EE} {a : Act} {ops : List Oper} {b : Bool} (h : ∀ s, VL P E [a.tmps.getD s undef] [slt sl s]) (he : evGd ops sl o.guard = some b) : Region.wanted o (yielded ops.toArray a.tmps) = b := by
  unfold evGd at he
  unfold Region.wanted
  cases hg : o.guard with
  | none => rw [hg] at he; cases he; rfl
  | some p =>
    obtain ⟨j, want⟩ := p
    rw [hg] at he
    obtain ⟨o', h1, he⟩ := bnd_of (o := nthR ops j) he
    obtain ⟨d, h2, he⟩ := bnd_of he
    rw [nthR_eq] at h1
    have h3 := h d
    split at he
    · next c hc =>
      rw [hc] at h3
      have h3 := h3.bool
      have h4 : a.tmps[d]? = some (.bool c) := by
        rw [Array.getD_eq_getD_getElem?] at h3
        cases h5 : a.tmps[d]? with
        | none => rw [h5] at h3; cases h3
        | some x => rw [h5] at h3; exact congrArg some h3
      have h5 : yielded ops.toArray a.tmps j = some c := by
        unfold yielded
        simp [h1, h2, h4]
      simp only [h5]
      cases he
      cases c <;> cases want <;> rfl
    · next vs hc =>
      rw [hc] at h3
      obtain ⟨xs, h3, _⟩ := h3.tupl
      cases he
      have h5 : yielded ops.toArray a.tmps j = none := by
        unfold yielded
        simp only [List.getElem?_toArray, h1, h2, Option.bind_some]
        rw [Array.getD_eq_getD_getElem?] at h3
        cases h6 : a.tmps[d]? with
        | none => rfl
        | some x =>
          rw [h6] at h3
          have h3 : x = .tuple xs := h3
          rw [h3]
      simp only [h5]
      rfl
    · cases he
theorem wp_monoE {o : Oper} {a : Act} {w : World} {K K' : Act → World → Prop} {Q Q' : Exit → Act → World → Prop} (h : ∀ a w, K a w → K' a w) (hq : ∀ e a w, Q e a w → Q' e a w) (hh : o.wp P a w K Q) : o.wp P a w K' Q' := by
  unfold Oper.wp at *
  generalize (execOp a.eval o).run P w = r at *
  cases r with
  | ok n w' =>
    cases n <;> simp only [Oper.upon] at hh ⊢ <;>
      first
        | exact h _ _ hh
        | exact Calls.mono hh (fun e w'' he => by
            cases e with
            | returned v => exact h _ _ he
            | panicked c => exact hq _ _ _ he
            | outgrown => obtain ⟨a, w, ho⟩ := he; exact ⟨a, w, hq _ _ _ ho⟩)
        | exact Rows.mono hh (fun _ _ he => h _ _ he)
  | halt x w' => cases x <;> simp only [Oper.upon] at hh ⊢ <;> first | exact hq _ _ _ hh | exact hh
theorem wpList_monoQ {ops : Array Oper} {Q Q' : Exit → Act → World → Prop} (hq : ∀ e a w, Q e a w → Q' e a w) : ∀ {l : List Oper} {a : Act} {w : World}, wpList P ops Q l a w → wpList P ops Q' l a w
  | [], _, _, h => hq _ _ _ h
  | o :: l, a, w, h => by
    unfold wpList at h ⊢
    split
    · next hw =>
      rw [if_pos hw] at h
      rcases h with h | ⟨h1, a', w', h2⟩
      · exact .inl (wp_monoE (fun a w h => wpList_monoQ hq h) hq h)
      · exact .inr ⟨h1, a', w', hq _ _ _ h2⟩
    · next hw =>
      rw [if_neg hw] at h
      exact wpList_monoQ hq h
noncomputable def evOps (P : Program) (call : CallF) (all : List Oper) (ops : List Oper) : Slo → AH → Option (Slo × AH) :=
  List.rec (fun sl A => some (sl, A)) (fun o _ ih sl A => bnd (evGd all sl o.guard) fun b => cond b (bnd (evOp P call sl A o) fun r => ih (Option.rec sl (fun d => sset sl d r.1) o.dst) r.2) (ih (Option.rec sl (fun d => sset sl d undef) o.dst) A)) ops
def AftC (P : Program) (base : Nat) (E : EE) (w : World) (x : Exit) (sl' : Slo) (A' : AH) (e : Exit) (a' : Act) (w' : World) : Prop := e = x ∧ ∃ E', RelA P E' A' base w' ∧ SimA P E' sl' a' ∧ Fr E E' w w'
theorem AftC.step {E E' : EE} {w w' : World} {x : Exit} {sl' : Slo} {A' : AH} (hf : Fr E E' w w') {e : Exit} {a' : Act} {w'' : World} (h : AftC P base E' w' x sl' A' e a' w'') : AftC P base E w x sl' A' e a' w'' := by
  obtain ⟨h1, E'', h2, h3, h4⟩ := h
  exact ⟨h1, E'', h2, h3, hf.trans h4⟩
theorem ops_good (hc : CallOK P base call) (all : List Oper) : ∀ (ops : List Oper) (sl : Slo) (A : AH) (sl' : Slo) (A' : AH), evOps P call all ops sl A = some (sl', A') → ∀ (E : EE) (w : World) (a : Act), RelA P E A base w → Gl P E → SimA P E sl a → wpList P all.toArray (AftC P base E w .normal sl' A') ops a w
  | [], sl, A, sl', A', he, E, w, a, hR, hG, hS => by
    cases he
    exact ⟨rfl, E, hR, hS, .refl _ _⟩
  | o :: ops, sl, A, sl', A', he, E, w, a, hR, hG, hS => by
    obtain ⟨b, hb, he⟩ := bnd_of (o := evGd all sl o.guard) he
    have hw := gd_good (o := o) hS.slot hb
    unfold wpList
    rw [hw]
    cases b with
    | true =>
      obtain ⟨⟨v, A1⟩, h1, he⟩ := bnd_of (o := evOp P call sl A o) he
      rw [if_pos rfl]
      refine .inl ?_
      have h2 := (good_op (o := o) hc v A1 h1 E w _ hR (hS.slots hG)).wp (Q := AftC P base E w .normal sl' A')
      refine Oper.wp_mono ?_ h2
      rintro a' w' ⟨u, rfl, E', h3, h4, h5⟩
      have h6 := ops_good hc all ops _ A1 sl' A' he E' w' (a.put o.dst u) h3 (hG.le h5.le) ((hS.mono h5.le).put h4 o.dst)
      exact wpList_monoQ (fun e a w h => h.step h5) h6
    | false =>
      rw [if_neg (by simp)]
      exact ops_good hc all ops _ A sl' A' he E w _ hR hG (hS.put undefV o.dst)
end
end Go.Proofs.YtpinhcdcnaaihaaGreatDoor
namespace Go.Proofs.YtpinhcdcnaaihaaGreatDoor
abbrev CRes := Option (Exit × Slo × AH)
abbrev DrawF := CallF → List Oper → Slo → AH → Option (Slo × AH)
def DrawOK (P : Program) (base : Nat) (evD : DrawF) : Prop := ∀ call, CallOK P base call → ∀ ops sl A sl' A', evD call ops sl A = some (sl', A') → ∀ id E w a, RelA P E A base w → Gl P E → SimA P E sl a → (Code.region id ops.toArray true).wp P (AftC P base E w .normal sl' A') a w
noncomputable def loopK (ev : Slo → AH → CRes) (m : Nat) : Slo → AH → CRes := Nat.rec (fun _ _ => none) (fun _ ih sl A => bnd (ev sl A) fun r => match r.1 with | .normal => ih r.2.1 r.2.2 | _ => some r) m
noncomputable def padR (args : List Value) : Nat → List Value := List.rec (fun n => Nat.rec [] (fun _ ih => undef :: ih) n) (fun a _ ih n => a :: ih (n - 1)) args
theorem replU : ∀ n : Nat, Nat.rec (motive := fun _ => List Value) [] (fun _ ih => undef :: ih) n = List.replicate n undef
  | 0 => rfl
  | n + 1 => congrArg (undef :: ·) (replU n)
theorem padR_eq : ∀ (args : List Value) (n : Nat), args.length ≤ n → padR args n = args ++ List.replicate (n - args.length) undef
  | [], n, _ => replU n
  | a :: args, n, h => by
    simp only [List.length_cons] at h
    have := padR_eq args (n - 1) (by omega)
    show a :: padR args (n - 1) = _
    rw [this, List.length_cons, show n - 1 - args.length = n - (args.length + 1) by omega]
    rfl
noncomputable def resV (P : Program) (A : AH) (sl : Slo) (l : List ResultVar) : Option (List Value) := List.rec (some []) (fun x _ ih => bnd (match x with | .tmp t => some (slt sl t) | .cell a t => evLoad P A t (slt sl a)) fun v => bnd ih fun vs => some (v :: vs)) l
noncomputable def oneR (vs : List Value) : Value := match vs with | [v] => v | vs => .tuple vs.toArray
noncomputable def callB (P : Program) (ev : Code → Slo → AH → CRes) (f : FuncId) (args : List Value) (A : AH) : Rs := bnd (P.funcs[f]?) fun fn => bnd fn.body fun c => cond (Nat.ble args.length fn.ntmps) (bnd (ev c (mkSl (padR args fn.ntmps) fn.ntmps) A) fun r => match r.1 with
  | .normal => bnd (resV P r.2.2 r.2.1 fn.results.toList) fun vs => some (oneR vs, r.2.2)
  | .ret => bnd (resV P r.2.2 r.2.1 fn.results.toList) fun vs => some (oneR vs, r.2.2)
  | _ => none) none
noncomputable def callG (P : Program) (ora : CallF) (ev : Code → Slo → AH → CRes) (f : FuncId) (args : List Value) (A : AH) : Rs := Option.rec (callB P ev f args A) (fun r => some r) (ora f args A)
noncomputable def evC (P : Program) (ora : CallF) (evD : DrawF) (n : Nat) : Code → Slo → AH → CRes :=
  Nat.rec (fun _ _ _ => none) (fun _ ih c sl A => match c with
    | .skip => some (.normal, sl, A)
    | .label _ => some (.normal, sl, A)
    | .region _ ops d => cond d (bnd (evD (callG P ora ih) ops.toList sl A) fun r => some (.normal, r.1, r.2)) (bnd (evOps P (callG P ora ih) ops.toList ops.toList sl A) fun r => some (.normal, r.1, r.2))
    | .seq a b => bnd (ih a sl A) fun r => match r.1 with | .normal => ih b r.2.1 r.2.2 | _ => some r
    | .cond x a b => match evO P sl x with | .bool true => ih a sl A | .bool false => ih b sl A | _ => none
    | .block id b => bnd (ih b sl A) fun r => match r.1 with | .exit i => cond (Nat.beq i id) (some (.normal, r.2.1, r.2.2)) (some r) | _ => some r
    | .loop b => loopK (ih b) 100000 sl A
    | .exit i => some (.exit i, sl, A)
    | .ret => some (.ret, sl, A)
    | .scope b => bnd (ih b sl A) fun r => match r.1 with | .goto _ => none | _ => some r
    | _ => none) n
section
variable {P : Program} {base : Nat} {ora : CallF} {evD : DrawF}
def CodeOK (P : Program) (base : Nat) (ev : Code → Slo → AH → CRes) : Prop := ∀ c sl A x sl' A', ev c sl A = some (x, sl', A') → ∀ E w a, RelA P E A base w → Gl P E → SimA P E sl a → c.wp P (AftC P base E w x sl' A') a w
def NameOK (P : Program) : Prop := ∀ (f : FuncId) (fn : Func), P.funcs[f]? = some fn → (fn.name == "runtime.NumGoroutine") = false
def resM (a : Act) : ResultVar → Sem Value
  | .tmp t => pure (a.tmps.getD t undef)
  | .cell b t => do loadVar t (← asAddr (a.tmps.getD b undef))
noncomputable def resX (P : Program) (A : AH) (sl : Slo) : ResultVar → Option Value
  | .tmp t => some (slt sl t)
  | .cell a t => evLoad P A t (slt sl a)
theorem res_one {E : EE} {A : AH} {w : World} {a : Act} {sl : Slo} (hR : RelA P E A base w) (hS : SimA P E sl a) : ∀ {x : ResultVar} {v : Value}, resX P A sl x = some v → ∃ u, (resM a x).run P w = .ok u w ∧ VL P E [u] [v]
  | .tmp t, v, h => by
    cases h
    exact ⟨_, rfl, hS.slot t⟩
  | .cell b t, v, h1 => by
    have hb := hS.slot b
    have h1 : evLoad P A t (slt sl b) = some v := h1
    obtain ⟨y, h5, h6⟩ := load_good hR hb h1
    refine ⟨y, ?_, h6⟩
    rw [← h5]
    unfold evLoad at h1
    split at h1
    · next n c hc =>
      rw [hc] at hb
      obtain ⟨_, _, _, hp⟩ := hb.pointer
      show ((asAddr (a.tmps.getD b undef)).bind fun x => loadVar t x).run P w = (Instr.loadAt t (a.tmps.getD b undef)).run P w
      rw [hp]
      rfl
    · cases h1
theorem res_good {E : EE} {A : AH} {w : World} {a : Act} {sl : Slo} (hR : RelA P E A base w) (hS : SimA P E sl a) : ∀ {xs : List ResultVar} {vs : List Value}, resV P A sl xs = some vs → ∃ us, (xs.mapM (m := Sem) (resM a)).run P w = .ok us w ∧ VL P E us vs
  | [], vs, he => by
    cases he
    exact ⟨[], rfl, .nil⟩
  | x :: xs, vs, he => by
    obtain ⟨v, h1, he⟩ := bnd_of (o := match x with | .tmp t => some (slt sl t) | .cell a t => evLoad P A t (slt sl a)) he
    obtain ⟨vs', h2, he⟩ := bnd_of (o := resV P A sl xs) he
    cases he
    obtain ⟨us, h3, h4⟩ := res_good hR hS h2
    obtain ⟨u, h5, h6⟩ := res_one hR hS (x := x) (v := v) (by rw [← h1]; cases x <;> rfl)
    refine ⟨u :: us, ?_, h6.cons h4⟩
    rw [List.mapM_cons, Sem.run_bind, h5, Result.andThen_ok, Sem.run_bind, h3, Result.andThen_ok]
    rfl
theorem rounds_mono {c : Code} {Q Q' : Exit → Act → World → Prop} (hq : ∀ e a w, Q e a w → Q' e a w) : ∀ {n : Nat} {a : Act} {w : World}, Code.rounds P c Q n a w → Code.rounds P c Q' n a w
  | 0, _, _, h => h
  | n + 1, a, w, h => by
    rw [rounds_succ] at h ⊢
    refine wp_mono h ?_
    intro e a w h
    cases e with
    | normal => exact rounds_mono hq h
    | _ => exact hq _ _ _ h
theorem one_good {E : EE} : ∀ {us vs : List Value}, VL P E us vs → VL P E [if h : us.toArray.size = 1 then us.toArray[0] else .tuple us.toArray] [oneR vs]
  | [], [], _ => .tup [] [] .nil .nil
  | [u], [v], h => h
  | u :: u' :: us, v :: v' :: vs, h => by
    rw [dif_neg (by simp)]
    exact .tup _ _ h .nil
  | [], _ :: _, h => by cases h
  | _ :: _, [], h => by cases h
  | [_], _ :: _ :: _, h => by cases h.tail
  | _ :: _ :: _, [_], h => by cases h.tail
theorem callB_good (hN : NameOK P) {ev : Code → Slo → AH → CRes} (hev : CodeOK P base ev) : CallOK P base (callB P ev) := by
  intro f args A v A' he
  unfold callB at he
  obtain ⟨fn, hf, he⟩ := bnd_of he
  obtain ⟨c, hb, he⟩ := bnd_of he
  obtain ⟨hn, he⟩ := cond_of he
  have hn : args.length ≤ fn.ntmps := by simpa using hn
  obtain ⟨⟨x, sl', A1⟩, h1, he⟩ := bnd_of he
  refine ⟨⟨fn, hf, hN f fn hf, by rw [hb]; rfl⟩, fun E w vs hR hG hv => ?_⟩
  have hlen := hv.length
  have hS : SimA P E (mkSl (padR args fn.ntmps) fn.ntmps) { tmps := vs.toArray ++ Array.replicate (fn.ntmps - vs.toArray.size) undef, defers := [] } := by
    have hpl : (padR args fn.ntmps).length = fn.ntmps := by rw [padR_eq args _ hn]; simp; omega
    refine ⟨by show _ = fn.ntmps; simp [hlen]; omega, fun d hd => (chk_in _ _ d (by rw [hpl]; omega) (by rw [hpl]; exact hd)).1, fun s => ?_, rfl⟩
    rcases mkSl_get (padR args fn.ntmps) fn.ntmps s with hg | hg
    rotate_left
    · rw [hg]; exact .any _ .nil
    rw [hg, padR_eq args _ hn, slr_eq, Array.getD_eq_getD_getElem?, List.getD_eq_getElem?_getD]
    have e1 : (vs.toArray ++ Array.replicate (fn.ntmps - vs.toArray.size) undef)[s]? = (vs ++ List.replicate (fn.ntmps - vs.length) undef)[s]? := by
      rw [← Array.getElem?_toList]
      simp
    rw [e1]
    by_cases hs : s < vs.length
    · rw [List.getElem?_append_left hs, List.getElem?_append_left (by omega)]
      obtain ⟨u, h2, h3⟩ := hv.get s args[s] (List.getElem?_eq_getElem (by omega))
      rw [h2, List.getElem?_eq_getElem (by omega)]
      exact h3
    · rw [List.getElem?_append_right (by omega), List.getElem?_append_right (by omega), hlen]
      cases h2 : (List.replicate (fn.ntmps - args.length) undef)[s - args.length]? with
      | none => exact .any _ .nil
      | some u =>
        have := List.eq_of_mem_replicate (List.mem_of_getElem? h2)
        subst this
        exact undefV
  refine calls_of_wp hf hb (wp_mono (hev c _ A x sl' A1 h1 E w _ hR hG hS) ?_)
  rintro e a w' ⟨rfl, E', h2, h3, h4⟩
  have key : ∀ r, bnd (resV P A1 sl' fn.results.toList) (fun vs => some (oneR vs, A1)) = some r → r = (v, A') → a.defers = [] ∧ ∃ u, (results fn a.tmps).run P w' = .ok u w' ∧ ∃ u', Ending.returned u = .returned u' ∧ Aft P E A' base w v u' w' := fun r hr he => by
    subst he
    obtain ⟨vs', h5, h6⟩ := bnd_of hr
    cases h6
    obtain ⟨us, h7, h8⟩ := res_good h2 h3 h5
    refine ⟨h3.dfr, if h : us.toArray.size = 1 then us.toArray[0] else .tuple us.toArray, ?_, _, rfl, E', h2, one_good h8, h4⟩
    unfold results
    have hmm : ∀ g : ResultVar → Sem Value, (∀ x, g x = resM a x) → (fn.results.toList.mapM g).run P w' = .ok us w' := fun g hg => by
      rw [funext hg]; exact h7
    rw [Sem.run_bind, Array.mapM_eq_mapM_toList, Sem.run_map, hmm _ fun x => by cases x <;> rfl]
    rfl
  cases e with
  | normal => exact key _ he rfl
  | ret => exact key _ he rfl
  | _ => cases he
theorem callG_good (hN : NameOK P) (ho : CallOK P base ora) {ev : Code → Slo → AH → CRes} (hev : CodeOK P base ev) : CallOK P base (callG P ora ev) := by
  intro f args A v A' he
  unfold callG at he
  cases h : ora f args A with
  | none => rw [h] at he; exact callB_good hN hev f args A v A' he
  | some r =>
    rw [h] at he
    cases he
    exact ho f args A v A' h
theorem loopK_good {b : Code} {ev : Slo → AH → CRes} (hev : ∀ sl A x sl' A', ev sl A = some (x, sl', A') → ∀ E w a, RelA P E A base w → Gl P E → SimA P E sl a → b.wp P (AftC P base E w x sl' A') a w) : ∀ (m : Nat) (sl : Slo) (A : AH) (x : Exit) (sl' : Slo) (A' : AH), loopK ev m sl A = some (x, sl', A') → ∀ E w a, RelA P E A base w → Gl P E → SimA P E sl a → Code.rounds P b (AftC P base E w x sl' A') m a w
  | 0, _, _, _, _, _, he, _, _, _, _, _, _ => by cases he
  | m + 1, sl, A, x, sl', A', he, E, w, a, hR, hG, hS => by
    obtain ⟨⟨x1, sl1, A1⟩, h1, he⟩ := bnd_of (o := ev sl A) he
    rw [rounds_succ]
    refine wp_mono (hev sl A x1 sl1 A1 h1 E w a hR hG hS) ?_
    rintro e a' w' ⟨rfl, E', h2, h3, h4⟩
    cases e with
    | normal =>
      have := loopK_good hev m sl1 A1 x sl' A' he E' w' a' h2 (hG.le h4.le) h3
      exact rounds_mono (fun e a w h => h.step h4) this
    | _ =>
      cases he
      exact ⟨rfl, E', h2, h3, h4⟩
theorem evC_good (hN : NameOK P) (ho : CallOK P base ora) (hd : DrawOK P base evD) : ∀ n, CodeOK P base (evC P ora evD n)
  | 0 => fun _ _ _ _ _ _ he => by cases he
  | n + 1 => by
    have ih := evC_good hN ho hd n
    have hc := callG_good hN ho ih
    intro c sl A x sl' A' he E w a hR hG hS
    cases c with
    | skip =>
      cases he
      exact wp_skip ⟨rfl, E, hR, hS, .refl _ _⟩
    | label l =>
      cases he
      exact wp_label ⟨rfl, E, hR, hS, .refl _ _⟩
    | region id ops d =>
      cases d with
      | true =>
        obtain ⟨⟨s, B⟩, h1, he⟩ := bnd_of (o := evD (callG P ora (evC P ora evD n)) ops.toList sl A) he
        cases he
        have := hd _ hc ops.toList sl A s B h1 id E w a hR hG hS
        simpa using this
      | false =>
        obtain ⟨⟨s, B⟩, h1, he⟩ := bnd_of (o := evOps P (callG P ora (evC P ora evD n)) ops.toList ops.toList sl A) he
        cases he
        refine wp_region_list ?_
        have := ops_good hc ops.toList ops.toList sl A s B h1 E w a hR hG hS
        simpa using this
    | seq a1 b1 =>
      obtain ⟨⟨x1, sl1, A1⟩, h1, he⟩ := bnd_of (o := evC P ora evD n a1 sl A) he
      refine wp_seq (wp_mono (ih a1 sl A x1 sl1 A1 h1 E w a hR hG hS) ?_)
      rintro e a' w' ⟨rfl, E', h2, h3, h4⟩
      cases e with
      | normal => exact wp_mono (ih b1 sl1 A1 x sl' A' he E' w' a' h2 (hG.le h4.le) h3) fun e a w h => h.step h4
      | _ =>
        cases he
        exact ⟨rfl, E', h2, h3, h4⟩
    | cond y a1 b1 =>
      have hy := (hS.slots hG).at y
      have he : (match evO P sl y with | .bool true => evC P ora evD n a1 sl A | .bool false => evC P ora evD n b1 sl A | _ => none) = some (x, sl', A') := he
      split at he
      · next h =>
        rw [h] at hy
        exact wp_cond (t := true) (by rw [evF_act]; exact hy.bool) (ih a1 sl A x sl' A' he E w a hR hG hS)
      · next h =>
        rw [h] at hy
        exact wp_cond (t := false) (by rw [evF_act]; exact hy.bool) (ih b1 sl A x sl' A' he E w a hR hG hS)
      · cases he
    | block id b1 =>
      obtain ⟨⟨x1, sl1, A1⟩, h1, he⟩ := bnd_of (o := evC P ora evD n b1 sl A) he
      refine wp_block (wp_mono (ih b1 sl A x1 sl1 A1 h1 E w a hR hG hS) ?_)
      rintro e a' w' ⟨rfl, E', h2, h3, h4⟩
      cases e with
      | exit i =>
        have he : cond (Nat.beq i id) (some (Exit.normal, sl1, A1)) (some (Exit.exit i, sl1, A1)) = some (x, sl', A') := he
        show if i = id then _ else _
        cases hi : Nat.beq i id with
        | true =>
          rw [hi] at he
          cases he
          rw [if_pos (Nat.eq_of_beq_eq_true hi)]
          exact ⟨rfl, E', h2, h3, h4⟩
        | false =>
          rw [hi] at he
          cases he
          rw [if_neg (fun e => by subst e; simp at hi)]
          exact ⟨rfl, E', h2, h3, h4⟩
      | _ =>
        cases he
        exact ⟨rfl, E', h2, h3, h4⟩
    | loop b1 => exact wp_loop_rounds 100000 (loopK_good (fun sl A x sl' A' h => ih b1 sl A x sl' A' h) 100000 sl A x sl' A' he E w a hR hG hS)
    | exit i =>
      cases he
      exact wp_exit ⟨rfl, E, hR, hS, .refl _ _⟩
    | ret =>
      cases he
      exact wp_ret ⟨rfl, E, hR, hS, .refl _ _⟩
    | scope b1 =>
      obtain ⟨⟨x1, sl1, A1⟩, h1, he⟩ := bnd_of (o := evC P ora evD n b1 sl A) he
      refine wp_scope_straight (wp_mono (ih b1 sl A x1 sl1 A1 h1 E w a hR hG hS) ?_)
      rintro e a' w' ⟨rfl, E', h2, h3, h4⟩
      cases e with
      | goto _ => cases he
      | _ =>
        cases he
        exact ⟨rfl, E', h2, h3, h4⟩
    | _ => cases he
end
end Go.Proofs.YtpinhcdcnaaihaaGreatDoor
