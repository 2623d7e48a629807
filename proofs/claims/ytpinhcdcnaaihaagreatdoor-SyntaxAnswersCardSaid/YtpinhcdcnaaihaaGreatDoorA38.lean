import Derived.Test.YtpinhcdcnaaihaaGreatDoorA37
namespace Go.Proofs.YtpinhcdcnaaihaaGreatDoor
structure DrF (ops : List Oper) (n : Nat) : Prop where
  acy : acyclic ops.toArray = true
  lt : ∀ (i : Nat) o d, ops[i]? = some o → o.dst = some d → d < n
  ne : ∀ (i k : Nat) o o' d, ops[i]? = some o → ops[k]? = some o' → o.dst = some d → o'.dst = some d → i = k
  dep : ∀ (i : Nat) o t (k : Nat) o', ops[i]? = some o → t ∈ gdT ops o.guard ++ tmpsO o.op.operands.toList → ops[k]? = some o' → o'.dst = some t → k ≠ i ∧ (depB (cloG ops []) i k = true ∨ depB (cloG ops []) k i = true)
  chain : ∀ (i k : Nat) o o', ops[i]? = some o → ops[k]? = some o' → isMain o.op = true → isFl o.op = false → isMain o'.op = true → k < i → depB (cloG ops []) i k = true
  flo : ∀ (i k m : Nat) o o' o'', ops[i]? = some o → ops[k]? = some o' → ops[m]? = some o'' → isFl o'.op = true → depB (cloG ops []) i k = true → isMain o''.op = true → m < k → depB (cloG ops []) i m = true
theorem dstI_of {o : Oper} {t : Nat} (h : o.dst = some t) : dstI o t = true := by
  unfold dstI
  rw [h]
  exact Nat.beq_refl t
theorem drStat_of {ops : List Oper} {n : Nat} (h : drStat ops n = true) : DrF ops n := by
  have h : (acyclic ops.toArray && allI (fun i o => Option.rec true (fun d => Nat.blt d n && allI (fun k o' => cond (Nat.blt i k) (!dstI o' d) true) ops 0) o.dst
    && allR (fun t => allI (fun k o' => cond (dstI o' t) (!Nat.beq k i && (depB (cloG ops []) i k || depB (cloG ops []) k i)) true) ops 0) (appR (gdT ops o.guard) (tmpsO o.op.operands.toList))
    && (cond (isMain o.op && !isFl o.op) (allI (fun k o' => cond (isMain o'.op && Nat.blt k i) (depB (cloG ops []) i k) true) ops 0) true
    && allI (fun k o' => cond (isFl o'.op && depB (cloG ops []) i k) (allI (fun m o'' => cond (isMain o''.op && Nat.blt m k) (depB (cloG ops []) i m) true) ops 0) true) ops 0)) ops 0) = true := h
  rw [Bool.and_eq_true] at h
  obtain ⟨h1, h2⟩ := h
  have h3 := fun i o ho => allI_of h2 i o ho
  simp only [Nat.zero_add, Bool.and_eq_true, allR_eq, appR_eq] at h3
  have hd : ∀ (i : Nat) o d, ops[i]? = some o → o.dst = some d → Nat.blt d n = true ∧ allI (fun k o' => cond (Nat.blt i k) (!dstI o' d) true) ops 0 = true := fun i o d ho hd => by
    have := (h3 i o ho).1.1
    rw [hd] at this
    simpa using this
  have hlt : ∀ (i k : Nat) o o' d, ops[i]? = some o → ops[k]? = some o' → o.dst = some d → o'.dst = some d → ¬ i < k := fun i k o o' d ho ho' he he' hik => by
    have := allI_of (hd i o d ho he).2 k o' ho'
    rw [Nat.zero_add, blt_lt hik, dstI_of he'] at this
    cases this
  refine ⟨h1, fun i o d ho he => blt_of (hd i o d ho he).1, fun i k o o' d ho ho' he he' => ?_, fun i o t k o' ho ht ho' he' => ?_, fun i k o o' ho ho' hm hf hm' hki => ?_, fun i k m o o' o'' ho ho' ho'' hf hd' hm hmk => ?_⟩
  · have := hlt i k o o' d ho ho' he he'
    have := hlt k i o' o d ho' ho he' he
    omega
  · have := List.all_eq_true.1 (h3 i o ho).1.2 t ht
    have := allI_of this k o' ho'
    rw [Nat.zero_add, dstI_of he'] at this
    simp only [cond_true, Bool.and_eq_true, Bool.not_eq_true', Bool.or_eq_true] at this
    exact ⟨fun e => by subst e; simp at this, this.2⟩
  · have := (h3 i o ho).2.1
    rw [hm, hf] at this
    have := allI_of this k o' ho'
    rw [Nat.zero_add, hm', blt_lt hki] at this
    exact this
  · have := allI_of (h3 i o ho).2.2 k o' ho'
    rw [Nat.zero_add, hf, hd'] at this
    have := allI_of this m o'' ho''
    rw [Nat.zero_add, hm, blt_lt hmk] at this
    exact this
theorem putD_n (sl : Slo) (d : Option Nat) (v : Value) : (putD sl d v).n = sl.n := by
  cases d with
  | none => rfl
  | some d =>
    show (sset sl d v).n = sl.n
    unfold sset
    cases Nat.blt d sl.n <;> rfl
theorem putD_in {sl : Slo} {e : Nat} (h : InR sl e) (d : Option Nat) (v : Value) : InR (putD sl d v) e := by
  cases d with
  | none => exact h
  | some d => exact h.sset
theorem putD_other {sl : Slo} {t : Nat} {d : Option Nat} {v : Value} (h : d ≠ some t) : slt (putD sl d v) t = slt sl t := by
  cases d with
  | none => rfl
  | some d =>
    show slt (sset sl d v) t = _
    by_cases hd : d < sl.n
    · exact (slt_sset sl d v t hd).1 fun e => h (by rw [e])
    · have : sset sl d v = sl := by
        unfold sset
        cases hb : Nat.blt d sl.n with
        | true => exact absurd (blt_of hb) hd
        | false => rfl
      rw [this]
theorem slAt_n : ∀ (ops : List Oper) (vs : List (Bool × Value)) (sl : Slo) (i : Nat), (slAt sl ops vs i).n = sl.n
  | [], _, _, _ => by unfold slAt; rfl
  | _ :: _, [], _, _ => by unfold slAt; rfl
  | _ :: _, _ :: _, _, 0 => by unfold slAt; rfl
  | o :: ops, v :: vs, sl, i + 1 => by
    show (slAt (putD sl o.dst v.2) ops vs i).n = _
    rw [slAt_n ops vs _ i, putD_n]
theorem slAt_in : ∀ (ops : List Oper) (vs : List (Bool × Value)) (sl : Slo) (i : Nat) {e : Nat}, InR sl e → InR (slAt sl ops vs i) e
  | [], _, _, _, _, h => by unfold slAt; exact h
  | _ :: _, [], _, _, _, h => by unfold slAt; exact h
  | _ :: _, _ :: _, _, 0, _, h => by unfold slAt; exact h
  | o :: ops, v :: vs, sl, i + 1, _, h => slAt_in ops vs _ i (putD_in h o.dst v.2)
theorem slAt_other {t : Nat} : ∀ (ops : List Oper) (vs : List (Bool × Value)) (sl : Slo) (i : Nat), (∀ (k : Nat) o, k < i → ops[k]? = some o → o.dst ≠ some t) → slt (slAt sl ops vs i) t = slt sl t
  | [], _, _, _, _ => by unfold slAt; rfl
  | _ :: _, [], _, _, _ => by unfold slAt; rfl
  | _ :: _, _ :: _, _, 0, _ => by unfold slAt; rfl
  | o :: ops, v :: vs, sl, i + 1, h => by
    show slt (slAt (putD sl o.dst v.2) ops vs i) t = _
    rw [slAt_other ops vs _ i fun k o' hk ho => h (k + 1) o' (by omega) (by simpa using ho)]
    exact putD_other (h 0 o (by omega) rfl)
theorem slAt_own {t : Nat} {b : Bool} {v : Value} : ∀ (ops : List Oper) (vs : List (Bool × Value)) (sl : Slo) (i k : Nat) (o : Oper), ops[k]? = some o → o.dst = some t → k < i → vs[k]? = some (b, v) → t < sl.n → InR sl t → (∀ (k' : Nat) o', k' ≠ k → ops[k']? = some o' → o'.dst ≠ some t) → slt (slAt sl ops vs i) t = v
  | [], _, _, _, k, o, ho, _, _, _, _, _, _ => by simp at ho
  | _ :: _, [], _, _, k, _, _, _, _, hv, _, _, _ => by simp at hv
  | _ :: _, _ :: _, _, 0, k, _, _, _, h, _, _, _, _ => by omega
  | o :: ops, w :: vs, sl, i + 1, 0, o', ho, hd, _, hv, hn, hi, hu => by
    cases ho
    cases hv
    show slt (slAt (putD sl o.dst v) ops vs i) t = v
    rw [slAt_other ops vs _ i fun k o' _ ho' => hu (k + 1) o' (by omega) (by simpa using ho'), hd]
    exact slt_in hn hi
  | o :: ops, w :: vs, sl, i + 1, k + 1, o', ho, hd, hk, hv, hn, hi, hu => by
    show slt (slAt (putD sl o.dst w.2) ops vs i) t = v
    exact slAt_own ops vs _ i k o' (by simpa using ho) hd (by omega) (by simpa using hv) (by rw [putD_n]; exact hn) (putD_in hi _ _) fun k' o'' hne ho'' => hu (k' + 1) o'' (by omega) (by simpa using ho'')
theorem evGd_congr {all : List Oper} {sl sl' : Slo} {g : Option (Nat × Bool)} (h : ∀ t ∈ gdT all g, slt sl t = slt sl' t) : evGd all sl g = evGd all sl' g := by
  cases g with
  | none => rfl
  | some p =>
    show bnd (nthR all p.1) _ = bnd (nthR all p.1) _
    cases ho : nthR all p.1 with
    | none => rfl
    | some o =>
      show bnd o.dst _ = bnd o.dst _
      cases hd : o.dst with
      | none => rfl
      | some d =>
        have hm : d ∈ gdT all (some p) := by
          show d ∈ (Option.rec [] (fun o : Oper => Option.rec [] (fun d => [d]) o.dst) (nthR all p.1) : List Nat)
          rw [ho]
          show d ∈ (Option.rec [] (fun d => [d]) o.dst : List Nat)
          rw [hd]
          exact List.mem_singleton.2 rfl
        show (match slt sl d with | .bool b => some (cond b p.2 (!p.2)) | .tuple _ => some false | _ => none) = (match slt sl' d with | .bool b => some (cond b p.2 (!p.2)) | .tuple _ => some false | _ => none)
        rw [h d hm]
theorem dep_le {ops : List Oper} (hac : acyclic ops.toArray = true) {i k : Nat} (h : depB (cloG ops []) i k = true) (hi : i < ops.length) : k ≤ i := by
  have hL : ∀ m, ((Array.range ops.length).map fun m => decide (m ≤ i)).getD m false = decide (m < ops.length ∧ m ≤ i) := fun m => by
    rw [Array.getD_eq_getD_getElem?, Array.getElem?_map]
    by_cases hm : m < ops.length
    · simp [hm]
    · rw [Array.getElem?_eq_none (by simpa using hm)]
      simp [hm]
  have hc : Closed ops.toArray ((Array.range ops.length).map fun m => decide (m ≤ i)) := fun j o ho hl e he hb => by
    rw [hL] at hl ⊢
    simp only [decide_eq_true_eq] at hl ⊢
    have := List.all_eq_true.1 hac j (List.mem_range.2 (by simpa using hl.1))
    rw [ho] at this
    simp only [Option.map_some, Option.getD_some, Array.all_eq_true_iff_forall_mem, Bool.or_eq_true, decide_eq_true_eq] at this
    have := (this e he).resolve_left (by rw [hb]; decide)
    omega
  have := cloG_of hc k ops [] (fun i o h => by simpa using h) (fun i h => by simp [natAt] at h) i h (by rw [hL]; simpa using hi)
  rw [hL] at this
  simp only [decide_eq_true_eq] at this
  exact this.2
theorem mc_inj {ops : List Oper} {i k : Nat} {o o' : Oper} (ho : ops[i]? = some o) (ho' : ops[k]? = some o') (hm : isMain o.op = true) (hm' : isMain o'.op = true) (h : mcR ops i = mcR ops k) : i = k := by
  rcases Nat.lt_trichotomy i k with hlt | heq | hlt
  · have h6 := mcR_succ ho
    rw [if_pos hm] at h6
    have := mcR_mono (ops := ops) (i := i + 1) (k := k) (by omega)
    omega
  · exact heq
  · have h6 := mcR_succ ho'
    rw [if_pos hm'] at h6
    have := mcR_mono (ops := ops) (i := k + 1) (k := i) (by omega)
    omega
theorem mc_at {ops : List Oper} {j : Nat} : ∀ i, i ≤ ops.length → j < mcR ops i → ∃ (k : Nat) (o' : Oper), k < i ∧ ops[k]? = some o' ∧ isMain o'.op = true ∧ mcR ops k = j := fun m => by
  induction m with
  | zero =>
    intro _ hh
    have : mcR ops 0 = 0 := by cases ops <;> rfl
    omega
  | succ m ih =>
    intro hmi hh
    have ho' : ops[m]? = some (ops[m]'(by omega)) := List.getElem?_eq_getElem (by omega)
    have hst := mcR_succ ho'
    by_cases hlt : j < mcR ops m
    · obtain ⟨k, o'', g1, g2⟩ := ih (by omega) hlt
      exact ⟨k, o'', by omega, g2⟩
    · cases hm' : isMain (ops[m]'(by omega)).op with
      | false => rw [hm', if_neg (by simp)] at hst; omega
      | true =>
        rw [hm', if_pos rfl] at hst
        exact ⟨m, _, by omega, ho', hm', by omega⟩
theorem RelA.absorb {P : Program} {E : EE} {A : AH} {base : Nat} {w : World} (h : RelA P E A base w) {cs : List Value} {arr : Array Value} {e : TypeId} {b : Nat} (hx : A.nx < 16384) (hw : w.heap[b]? = some (.cells arr e (0, 0))) (hb : base ≤ b) (hbl : E.bl b = none) (hle : cs.length ≤ arr.size) (hv : VL P E (arr.toList.take cs.length) cs) :
    ∃ E', RelA P E' (A.grow cs A.nx []) base w ∧ E.Le E' ∧ E'.lo A.nx = some (b, 0) ∧ E'.bl b = some arr.size ∧ (∀ b', b' ≠ b → E'.bl b' = E.bl b') ∧ E'.ml = E.ml ∧ E'.tb b = some e := by
  have hE : E.Le ⟨fun n => if n = A.nx then some (b, 0) else E.lo n, fun b' => if b' = b then some arr.size else E.bl b', E.ml, fun b' => if b' = b then some e else E.tb b'⟩ := ⟨fun n x hx => by
      show (if n = A.nx then _ else _) = _
      rw [if_neg (fun e => by rw [h.new n (by omega)] at hx; cases hx)]; exact hx, fun b' s hb' => by
      show (if b' = b then _ else _) = _
      rw [if_neg (fun e => by subst e; rw [hbl] at hb'; cases hb')]; exact hb', fun _ _ h => h, fun b' t hb' => by
      show (if b' = b then _ else _) = _
      split
      · next e1 =>
        subst e1
        obtain ⟨c1, fz1, g1⟩ := h.typ b' t hb'
        rw [hw] at g1
        cases g1; rfl
      · exact hb'⟩
  refine ⟨_, h.grow (b := b) (o := 0) (s := arr.size) hx hE (if_pos rfl) (fun n hn => if_neg hn) (if_pos rfl) (by omega) (fun b' s hb' => ?_) (Nat.le_refl _) (fun i v hv' => ?_) (fun _ _ _ _ _ _ _ _ _ => rfl) (fun n r o' hr hlo => ?_) (.inl ⟨rfl, rfl⟩) rfl (fun _ _ _ h => h) (fun b' t hb' => ?_) (fun t ht => by cases ht), hE, if_pos rfl, if_pos rfl, fun b' hb' => if_neg hb', rfl, if_pos rfl⟩
  · have hb' : (if b' = b then some arr.size else E.bl b') = some s := hb'
    split at hb'
    · next e1 =>
      cases hb'
      subst e1
      exact ⟨hb, arr, e, _, hw, rfl, fun _ => .inl rfl⟩
    · next hne =>
      obtain ⟨h1, c, e', fz', h2, h3, h4⟩ := h.blk b' s hb'
      exact ⟨h1, c, e', fz', h2, h3, fun hh => h4 (hh.resolve_right hne)⟩
  · obtain ⟨u, h1, h2⟩ := hv.get i v hv'
    refine ⟨u, ?_, h2.mono hE⟩
    rw [cell_of_row w b (0 + i) arr e _ hw]
    rw [List.getElem?_take] at h1
    split at h1
    · simpa using h1
    · cases h1
  · obtain ⟨b1, o1, g1, _, g2, _⟩ := h.row n r hr
    rw [hlo] at g1; cases g1
    rcases g2 with g2 | ⟨s, g2, _⟩
    · omega
    · rw [hbl] at g2; cases g2
  · have hb' : (if b' = b then some e else E.tb b') = some t := hb'
    split at hb'
    · next e1 =>
      cases hb'
      subst e1
      exact ⟨_, _, hw⟩
    · exact h.typ b' t hb'
theorem dep_in {ops : List Oper} {L : Array Bool} (hc : Closed ops.toArray L) {i k : Nat} (h : depB (cloG ops []) i k = true) (hl : L.getD i false = true) : L.getD k false = true := cloG_of hc k ops [] (fun i o h => by simpa using h) (fun i h => by simp [natAt] at h) i h hl
end Go.Proofs.YtpinhcdcnaaihaaGreatDoor
