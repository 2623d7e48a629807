import Derived.Test.YtpinhcdcnaaihaaGreatDoorA38
namespace Go.Proofs.YtpinhcdcnaaihaaGreatDoor
noncomputable def effB (ops : List Oper) (L : Array Bool) (j k : Nat) : Bool := L.getD k false && (match ops[k]? with | some o => !isFl o.op || Nat.blt (mcR ops k) j | none => true)
theorem eff_nf {ops : List Oper} {L : Array Bool} {j k : Nat} {o : Oper} (ho : ops[k]? = some o) (hf : isFl o.op = false) (hl : L.getD k false = true) : effB ops L j k = true := by
  unfold effB
  rw [hl, ho, Bool.true_and]
  simp [hf]
theorem eff_lt {ops : List Oper} {L : Array Bool} {j k : Nat} {o : Oper} (ho : ops[k]? = some o) (hl : L.getD k false = true) (hj : mcR ops k < j) : effB ops L j k = true := by
  unfold effB
  rw [hl, ho, Bool.true_and]
  simp only [blt_lt hj, Bool.or_true]
theorem eff_pen {ops : List Oper} {L : Array Bool} {j k : Nat} {o : Oper} (ho : ops[k]? = some o) (hf : isFl o.op = true) (hj : ¬ mcR ops k < j) : effB ops L j k = false := by
  unfold effB
  have : Nat.blt (mcR ops k) j = false := by cases hb : Nat.blt (mcR ops k) j with | false => rfl | true => exact absurd (blt_of hb) hj
  rw [ho]
  simp only [hf, this]
  simp
theorem eff_same {ops : List Oper} {L L' : Array Bool} {j j' k : Nat} {o : Oper} (ho : ops[k]? = some o) (hl : L'.getD k false = L.getD k false) (hj : isFl o.op = true → (mcR ops k < j' ↔ mcR ops k < j)) : effB ops L' j' k = effB ops L j k := by
  cases hf : isFl o.op with
  | false =>
    unfold effB
    rw [hl, ho]
    simp [hf]
  | true =>
    by_cases h : mcR ops k < j
    · cases hL : L.getD k false with
      | true => rw [eff_lt ho (hl.trans hL) ((hj hf).2 h), eff_lt ho hL h]
      | false => unfold effB; rw [hl, hL]; rfl
    · rw [eff_pen ho hf h, eff_pen ho hf fun h' => h ((hj hf).1 h')]
open Classical in
noncomputable def gV (ops : List Oper) (val : Nat → Value) (sl : Slo) (L : Array Bool) (j t : Nat) : Value :=
  if h : ∃ k, (∃ o, ops[k]? = some o ∧ o.dst = some t) ∧ L.getD k false = true then (if effB ops L j h.choose = true then val h.choose else .chan (some 0)) else slt sl t
section
variable {ops : List Oper} {val : Nat → Value} {sl : Slo} {L L' : Array Bool} {t n k j j' : Nat} {o : Oper}
theorem gV_ch (hF : DrF ops n) (ho : ops[k]? = some o) (hd : o.dst = some t) (hl : L.getD k false = true) : gV ops val sl L j t = if effB ops L j k = true then val k else .chan (some 0) := by
  have h : ∃ k, (∃ o, ops[k]? = some o ∧ o.dst = some t) ∧ L.getD k false = true := ⟨k, ⟨o, ho, hd⟩, hl⟩
  unfold gV
  rw [dif_pos h]
  obtain ⟨⟨o', ho', hd'⟩, _⟩ := h.choose_spec
  rw [hF.ne _ _ _ _ _ ho' ho hd' hd]
theorem gV_own (hF : DrF ops n) (ho : ops[k]? = some o) (hd : o.dst = some t) (hl : L.getD k false = true) (he : effB ops L j k = true) : gV ops val sl L j t = val k := by rw [gV_ch hF ho hd hl, if_pos he]
theorem gV_pen (hF : DrF ops n) (ho : ops[k]? = some o) (hd : o.dst = some t) (hl : L.getD k false = true) (he : effB ops L j k = false) : gV ops val sl L j t = .chan (some 0) := by rw [gV_ch hF ho hd hl, if_neg (by rw [he]; simp)]
theorem gV_none (h : ∀ (k : Nat) o, ops[k]? = some o → o.dst = some t → L.getD k false = false) : gV ops val sl L j t = slt sl t := by
  unfold gV
  rw [dif_neg]
  rintro ⟨k, ⟨o, ho, hd⟩, hl⟩
  rw [h k o ho hd] at hl
  cases hl
theorem gV_same (hF : DrF ops n) (h : ∀ (k : Nat) o, ops[k]? = some o → o.dst = some t → L'.getD k false = L.getD k false ∧ (isFl o.op = true → (mcR ops k < j' ↔ mcR ops k < j))) : gV ops val sl L' j' t = gV ops val sl L j t := by
  by_cases hex : ∃ (k : Nat) (o' : Oper), ops[k]? = some o' ∧ o'.dst = some t
  · obtain ⟨k, o', ho', hd'⟩ := hex
    obtain ⟨h1, h2⟩ := h k o' ho' hd'
    cases hl : L.getD k false with
    | true => rw [gV_ch hF ho' hd' hl, gV_ch hF ho' hd' (h1.trans hl), eff_same ho' h1 h2]
    | false => rw [gV_none fun k' o'' ho'' hd'' => by rw [hF.ne k' k o'' o' t ho'' ho' hd'' hd']; exact h1.trans hl, gV_none fun k' o'' ho'' hd'' => by rw [hF.ne k' k o'' o' t ho'' ho' hd'' hd']; exact hl]
  · rw [gV_none fun k o' ho' hd' => absurd ⟨k, o', ho', hd'⟩ hex, gV_none fun k o' ho' hd' => absurd ⟨k, o', ho', hd'⟩ hex]
end
theorem mkSl_at (l : List Value) (n k : Nat) (t : Nat) (h : l.length ≤ 8 * k) (ht : t < l.length) : slt ⟨n, chk k l⟩ t = slr l t := (chk_in k l t h ht).2
theorem mkSl_out (l : List Value) (n k : Nat) (t : Nat) (ht : l.length ≤ t) : slt ⟨n, chk k l⟩ t = .chan (some 0) := by
  rcases chk_get k l t with h | h
  · show slr (slc (chk k l) (t / 8)) (t % 8) = _
    rw [h, slr_eq, List.getD_eq_getElem?_getD, List.getElem?_eq_none ht]
    rfl
  · exact h
theorem condT2 {b x : Bool} (h : b = true) (k : x = true) : cond b x false = true := by rw [h]; exact k
structure Pd (P : Program) (ops : List Oper) (vs : List (Bool × Value)) (Hs : List AH) (w : World) (E : EE) (W : World) (a : Act) (i : Nat) (o : Oper) (p : Nat) : Prop where
  yes : ∀ v, vs[i]? = some (true, v) → ∃ (arr : Array Value) (e : TypeId) (cs : List Value) (H : AH), Hs[mcR ops i]? = some H ∧ Hs[mcR ops i + 1]? = some (H.grow cs H.nx []) ∧ H.nx < 16384 ∧ w.heap.size ≤ p ∧ W.heap[p]? = some (.cells arr e (0, 0)) ∧ E.bl p = none ∧ (∀ n, E.ml n ≠ some p) ∧ cs.length ≤ arr.size ∧ VL P E (arr.toList.take cs.length) cs ∧ ∀ E' : EE, E.Le E' → E'.lo H.nx = some (p, 0) → E'.bl p = some arr.size → E'.tb p = some e → ∀ d, o.dst = some d → VL P E' [a.tmps.getD d undef] [v]
  no : ∀ v, vs[i]? = some (false, v) → Hs[mcR ops i + 1]? = Hs[mcR ops i]? ∧ ∀ d, o.dst = some d → VL P E [a.tmps.getD d undef] [v]
structure DI (P : Program) (base : Nat) (ops : List Oper) (val : Nat → Value) (vs : List (Bool × Value)) (sl : Slo) (Hs : List AH) (E0 : EE) (w : World) (L : Array Bool) (a : Act) (W : World) (E : EE) (j : Nat) (M : AH) (pb : Nat → Nat) : Prop where
  hM : Hs[j]? = some M
  rel : RelA P E M base W
  fr : Fr E0 E w W
  lo : ∀ (i : Nat) o, ops[i]? = some o → isMain o.op = true → mcR ops i < j → L.getD i false = true
  nf : ∀ (i : Nat) o, ops[i]? = some o → isMain o.op = true → isFl o.op = false → L.getD i false = true → mcR ops i < j
  slv : ∀ t, VL P E [a.tmps.getD t undef] [gV ops val sl L j t]
  pd : ∀ (i : Nat) o, ops[i]? = some o → isFl o.op = true → L.getD i false = true → j ≤ mcR ops i → Pd P ops vs Hs w E W a i o (pb i)
  inj : ∀ (i k : Nat) o o' v v', ops[i]? = some o → ops[k]? = some o' → isFl o.op = true → isFl o'.op = true → L.getD i false = true → L.getD k false = true → j ≤ mcR ops i → j ≤ mcR ops k → vs[i]? = some (true, v) → vs[k]? = some (true, v') → pb i = pb k → i = k
section
variable {P : Program} {base n : Nat} {ops : List Oper} {val : Nat → Value} {vs : List (Bool × Value)} {sl : Slo} {Hs : List AH} {E0 E : EE} {w W : World} {L : Array Bool} {a : Act} {j : Nat} {M : AH} {pb : Nat → Nat}
theorem Pd.le {E' : EE} {i p : Nat} {o : Oper} (h : Pd P ops vs Hs w E W a i o p) {W' : World} {a' : Act} (hE : E.Le E') (hb : p < W.heap.size → E.bl p = none → (∀ n, E.ml n ≠ some p) → W'.heap[p]? = W.heap[p]? ∧ E'.bl p = none ∧ ∀ n, E'.ml n ≠ some p) (ha : ∀ d, o.dst = some d → a'.tmps.getD d undef = a.tmps.getD d undef) : Pd P ops vs Hs w E' W' a' i o p where
  yes v hv := by
    obtain ⟨arr, e, cs, H, p1, p2, p3, p4, p5, p6, p7, p8, p9, p10⟩ := h.yes v hv
    obtain ⟨q1, q2, q3⟩ := hb (Array.getElem?_eq_some_iff.1 p5).1 p6 p7
    exact ⟨arr, e, cs, H, p1, p2, p3, p4, q1.trans p5, q2, q3, p8, p9.mono hE, fun E'' hE'' g1 g2 g3 d hd => by rw [ha d hd]; exact p10 E'' (hE.trans hE'') g1 g2 g3 d hd⟩
  no v hv := ⟨(h.no v hv).1, fun d hd => by rw [ha d hd]; exact ((h.no v hv).2 d hd).mono hE⟩
theorem DI.absorb (hF : DrF ops n) (hb : base ≤ w.heap.size) (hv : ∀ (i : Nat) o, ops[i]? = some o → ∃ b v, vs[i]? = some (b, v) ∧ val i = v) (h : DI P base ops val vs sl Hs E0 w L a W E j M pb) {i : Nat} {o : Oper} (ho : ops[i]? = some o) (hm : isMain o.op = true) (hi : mcR ops i = j) (hl : L.getD i false = true) : ∃ E' M', DI P base ops val vs sl Hs E0 w L a W E' (j + 1) M' pb := by
  have hfl : isFl o.op = true := by
    cases hf : isFl o.op with
    | true => rfl
    | false => have := h.nf i o ho hm hf hl; omega
  obtain ⟨b, v, hvs, hval⟩ := hv i o ho
  have hp := h.pd i o ho hfl hl (by omega)
  have hne : ∀ (k : Nat) o', ops[k]? = some o' → isMain o'.op = true → k ≠ i → mcR ops k ≠ j := fun k o' ho' hm' hk e => hk (mc_inj ho' ho hm' hm (by omega))
  have hg : ∀ E' : EE, E.Le E' → (∀ d, o.dst = some d → VL P E' [a.tmps.getD d undef] [v]) → ∀ t, VL P E' [a.tmps.getD t undef] [gV ops val sl L (j + 1) t] := fun E' hE hd t => by
    by_cases hdt : o.dst = some t
    · rw [gV_own hF ho hdt hl (eff_lt ho hl (by omega)), hval]
      exact hd t hdt
    · rw [gV_same (L := L) (j := j) hF fun k o' ho' hd' => ⟨rfl, fun hf' => by
        have := hne k o' ho' (isFl_main hf') fun e => by subst e; rw [ho] at ho'; cases ho'; exact hdt hd'
        omega⟩]
      exact (h.slv t).mono hE
  have hlo : ∀ (k : Nat) o', ops[k]? = some o' → isMain o'.op = true → mcR ops k < j + 1 → L.getD k false = true := fun k o' ho' hm' hk => by
    by_cases hki : k = i
    · subst hki; exact hl
    · exact h.lo k o' ho' hm' (by have := hne k o' ho' hm' hki; omega)
  have hnf : ∀ (k : Nat) o', ops[k]? = some o' → isMain o'.op = true → isFl o'.op = false → L.getD k false = true → mcR ops k < j + 1 := fun k o' ho' hm' hf' hl' => Nat.lt_succ_of_lt (h.nf k o' ho' hm' hf' hl')
  cases b with
  | true =>
    obtain ⟨arr, e, cs, H, p1, p2, p3, p4, p5, p6, p7, p8, p9, p10⟩ := hp.yes v hvs
    have hHM : H = M := by
      rw [hi, h.hM] at p1
      exact (Option.some.inj p1).symm
    subst hHM
    obtain ⟨E', r1, r2, r3, r4, r5, r6, r7⟩ := h.rel.absorb p3 p5 (Nat.le_trans hb p4) p6 p8 p9
    refine ⟨E', _, by rw [← hi]; exact p2, r1, ⟨h.fr.le.trans r2, h.fr.os, h.fr.tape, h.fr.output, h.fr.size, h.fr.block, fun b' hb' => (r5 b' (by omega)).trans (h.fr.old b' hb'), fun n b' hb' => h.fr.mold n b' (by rw [← r6]; exact hb')⟩, hlo, hnf, hg E' r2 (p10 E' r2 r3 r4 r7), fun k o' ho' hf' hl' hk => ?_, fun i1 k o1 o2 v1 v2 g1 g2 g3 g4 g5 g6 g7 g8 => h.inj i1 k o1 o2 v1 v2 g1 g2 g3 g4 g5 g6 (by omega) (by omega)⟩
    have hk' := h.pd k o' ho' hf' hl' (by omega)
    obtain ⟨bk, vk, hvk, _⟩ := hv k o' ho'
    cases bk with
    | true => exact hk'.le r2 (fun _ q6 q7 => ⟨rfl, (r5 _ fun e => by have := h.inj k i o' o vk v ho' ho hf' hfl hl' hl (by omega) (by omega) hvk hvs e; subst this; omega).trans q6, by rw [r6]; exact q7⟩) fun _ _ => rfl
    | false => exact ⟨fun v' hv' => (by rw [hvk] at hv'; cases hv'), fun v' hv' => ⟨(hk'.no v' hv').1, fun d hd => ((hk'.no v' hv').2 d hd).mono r2⟩⟩
  | false =>
    obtain ⟨p1, p2⟩ := hp.no v hvs
    exact ⟨E, M, by rw [← hi, p1, hi]; exact h.hM, h.rel, h.fr, hlo, hnf, hg E (.refl _) p2, fun k o' ho' hf' hl' hk => h.pd k o' ho' hf' hl' (by omega), fun i1 k o1 o2 v1 v2 g1 g2 g3 g4 g5 g6 g7 g8 => h.inj i1 k o1 o2 v1 v2 g1 g2 g3 g4 g5 g6 (by omega) (by omega)⟩
theorem DI.max (hF : DrF ops n) (hb : base ≤ w.heap.size) (hv : ∀ (i : Nat) o, ops[i]? = some o → ∃ b v, vs[i]? = some (b, v) ∧ val i = v) : ∀ (m : Nat) (E : EE) (j : Nat) (M : AH), Hs.length - j = m → DI P base ops val vs sl Hs E0 w L a W E j M pb → ∃ E' j' M', DI P base ops val vs sl Hs E0 w L a W E' j' M' pb ∧ ∀ (i : Nat) o, ops[i]? = some o → isMain o.op = true → mcR ops i = j' → L.getD i false = false
  | 0, E, j, M, hm, h => by
    have := (List.getElem?_eq_some_iff.1 h.hM).1
    omega
  | m + 1, E, j, M, hm, h => by
    by_cases hex : ∃ (i : Nat) (o : Oper), ops[i]? = some o ∧ isMain o.op = true ∧ mcR ops i = j ∧ L.getD i false = true
    · obtain ⟨i, o, g1, g2, g3, g4⟩ := hex
      obtain ⟨E', M', h'⟩ := h.absorb hF hb hv g1 g2 g3 g4
      exact DI.max hF hb hv m E' (j + 1) M' (by omega) h'
    · exact ⟨E, j, M, h, fun i o ho hm hi => by
        cases hl : L.getD i false with
        | false => rfl
        | true => exact absurd ⟨i, o, ho, hm, hi, hl⟩ hex⟩
end
theorem put_own {a : Act} {d : Nat} {u : Value} (h : d < a.tmps.size) : (a.put (some d) u).tmps.getD d undef = u := by
  show (a.tmps.setIfInBounds d u).getD d undef = u
  rw [Array.getD_eq_getD_getElem?, Array.getElem?_setIfInBounds, if_pos rfl, if_pos h]
  rfl
theorem put_other {a : Act} {d : Option Nat} {t : Nat} {u : Value} (h : d ≠ some t) : (a.put d u).tmps.getD t undef = a.tmps.getD t undef := by
  cases d with
  | none => rfl
  | some d =>
    show (a.tmps.setIfInBounds d u).getD t undef = _
    rw [Array.getD_eq_getD_getElem?, Array.getElem?_setIfInBounds, if_neg (fun e => h (by rw [e])), Array.getD_eq_getD_getElem?]
section
variable {P : Program} {base : Nat}
theorem draw_ok (hmx : P.follows .mixedOrders = true) : DrawOK P base (evDraw P) := by
  intro call hc ops sl A sl' A' he id E0 w a hR hG hS
  unfold evDraw at he
  obtain ⟨hst, he⟩ := cond_of he
  have hF := drStat_of hst
  obtain ⟨⟨vs, hs, s', H'⟩, h1, he⟩ := bnd_of he
  obtain ⟨h2, he⟩ := cond_of he
  cases he
  obtain ⟨f1, f2, f3, f4, f5⟩ := dr1_at h1
  generalize hval : (fun i : Nat => ((vs[i]?).getD (false, undef)).2) = val
  have hvalAt : ∀ (i : Nat) b v, vs[i]? = some (b, v) → val i = v := fun i b v h => by rw [← hval]; simp [h]
  have hvAll : ∀ (i : Nat) o, ops[i]? = some o → ∃ b v, vs[i]? = some (b, v) ∧ val i = v := fun i o ho => by
    obtain ⟨b, v, _, _, hv, _⟩ := f5 i o ho
    exact ⟨b, v, hv, hvalAt i b v hv⟩
  have hwf := hS.wf
  refine wp_region_inv (fun L a' W => L.size = ops.length ∧ Closed ops.toArray L ∧ a'.tmps.size = sl.n ∧ a'.defers = [] ∧ ∃ E j M pb, DI P base ops val vs sl (A :: hs) E0 w L a' W E j M pb ∧ ∀ (i : Nat) o, ops[i]? = some o → isMain o.op = true → mcR ops i = j → L.getD i false = false) hmx hF.acy ?_ ?_ ?_
  · have hno : ∀ k : Nat, (Array.replicate ops.toArray.size false).getD k false = false := fun k => by
      cases hl : (Array.replicate ops.toArray.size false).getD k false with
      | false => rfl
      | true => exact absurd hl on_none
    refine ⟨by simp, Closed.start _, hS.size, hS.dfr, E0, 0, A, fun _ => 0, ⟨rfl, hR.later (Nat.le_refl _) (fun _ _ => rfl), ⟨.refl _, rfl, rfl, rfl, Nat.le_refl _, fun _ _ _ _ => rfl, fun _ _ => rfl, fun _ _ h => .inl h⟩, fun i o _ _ h => absurd h (Nat.not_lt_zero _), fun i o _ _ _ h => (by rw [hno] at h; cases h), fun t => ?_, fun i o _ _ h => (by rw [hno] at h; cases h), fun i k o o' v v' _ _ _ _ h => (by rw [hno] at h; cases h)⟩, fun i o _ _ _ => hno i⟩
    rw [gV_none fun k o _ _ => hno k]
    exact hS.slot t
  · rintro L a' W i o hsz hun0 ho hw ⟨hsz', hcl, htn, hdf, E, j, M, pb, hD, hmax⟩
    have ho : ops[i]? = some o := by simpa using ho
    have hi : i < ops.length := (List.getElem?_eq_some_iff.1 ho).1
    have hun : L.getD i false = false := by
      rw [Array.getD_eq_getD_getElem?] at hun0 ⊢
      rw [Array.getElem?_eq_getElem (by omega)] at hun0 ⊢
      exact hun0
    obtain ⟨b, v, H, H1, hv, hH, hgd, hev, hmn, hln⟩ := f5 i o ho
    have hcl' : Closed ops.toArray (L.setIfInBounds i true) := hcl.step (by simpa using ho) hw
    have hdepL : ∀ k, depB (cloG ops []) i k = true → k ≠ i → L.getD k false = true := fun k hdep hne => by
      have := dep_in hcl' hdep (on_self (by omega))
      rwa [on_other (fun e => hne e.symm)] at this
    have hin : ∀ (k : Nat) o', ops[k]? = some o' → isMain o'.op = true → L.getD k false = true → (∀ (m : Nat) o'', m < k → ops[m]? = some o'' → isMain o''.op = true → L.getD m false = true) → mcR ops k < j := fun k o' ho' hm' hl' hall => by
      refine Nat.lt_of_not_le fun hle => ?_
      have hk : k < ops.length := (List.getElem?_eq_some_iff.1 ho').1
      have hst := mcR_succ ho'
      rw [if_pos hm'] at hst
      obtain ⟨m, o'', g1, g2, g3, g4⟩ := mc_at (ops := ops) (j := j) (k + 1) (by omega) (by omega)
      have g5 := hmax m o'' g2 g3 g4
      have g6 : L.getD m false = true := by
        rcases Nat.lt_or_ge m k with g | g
        · exact hall m o'' g g2 g3
        · have : m = k := by omega
          rw [this]; exact hl'
      rw [g5] at g6; cases g6
    have hlow : ∀ (k : Nat) o', ops[k]? = some o' → isMain o'.op = true → depB (cloG ops []) i k = true → k ≠ i → mcR ops k < j := fun k o' ho' hm hdep hne => by
      have hle := dep_le hF.acy hdep hi
      cases hf : isFl o'.op with
      | false => exact hD.nf k o' ho' hm hf (hdepL k hdep hne)
      | true => exact hin k o' ho' hm (hdepL k hdep hne) fun m o'' hmk ho'' hm'' => hdepL m (hF.flo i k m o o' o'' ho ho' ho'' hf hdep hm'' hmk) (by omega)
    have hhigh : ∀ (k : Nat) o', ops[k]? = some o' → isMain o'.op = true → depB (cloG ops []) k i = true → j ≤ mcR ops k := fun k o' ho' hm hdep => by
      refine Nat.le_of_not_lt fun h => ?_
      have := dep_in hcl hdep (hD.lo k o' ho' hm h)
      rw [hun] at this; cases this
    have hnlo : isMain o.op = true → ¬ mcR ops i < j := fun hm h => by
      have := hD.lo i o ho hm h
      rw [hun] at this; cases this
    -- canonical slots
    have hcan : ∀ t ∈ gdT ops o.guard ++ tmpsO o.op.operands.toList, gV ops val sl L j t = slt (slAt sl ops vs i) t := fun t ht => by
      by_cases hex : ∃ (k : Nat) (o' : Oper), ops[k]? = some o' ∧ o'.dst = some t
      · obtain ⟨k, o', ho', hd⟩ := hex
        have hk : k < ops.length := (List.getElem?_eq_some_iff.1 ho').1
        obtain ⟨hne, hdep⟩ := hF.dep i o t k o' ho ht ho' hd
        rcases hdep with hdep | hdep
        · have hle := dep_le hF.acy hdep hi
          have hLk := hdepL k hdep hne
          have heff : effB ops L j k = true := by
            cases hf : isFl o'.op with
            | false => exact eff_nf ho' hf hLk
            | true => exact eff_lt ho' hLk (hlow k o' ho' (isFl_main hf) hdep hne)
          obtain ⟨b, v, _, _, hv, _⟩ := f5 k o' ho'
          rw [gV_own hF ho' hd hLk heff, hvalAt k b v hv]
          have htn := hF.lt k o' t ho' hd
          exact (slAt_own ops vs sl i k o' ho' hd (by omega) hv htn (hwf t htn) fun k' o'' hk' ho'' hd'' => hk' (hF.ne k' k o'' o' t ho'' ho' hd'' hd)).symm
        · have hle := dep_le hF.acy hdep hk
          have hLk : L.getD k false = false := by
            cases hl : L.getD k false with
            | false => rfl
            | true =>
              have := dep_in hcl hdep hl
              rw [hun] at this; cases this
          rw [gV_none fun k' o'' ho'' hd'' => by rw [hF.ne k' k o'' o' t ho'' ho' hd'' hd]; exact hLk]
          exact (slAt_other ops vs sl i fun k' o'' hk' ho'' hd'' => by
            have := hF.ne k' k o'' o' t ho'' ho' hd'' hd
            omega).symm
      · rw [gV_none fun k o' ho' hd => absurd ⟨k, o', ho', hd⟩ hex]
        exact (slAt_other ops vs sl i fun k o' _ ho' hd => hex ⟨k, o', ho', hd⟩).symm
    -- the abstract slots at this point
    obtain ⟨N, hN⟩ : ∃ N, ∀ t ∈ gdT ops o.guard ++ tmpsO o.op.operands.toList, t < N := by
      generalize gdT ops o.guard ++ tmpsO o.op.operands.toList = l
      induction l with
      | nil => exact ⟨0, fun t h => by cases h⟩
      | cons x l ih =>
        obtain ⟨N, hN⟩ := ih
        refine ⟨N + x + 1, fun t h => ?_⟩
        rcases List.mem_cons.1 h with rfl | h
        · omega
        · have := hN t h; omega
    let S : Slo := ⟨sl.n, chk N ((List.range N).map (gV ops val sl L j))⟩
    have hlen : ((List.range N).map (gV ops val sl L j)).length = N := by simp
    have hSat : ∀ t, t < N → slt S t = gV ops val sl L j t := fun t ht => by
      show slt ⟨sl.n, chk N _⟩ t = _
      rw [mkSl_at _ _ _ _ (by rw [hlen]; omega) (by rw [hlen]; exact ht), slr_eq, List.getD_eq_getElem?_getD, List.getElem?_map, List.getElem?_range ht]
      rfl
    have hSV : ∀ t, VL P E [a'.tmps.getD t undef] [slt S t] := fun t => by
      by_cases ht : t < N
      · rw [hSat t ht]; exact hD.slv t
      · have : slt S t = .chan (some 0) := mkSl_out _ _ _ _ (by rw [hlen]; omega)
        rw [this]
        exact .any _ .nil
    have heq : ∀ t ∈ gdT ops o.guard ++ tmpsO o.op.operands.toList, slt S t = slt (slAt sl ops vs i) t := fun t ht => by rw [hSat t (hN t ht), hcan t ht]
    have hgS : evGd ops S o.guard = some b := by
      rw [← hgd]
      exact evGd_congr fun t ht => heq t (List.mem_append_left _ ht)
    have hwant := gd_good (o := o) hSV hgS
    have hopS : ∀ K, evOp P call S K o = evOp P call (slAt sl ops vs i) K o := fun K => evOp_congr fun x hx => by
      cases x with
      | tmp t => exact heq t (List.mem_append_right _ (tmpsO_mem hx))
      | const _ => rfl
      | global _ => rfl
      | func _ => rfl
    have hjm : isMain o.op = true → isFl o.op = false → j = mcR ops i := fun hm hf => by
      refine Nat.le_antisymm (Nat.le_of_not_lt (hnlo hm)) (Nat.le_of_not_lt fun h => ?_)
      obtain ⟨k, o', g1, g2, g3, g4⟩ := mc_at (ops := ops) (j := j) i (by omega) h
      have := hdepL k (hF.chain i k o o' ho g2 hm hf g3 g1) (by omega)
      rw [hmax k o' g2 g3 g4] at this; cases this
    have hlight : isMain o.op = false → b = true → ∃ A2, evOp P call S M o = some (v, A2) ∧ A2.nx = M.nx := fun hm hb => by
      subst hb
      rw [if_pos rfl] at hev
      rw [hopS]
      have hM := hD.hM
      cases hs with
      | nil =>
        have hj0 : j = 0 := by
          have := (List.getElem?_eq_some_iff.1 hM).1
          simp at this; omega
        have hm0 : mcR ops i = 0 := by
          have := (List.getElem?_eq_some_iff.1 hH).1
          simp at this; omega
        subst hj0
        rw [hm0] at hH
        rw [hM] at hH
        cases hH
        exact ⟨H1, hev, by rw [hln hm]⟩
      | cons h0 hs' =>
        refine dr2_at h2 i o v ho hv hm j M hM ?_
        unfold mayB
        have key : ∀ (l : List Oper) (s : Nat), (∀ k o', l[k]? = some o' → ops[s + k]? = some o') → allI (fun k o => cond (isMain o.op) (cond (depB (cloG ops []) (0 + i) k) (Nat.blt (mcR ops k) j) true && cond (depB (cloG ops []) k (0 + i)) (Nat.ble j (mcR ops k)) true) true) l s = true := fun l => by
          induction l with
          | nil => intro s _; rfl
          | cons x l ih =>
            intro s hl
            have hx : ops[s]? = some x := by simpa using hl 0 x rfl
            have h5 : cond (isMain x.op) (cond (depB (cloG ops []) (0 + i) s) (Nat.blt (mcR ops s) j) true && cond (depB (cloG ops []) s (0 + i)) (Nat.ble j (mcR ops s)) true) true = true := by
              rw [Nat.zero_add]
              cases hmx : isMain x.op with
              | false => rfl
              | true =>
                have hne : s ≠ i := fun e => by
                  subst e
                  rw [ho] at hx; cases hx
                  rw [hm] at hmx; cases hmx
                show (cond (depB (cloG ops []) i s) (Nat.blt (mcR ops s) j) true && cond (depB (cloG ops []) s i) (Nat.ble j (mcR ops s)) true) = true
                rw [Bool.and_eq_true]
                constructor
                · cases hd : depB (cloG ops []) i s with
                  | false => rfl
                  | true => exact blt_lt (hlow s x hx hmx hd hne)
                · cases hd : depB (cloG ops []) s i with
                  | false => rfl
                  | true => exact Nat.ble_eq ▸ (hhigh s x hx hmx hd)
            exact condT2 h5 (ih (s + 1) fun k o' hk => by
              have := hl (k + 1) o' (by simpa using hk)
              rw [show s + 1 + k = s + (k + 1) by omega]
              exact this)
        exact key ops 0 fun k o' hk => by rw [Nat.zero_add]; exact hk
    have hsz2 : (L.setIfInBounds i true).size = ops.length := by simpa using hsz'
    have hput : ∀ u : Value, (a'.put o.dst u).tmps.size = sl.n ∧ (a'.put o.dst u).defers = [] := fun u => by
      cases hd : o.dst with
      | none => exact ⟨htn, hdf⟩
      | some d => exact ⟨by show (a'.tmps.setIfInBounds d u).size = _; rw [Array.size_setIfInBounds]; exact htn, hdf⟩
    have hoth : ∀ (k : Nat) o' d, ops[k]? = some o' → k ≠ i → o'.dst = some d → o.dst ≠ some d := fun k o' d ho' hk hd hd' => hk (hF.ne k i o' o d ho' ho hd hd')
    have done : ∀ (u : Value) (W' : World) (E' : EE) (j' : Nat) (M' : AH) pb', DI P base ops val vs sl (A :: hs) E0 w (L.setIfInBounds i true) (a'.put o.dst u) W' E' j' M' pb' → (L.setIfInBounds i true).size = ops.length ∧ Closed ops.toArray (L.setIfInBounds i true) ∧ (a'.put o.dst u).tmps.size = sl.n ∧ (a'.put o.dst u).defers = [] ∧ ∃ E j M pb, DI P base ops val vs sl (A :: hs) E0 w (L.setIfInBounds i true) (a'.put o.dst u) W' E j M pb ∧ ∀ (i' : Nat) o, ops[i']? = some o → isMain o.op = true → mcR ops i' = j → (L.setIfInBounds i true).getD i' false = false := fun u W' E' j' M' pb' h => by
      obtain ⟨E2, j2, M2, g1, g2⟩ := DI.max hF hR.base hvAll _ E' j' M' rfl h
      exact ⟨hsz2, hcl', (hput u).1, (hput u).2, E2, j2, M2, pb', g1, g2⟩
    -- an operation that is not a row's making
    have fin : isFl o.op = false → ∀ (u : Value) (W' : World) (E' : EE) (M' : AH), RelA P E' M' base W' → VL P E' [u] [v] → Fr E E' W W' → (isMain o.op = true → M' = H1) → (isMain o.op = false → M' = M) → ∃ j', DI P base ops val vs sl (A :: hs) E0 w (L.setIfInBounds i true) (a'.put o.dst u) W' E' j' M' pb := fun hf u W' E' M' g1 g2 g3 g4 g5 => by
      have hfn : ∀ (k : Nat) o', ops[k]? = some o' → isFl o'.op = true → k ≠ i := fun k o' ho' hf' e => by
        subst e; rw [ho] at ho'; cases ho'; rw [hf] at hf'; cases hf'
      have hjj : ∀ (k : Nat) o', ops[k]? = some o' → isMain o'.op = true → k ≠ i → (mcR ops k < (if isMain o.op = true then j + 1 else j) ↔ mcR ops k < j) := fun k o' ho' hm' hk => by
        split
        · next hm =>
          have h6 := hjm hm hf
          have : mcR ops k ≠ mcR ops i := fun e => hk (mc_inj ho' ho hm' hm e)
          omega
        · exact Iff.rfl
      refine ⟨if isMain o.op = true then j + 1 else j, ?_, g1, hD.fr.trans g3, fun k o' ho' hm' hk => ?_, fun k o' ho' hm' hf' hl' => ?_, fun t => ?_, fun k o' ho' hf' hl' hk => ?_, fun i1 k o1 o2 v1 v2 q1 q2 q3 q4 q5 q6 q7 q8 => ?_⟩
      · split
        · next hm => rw [hjm hm hf, g4 hm]; exact hmn hm
        · next hm => rw [g5 (by simpa using hm)]; exact hD.hM
      · by_cases hki : k = i
        · subst hki; exact on_self (by omega)
        · rw [on_other (fun e => hki e.symm)]
          exact hD.lo k o' ho' hm' ((hjj k o' ho' hm' hki).1 hk)
      · by_cases hki : k = i
        · subst hki
          rw [ho] at ho'; cases ho'
          rw [if_pos hm', ← hjm hm' hf]
          exact Nat.lt_succ_self j
        · rw [on_other (fun e => hki e.symm)] at hl'
          exact (hjj k o' ho' hm' hki).2 (hD.nf k o' ho' hm' hf' hl')
      · by_cases hd : o.dst = some t
        · have htl := hF.lt i o t ho hd
          rw [gV_own hF ho hd (on_self (by omega)) (eff_nf ho hf (on_self (by omega))), hvalAt i b v hv, hd, put_own (by rw [htn]; exact htl)]
          exact g2
        · rw [put_other hd, gV_same (L := L) (j := j) hF fun k o' ho' hd' => ?_]
          · exact (hD.slv t).mono g3.le
          · have hki : k ≠ i := fun e => by subst e; rw [ho] at ho'; cases ho'; exact hd hd'
            exact ⟨on_other fun e => hki e.symm, fun hf' => hjj k o' ho' (isFl_main hf') hki⟩
      · have hki := hfn k o' ho' hf'
        rw [on_other (fun e => hki e.symm)] at hl'
        have hk' : j ≤ mcR ops k := Nat.le_of_not_lt fun h => absurd ((hjj k o' ho' (isFl_main hf') hki).2 h) (Nat.not_lt.2 hk)
        exact (hD.pd k o' ho' hf' hl' hk').le g3.le (fun p1 p2 p3 => ⟨g3.block _ p1 p2 p3, (g3.old _ p1).trans p2, fun n e => by
          rcases g3.mold n _ e with h | h
          · exact p3 n h
          · omega⟩) fun d hd => put_other (hoth k o' d ho' hki hd)
      · have k1 := hfn i1 o1 q1 q3
        have k2 := hfn k o2 q2 q4
        rw [on_other (fun e => k1 e.symm)] at q5
        rw [on_other (fun e => k2 e.symm)] at q6
        exact hD.inj i1 k o1 o2 v1 v2 q1 q2 q3 q4 q5 q6 (Nat.le_of_not_lt fun h => absurd ((hjj i1 o1 q1 (isFl_main q3) k1).2 h) (Nat.not_lt.2 q7)) (Nat.le_of_not_lt fun h => absurd ((hjj k o2 q2 (isFl_main q4) k2).2 h) (Nat.not_lt.2 q8))
    -- a row's making
    have finF : isFl o.op = true → ∀ (u : Value) (W' : World) (q : Nat), W.heap.size ≤ W'.heap.size → (∀ p, p < W.heap.size → W'.heap[p]? = W.heap[p]?) → W'.os = W.os → W'.tape = W.tape → W'.output = W.output → (b = true → q = W.heap.size) → Pd P ops vs (A :: hs) w E W' (a'.put o.dst u) i o q → DI P base ops val vs sl (A :: hs) E0 w (L.setIfInBounds i true) (a'.put o.dst u) W' E j M (fun k => if k = i then q else pb k) := fun hf u W' q g1 g2 g3 g4 g5 g6 g7 => by
      have hm := isFl_main hf
      have hlo := hnlo hm
      have hplt : ∀ (k : Nat) o' v', ops[k]? = some o' → isFl o'.op = true → L.getD k false = true → j ≤ mcR ops k → vs[k]? = some (true, v') → pb k < W.heap.size := fun k o' v' ho' hf' hl' hk hv' => by
        obtain ⟨_, _, _, _, _, _, _, _, p5, _⟩ := (hD.pd k o' ho' hf' hl' hk).yes v' hv'
        exact (Array.getElem?_eq_some_iff.1 p5).1
      refine ⟨hD.hM, hD.rel.later g1 g2, hD.fr.trans ⟨.refl _, g3, g4, g5, g1, fun p hp _ _ => g2 p hp, fun _ _ => rfl, fun _ _ h => .inl h⟩, fun k o' ho' hm' hk => ?_, fun k o' ho' hm' hf' hl' => ?_, fun t => ?_, fun k o' ho' hf' hl' hk => ?_, fun i1 k o1 o2 v1 v2 q1 q2 q3 q4 q5 q6 q7 q8 q9 q10 q11 => ?_⟩
      · have hki : k ≠ i := fun e => by subst e; exact hlo hk
        rw [on_other (fun e => hki e.symm)]
        exact hD.lo k o' ho' hm' hk
      · have hki : k ≠ i := fun e => by subst e; rw [ho] at ho'; cases ho'; rw [hf] at hf'; cases hf'
        rw [on_other (fun e => hki e.symm)] at hl'
        exact hD.nf k o' ho' hm' hf' hl'
      · by_cases hd : o.dst = some t
        · rw [gV_pen hF ho hd (on_self (by omega)) (eff_pen ho hf hlo)]
          exact .any _ .nil
        · rw [put_other hd, gV_same (L := L) (j := j) hF fun k o' ho' hd' => ?_]
          · exact hD.slv t
          · have hki : k ≠ i := fun e => by subst e; rw [ho] at ho'; cases ho'; exact hd hd'
            exact ⟨on_other fun e => hki e.symm, fun _ => Iff.rfl⟩
      · show Pd P ops vs (A :: hs) w E W' (a'.put o.dst u) k o' (if k = i then q else pb k)
        by_cases hki : k = i
        · subst hki
          rw [ho] at ho'; cases ho'
          rw [if_pos rfl]
          exact g7
        · rw [on_other (fun e => hki e.symm)] at hl'
          rw [if_neg hki]
          exact (hD.pd k o' ho' hf' hl' hk).le (.refl _) (fun p1 p2 p3 => ⟨g2 _ p1, p2, p3⟩) fun d hd => put_other (hoth k o' d ho' hki hd)
      · have q11 : (if i1 = i then q else pb i1) = (if k = i then q else pb k) := q11
        by_cases k1 : i1 = i
        · by_cases k2 : k = i
          · rw [k1, k2]
          · rw [if_pos k1, if_neg k2] at q11
            rw [on_other (fun e => k2 e.symm)] at q6
            have := hplt k o2 v2 q2 q4 q6 q8 q10
            have hb : b = true := by subst k1; rw [hv] at q9; cases q9; rfl
            have := g6 hb
            omega
        · rw [on_other (fun e => k1 e.symm)] at q5
          by_cases k2 : k = i
          · rw [if_neg k1, if_pos k2] at q11
            have := hplt i1 o1 v1 q1 q3 q5 q7 q9
            have hb : b = true := by subst k2; rw [hv] at q10; cases q10; rfl
            have := g6 hb
            omega
          · rw [if_neg k1, if_neg k2] at q11
            rw [on_other (fun e => k2 e.symm)] at q6
            exact hD.inj i1 k o1 o2 v1 v2 q1 q2 q3 q4 q5 q6 q7 q8 q9 q10 q11
    unfold wpList
    rw [hwant]
    cases b with
    | true =>
      rw [if_pos rfl] at hev ⊢
      refine .inl ?_
      cases hf : isFl o.op with
      | true =>
        obtain ⟨cs, hx, hH1, hrun⟩ := newer_op (P := P) (call := call) (sl := S) (A := H) hf v H1 (by rw [hopS]; exact hev)
        obtain ⟨arr, e, u, r1, r2, r3, r4⟩ := hrun E W (fun s => a'.tmps.getD s undef) ⟨hSV, hG.le hD.fr.le⟩
        have h9 : OpY P o (fun s => a'.tmps.getD s undef) W (fun u' W' => u' = u ∧ W' = W.alloc (.cells arr e)) := .of_ok r1 ⟨rfl, rfl⟩
        refine Oper.wp_mono ?_ h9.wp
        rintro a'' W'' ⟨u', rfl, rfl, rfl⟩
        have hpush : ∀ p, p < W.heap.size → (W.alloc (.cells arr e)).heap[p]? = W.heap[p]? := fun p hp => by
          show (W.heap.push _)[p]? = _
          rw [Array.getElem?_push, if_neg (by omega)]
        refine done u' _ E j M _ (finF hf u' _ W.heap.size (by show _ ≤ (W.heap.push _).size; simp) hpush rfl rfl rfl (fun _ => rfl) ⟨fun v' hv' => ?_, fun v' hv' => (by rw [hv] at hv'; cases hv')⟩)
        rw [hv] at hv'; cases hv'
        refine ⟨arr, e, cs, H, hH, by rw [← hH1]; exact hmn (isFl_main hf), hx, hD.fr.size, by show (W.heap.push _)[W.heap.size]? = _; simp, ?_, fun n hn => by have := hD.rel.mlt n _ hn; omega, r2, r3, fun E' q1 q2 q3 q4 d hd => ?_⟩
        · cases hb : E.bl W.heap.size with
          | none => rfl
          | some s =>
            obtain ⟨_, c, e, fz, q2, _⟩ := hD.rel.blk _ _ hb
            have := (Array.getElem?_eq_some_iff.1 q2).1
            omega
        · rw [hd, put_own (by rw [htn]; exact hF.lt i o d ho hd)]
          exact r4 E' q1 q2 q3 q4
      | false =>
        have hM := hD.hM
        have hrun : ∃ M', evOp P call S M o = some (v, M') ∧ (isMain o.op = true → M' = H1) ∧ (isMain o.op = false → M' = M) := by
          cases hm : isMain o.op with
          | true =>
            have : M = H := by
              rw [hjm hm hf, hH] at hM
              exact (Option.some.inj hM).symm
            exact ⟨H1, by rw [hopS, this]; exact hev, fun _ => rfl, fun h => by cases h⟩
          | false =>
            obtain ⟨A2, h6, h6'⟩ := hlight hm rfl
            exact ⟨A2, h6, fun h => (by cases h), fun _ => light_heap hm h6 h6'⟩
        obtain ⟨M', h6, h7, h8⟩ := hrun
        have h9 := (good_op (o := o) hc v M' h6 E W _ hD.rel ⟨hSV, hG.le hD.fr.le⟩)
        refine Oper.wp_mono ?_ h9.wp
        rintro a'' W'' ⟨u, rfl, E', g1, g2, g3⟩
        obtain ⟨j', h⟩ := fin hf u W'' E' M' g1 g2 g3 h7 h8
        exact done u W'' E' j' M' pb h
    | false =>
      rw [if_neg (by simp)] at hev ⊢
      obtain ⟨hv0, hH1⟩ := hev
      cases hf : isFl o.op with
      | true =>
        refine done undef W E j M _ (finF hf undef W 0 (Nat.le_refl _) (fun _ _ => rfl) rfl rfl rfl (fun h => by cases h) ⟨fun v' hv' => (by rw [hv] at hv'; cases hv'), fun v' hv' => ?_⟩)
        rw [hv] at hv'; cases hv'
        refine ⟨by rw [hmn (isFl_main hf), hH1, hH], fun d hd => ?_⟩
        rw [hd, put_own (by rw [htn]; exact hF.lt i o d ho hd), hv0]
        exact undefV
      | false =>
        have hM := hD.hM
        obtain ⟨j', h⟩ := fin hf undef W E M hD.rel (by rw [hv0]; exact undefV) (.refl _ _) (fun hm => by
          rw [hH1]
          rw [hjm hm hf, hH] at hM
          exact (Option.some.inj hM).symm) fun _ => rfl
        exact done undef W E j' M pb h
  · rintro L a' W hall ⟨hsz', hcl, htn, hdf, E, j, M, pb, hD, hmax⟩
    have hall : ∀ i, i < ops.length → L.getD i false = true := fun i hi => hall i (by simpa using hi)
    have hM := hD.hM
    have hjr : j = mcR ops ops.length := by
      have h3 : j ≤ mcR ops ops.length := by
        have := (List.getElem?_eq_some_iff.1 hM).1
        simp only [List.length_cons] at this
        omega
      refine Nat.le_antisymm h3 (Nat.le_of_not_lt fun h => ?_)
      obtain ⟨k, o', g1, g2, g3, g4⟩ := mc_at (ops := ops) (j := j) ops.length (Nat.le_refl _) h
      have := hmax k o' g2 g3 g4
      rw [hall k g1] at this; cases this
    have hMA : M = H' := by
      rw [hjr, f3] at hM
      exact (Option.some.inj hM).symm
    subst hMA
    rw [f2]
    refine ⟨rfl, E, hD.rel, ⟨by rw [slAt_n]; exact htn, fun d hd => slAt_in ops vs sl _ (hwf d (by rwa [slAt_n] at hd)), fun t => ?_, hdf⟩, hD.fr⟩
    have h5 := hD.slv t
    by_cases hex : ∃ (k : Nat) (o' : Oper), ops[k]? = some o' ∧ o'.dst = some t
    · obtain ⟨k, o', ho', hd'⟩ := hex
      have hk : k < ops.length := (List.getElem?_eq_some_iff.1 ho').1
      have heff : effB ops L j k = true := by
        cases hf : isFl o'.op with
        | false => exact eff_nf ho' hf (hall k hk)
        | true =>
          refine eff_lt ho' (hall k hk) ?_
          have h6 := mcR_succ ho'
          rw [if_pos (isFl_main hf)] at h6
          have := mcR_mono (ops := ops) (i := k + 1) (k := ops.length) (by omega)
          omega
      obtain ⟨b, v, _, _, hv, _⟩ := f5 k o' ho'
      rw [gV_own hF ho' hd' (hall k hk) heff, hvalAt k b v hv] at h5
      have htn' := hF.lt k o' t ho' hd'
      rw [slAt_own ops vs sl ops.length k o' ho' hd' hk hv htn' (hwf t htn') fun k' o'' hk' ho'' hd'' => hk' (hF.ne k' k o'' o' t ho'' ho' hd'' hd')]
      exact h5
    · rw [gV_none fun k o' ho' hd' => absurd ⟨k, o', ho', hd'⟩ hex] at h5
      rw [slAt_other ops vs sl _ fun k o' _ ho' hd' => hex ⟨k, o', ho', hd'⟩]
      exact h5
end
end Go.Proofs.YtpinhcdcnaaihaaGreatDoor
