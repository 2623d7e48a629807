import Derived.Test.YtpinhcdcnaaihaaGreatDoorA27
namespace Go.Proofs.YtpinhcdcnaaihaaGreatDoor
noncomputable def AH.grow (A : AH) (cs : List Value) (f : Nat) (l : List Nat) (ty : Nat := 0) : AH := ⟨A.t.set evD A.nx (some ⟨cs, f, false, ty⟩), A.nx + 1, A.fm.set evD f (some (A.nx :: l)), A.nm, A.mp⟩
section
variable {P : Program} {E E' : EE} {A : AH} {base : Nat} {w w' : World}
theorem grow_get (hx : A.nx < 16384) {cs : List Value} {f : Nat} {l : List Nat} {ty : Nat} (m : Nat) : (A.grow cs f l ty).get m = if m = A.nx then some ⟨cs, f, false, ty⟩ else A.get m := AH.get_put (A := A) (x := some ⟨cs, f, false, ty⟩) hx m
theorem grow_fget {cs : List Value} {f : Nat} {l : List Nat} {ty : Nat} (hf : f < 16384) (m : Nat) : (A.grow cs f l ty).fget m = if m = f then some (A.nx :: l) else A.fget m := AH.fget_fput (A := A) hf m
theorem RelA.grow (h : RelA P E A base w) {cs : List Value} {f : Nat} {l : List Nat} {ty : Nat} {b o s : Nat} (hx : A.nx < 16384) (hE : E.Le E') (hlo : E'.lo A.nx = some (b, o)) (hlo' : ∀ n, n ≠ A.nx → E'.lo n = E.lo n) (hbl : E'.bl b = some s) (hs : o + cs.length ≤ s)
    (hblk : ∀ b' s, E'.bl b' = some s → base ≤ b' ∧ ∃ c e fz, w'.heap[b']? = some (.cells c e fz) ∧ c.size = s ∧ (Hot E A b' ∨ b' = b → FzB s fz)) (hsz : w.heap.size ≤ w'.heap.size) (hcell : ∀ i v, cs[i]? = some v → ∃ u, w'.cell? ⟨b, o + i, none⟩ = some u ∧ VL P E' [u] [v])
    (hold : ∀ n r b' o', A.get n = some r → E.lo n = some (b', o') → ∀ i v, r.cs[i]? = some v → w'.cell? ⟨b', o' + i, none⟩ = w.cell? ⟨b', o' + i, none⟩)
    (hsep : ∀ n r o', A.get n = some r → E.lo n = some (b, o') → r.fam = f ∧ o' + r.cs.length ≤ o + cs.length) (hl : (f = A.nx ∧ l = []) ∨ A.fget f = some l) (hml : E'.ml = E.ml) (hmw : ∀ (b : Nat) es cl, w.heap[b]? = some (.map es cl) → w'.heap[b]? = some (.map es cl)) (hty : ∀ b t, E'.tb b = some t → ∃ c fz, w'.heap[b]? = some (.cells c t fz)) (hrt : ∀ t, ty = t + 1 → E'.tb b = some t) : RelA P E' (A.grow cs f l ty) base w' := by
  have hf : f ≤ A.nx := by
    rcases hl with h1 | h1
    · omega
    · have := (h.mem _ _ h1).1; omega
  have hg := grow_get (cs := cs) (f := f) (l := l) (ty := ty) hx
  have hfg := grow_fget (A := A) (cs := cs) (f := f) (l := l) (ty := ty) (by omega)
  have hgo : ∀ n r, (A.grow cs f l ty).get n = some r → (n = A.nx ∧ r = ⟨cs, f, false, ty⟩) ∨ (n ≠ A.nx ∧ A.get n = some r) := fun n r hr => by
    rw [hg] at hr
    split at hr
    · next e => cases hr; exact .inl ⟨e, rfl⟩
    · next e => exact .inr ⟨e, hr⟩
  have hbw : ∀ n r, A.get n = some r → n < A.nx := fun n r hr => (h.fam n r hr).1
  have hblk' : ∀ b' s, E'.bl b' = some s → base ≤ b' ∧ ∃ c e fz, w'.heap[b']? = some (.cells c e fz) ∧ c.size = s ∧ (Hot E' (A.grow cs f l ty) b' → FzB s fz) := fun b' s' hb' => by
    obtain ⟨h1, c, e, fz, h2, h3, h4⟩ := hblk b' s' hb'
    refine ⟨h1, c, e, fz, h2, h3, fun ⟨n, r, o', g1, g2, g3⟩ => h4 ?_⟩
    rcases hgo n r g1 with ⟨rfl, rfl⟩ | ⟨hne, g1⟩
    · rw [hlo] at g3; cases g3
      exact .inr rfl
    · rw [hlo' n hne] at g3
      exact .inl ⟨n, r, o', g1, g2, g3⟩
  refine ⟨fun n r hr => ?_, hblk', fun n m r q b1 o1 o2 h1 h2 h3 h4 => ?_, fun n r hr => ?_, fun f' n l' hl' r m q b1 o1 o2 h1 h2 h3 h4 h5 => ?_, fun f' l' hl' => ?_, fun n hn => ?_, ?_, fun n cs' hm => ?_, by rw [hml]; exact h.minj, by rw [hml]; exact h.mnew, fun n b hb => Nat.lt_of_lt_of_le (h.mlt n b (by rw [← hml]; exact hb)) hsz, Nat.le_trans h.base hsz, hty, fun n r t hr ht => ?_⟩
  · rcases hgo n r hr with ⟨rfl, rfl⟩ | ⟨hne, hr⟩
    · obtain ⟨_, c, e, fz, h1, _⟩ := hblk b s hbl
      exact ⟨b, o, hlo, (Array.getElem?_eq_some_iff.1 h1).1, .inr ⟨s, hbl, hs⟩, hcell⟩
    · obtain ⟨b', o', h1, h2, h3, h4⟩ := h.row n r hr
      refine ⟨b', o', by rw [hlo' n hne]; exact h1, Nat.lt_of_lt_of_le h2 hsz, h3.imp id fun ⟨s', h5, h6⟩ => ⟨s', hE.bl _ _ h5, h6⟩, fun i v hv => ?_⟩
      · obtain ⟨u, h5, h6⟩ := h4 i v hv
        exact ⟨u, (hold n r b' o' hr h1 i v hv).trans h5, h6.mono hE⟩
  · rcases hgo n r h1 with ⟨rfl, rfl⟩ | ⟨hne, h1⟩
    · rcases hgo m q h2 with ⟨rfl, rfl⟩ | ⟨hne', h2⟩
      · exact .inl rfl
      · rw [hlo] at h3; cases h3
        rw [hlo' m hne'] at h4
        exact .inr (hsep m q _ h2 h4).1.symm
    · rw [hlo' n hne] at h3
      rcases hgo m q h2 with ⟨rfl, rfl⟩ | ⟨hne', h2⟩
      · rw [hlo] at h4; cases h4
        exact .inr (hsep n r _ h1 h3).1
      · rw [hlo' m hne'] at h4
        exact h.sep n m r q b1 o1 o2 h1 h2 h3 h4
  · show n < A.nx + 1 ∧ r.fam < A.nx + 1 ∧ _
    rcases hgo n r hr with ⟨rfl, rfl⟩ | ⟨hne, hr⟩
    · exact ⟨by omega, by show f < _; omega, A.nx :: l, by rw [hfg, if_pos rfl], List.mem_cons_self ..⟩
    · obtain ⟨h1, h2, l', h3, h4⟩ := h.fam n r hr
      refine ⟨by omega, by omega, ?_⟩
      rw [hfg]
      split
      · next e =>
        rcases hl with h5 | h5
        · omega
        · rw [← e, h3] at h5
          cases h5
          exact ⟨_, rfl, List.mem_cons_of_mem _ h4⟩
      · exact ⟨l', h3, h4⟩
  · rw [hfg] at hl'
    split at hl'
    · next e =>
      cases hl'
      subst e
      rw [hlo] at h4; cases h4
      rw [hg, if_pos rfl] at h1
      cases h1
      rcases hgo m q h2 with ⟨rfl, rfl⟩ | ⟨hne', h2⟩
      · rw [hlo] at h5; cases h5
        exact Nat.le_refl _
      · rw [hlo' m hne'] at h5
        exact (hsep m q _ h2 h5).2
    · next e =>
      have hnx : n ≠ A.nx := by
        have := ((h.mem _ _ hl').2 n (List.mem_cons_self ..)).1
        omega
      rcases hgo m q h2 with ⟨rfl, rfl⟩ | ⟨hne', h2⟩
      · exact absurd h3.symm e
      · rw [hg, if_neg hnx] at h1
        rw [hlo' n hnx] at h4
        rw [hlo' m hne'] at h5
        exact h.top f' n l' hl' r m q b1 o1 o2 h1 h2 h3 h4 h5
  · show f' < A.nx + 1 ∧ _
    rw [hfg] at hl'
    have hkey : ∀ l'', A.fget f' = some l'' → ∀ m ∈ l'', m < A.nx + 1 ∧ ∀ r, (A.grow cs f l ty).get m = some r → r.fam = f' := fun l'' hl'' m hm => by
      obtain ⟨h1, h2⟩ := (h.mem _ _ hl'').2 m hm
      refine ⟨by omega, fun r hr => ?_⟩
      rw [hg, if_neg (by omega)] at hr
      exact h2 r hr
    split at hl'
    · next e =>
      cases hl'
      refine ⟨by omega, fun m hm => ?_⟩
      rcases List.mem_cons.1 hm with rfl | hm
      · exact ⟨by show A.nx < A.nx + 1; omega, fun r hr => by rw [hg, if_pos rfl] at hr; cases hr; exact e.symm⟩
      · rcases hl with ⟨_, h5⟩ | h5
        · subst h5; cases hm
        · exact hkey l (by rw [e]; exact h5) m hm
    · exact ⟨by have := (h.mem _ _ hl').1; omega, hkey l' hl'⟩
  · have hn : A.nx + 1 ≤ n := hn
    rw [hlo' n (by omega)]
    exact h.new n (by omega)
  · show A.nx + 1 ≤ 16384
    omega
  · obtain ⟨b, es, cl, h1, h2, h3, h4⟩ := h.map n cs' hm
    exact ⟨b, es, cl, by rw [hml]; exact h1, hmw b es cl h2, h3, h4.1.mono hE, h4.2.mono hE⟩
  · rcases hgo n r hr with ⟨rfl, rfl⟩ | ⟨hne, hr⟩
    · exact ⟨b, o, hlo, hrt t ht⟩
    · obtain ⟨b1, o1, g1, g2⟩ := h.rty n r t hr ht
      exact ⟨b1, o1, (hlo' n hne).trans g1, hE.tb _ _ g2⟩
theorem RelA.write (h : RelA P E A base w) {n : Nat} {r : ARow} {b o : Nat} {cs : List Value} {fr : Bool} (hr : A.get n = some r) (hlo : E.lo n = some (b, o)) (hlen : cs.length = r.cs.length) (hone : ∀ m q, A.get m = some q → q.fam = r.fam → m = n)
    (hsz : w.heap.size ≤ w'.heap.size) (hblk : ∀ b s, E.bl b = some s → base ≤ b ∧ ∃ c e fz, w'.heap[b]? = some (.cells c e fz) ∧ c.size = s ∧ (Hot E A b → FzB s fz)) (hcell : ∀ i v, cs[i]? = some v → ∃ u, w'.cell? ⟨b, o + i, none⟩ = some u ∧ VL P E [u] [v])
    (hold : ∀ b', b' ≠ b → b' < w.heap.size → w'.heap[b']? = w.heap[b']?) (hmw : ∀ (b : Nat) es cl, w.heap[b]? = some (.map es cl) → w'.heap[b]? = some (.map es cl)) (hty : ∀ b t, E.tb b = some t → ∃ c fz, w'.heap[b]? = some (.cells c t fz)) (hfr : r.fro = true → fr = true) : RelA P E (A.put n (some ⟨cs, r.fam, fr, r.ty⟩)) base w' := by
  have hn := h.fam n r hr
  have hnx := h.nxb
  have hg := AH.get_put (A := A) (x := some ⟨cs, r.fam, fr, r.ty⟩) (n := n) (by omega)
  have hgo : ∀ m q, (A.put n (some ⟨cs, r.fam, fr, r.ty⟩)).get m = some q → (m = n ∧ q = ⟨cs, r.fam, fr, r.ty⟩) ∨ (m ≠ n ∧ A.get m = some q) := fun m q hq => by
    rw [hg] at hq
    split at hq
    · next e => cases hq; exact .inl ⟨e, rfl⟩
    · next e => exact .inr ⟨e, hq⟩
  have hfam : ∀ m q, (A.put n (some ⟨cs, r.fam, fr, r.ty⟩)).get m = some q → ∃ q', A.get m = some q' ∧ q'.fam = q.fam ∧ q'.cs.length = q.cs.length := fun m q hq => by
    rcases hgo m q hq with ⟨rfl, rfl⟩ | ⟨_, hq⟩
    · exact ⟨r, hr, rfl, hlen.symm⟩
    · exact ⟨q, hq, rfl, rfl⟩
  have hblk' : ∀ b s, E.bl b = some s → base ≤ b ∧ ∃ c e fz, w'.heap[b]? = some (.cells c e fz) ∧ c.size = s ∧ (Hot E (A.put n (some ⟨cs, r.fam, fr, r.ty⟩)) b → FzB s fz) := fun b' s' hb' => by
    obtain ⟨h1, c, e, fz, h2, h3, h4⟩ := hblk b' s' hb'
    refine ⟨h1, c, e, fz, h2, h3, fun ⟨m, q, o', g1, g2, g3⟩ => h4 ?_⟩
    rcases hgo m q g1 with ⟨rfl, rfl⟩ | ⟨hne, g1⟩
    · exact ⟨m, r, o', hr, (by cases hf : r.fro with | false => rfl | true => rw [hfr hf] at g2; cases g2), g3⟩
    · exact ⟨m, q, o', g1, g2, g3⟩
  refine ⟨fun m q hq => ?_, hblk', fun n1 m r1 q b1 o1 o2 h1 h2 h3 h4 => ?_, fun m q hq => ?_, fun f n1 l hl r1 m q b1 o1 o2 h1 h2 h3 h4 h5 => ?_, fun f l hl => ?_, h.new, h.nxb, fun n cs' hm => ?_, h.minj, h.mnew, fun n b hb => Nat.lt_of_lt_of_le (h.mlt n b hb) hsz, Nat.le_trans h.base hsz, hty, fun m q t hq ht => by
    rcases hgo m q hq with ⟨rfl, rfl⟩ | ⟨_, hq⟩
    · exact h.rty m r t hr ht
    · exact h.rty m q t hq ht⟩
  · rcases hgo m q hq with ⟨rfl, rfl⟩ | ⟨hne, hq⟩
    · obtain ⟨b', o', h1, h2, h3, _⟩ := h.row m r hr
      rw [hlo] at h1; cases h1
      exact ⟨b, o, hlo, Nat.lt_of_lt_of_le h2 hsz, by rw [hlen]; exact h3.imp (fun h => ⟨hfr h.1, h.2⟩) id, hcell⟩
    · obtain ⟨b', o', h1, h2, h3, h4⟩ := h.row m q hq
      have hb : b' ≠ b := fun e => by
        subst e
        rcases h.sep m n q r b' o' o hq hr h1 hlo with e | e
        · exact hne e
        · exact hne (hone m q hq e)
      refine ⟨b', o', h1, Nat.lt_of_lt_of_le h2 hsz, h3, fun i v hv => ?_⟩
      obtain ⟨u, h5, h6⟩ := h4 i v hv
      exact ⟨u, (World.cell?_of_block (hold b' hb h2)).trans h5, h6⟩
  · obtain ⟨q1, e1, e2, _⟩ := hfam n1 r1 h1
    obtain ⟨q2, e3, e4, _⟩ := hfam m q h2
    rw [← e2, ← e4]
    exact h.sep n1 m q1 q2 b1 o1 o2 e1 e3 h3 h4
  · obtain ⟨q1, e1, e2, _⟩ := hfam m q hq
    rw [← e2]
    exact h.fam m q1 e1
  · obtain ⟨q1, e1, e2, e5⟩ := hfam n1 r1 h1
    obtain ⟨q2, e3, e4, e6⟩ := hfam m q h2
    rw [← e5, ← e6]
    exact h.top f n1 l hl q1 m q2 b1 o1 o2 e1 e3 (e4.trans h3) h4 h5
  · obtain ⟨h1, h2⟩ := h.mem f l hl
    refine ⟨h1, fun m hm => ⟨(h2 m hm).1, fun q hq => ?_⟩⟩
    obtain ⟨q1, e1, e2, _⟩ := hfam m q hq
    rw [← e2]
    exact (h2 m hm).2 q1 e1
  · obtain ⟨b, es, cl, h1, h2, h3, h4⟩ := h.map n cs' hm
    exact ⟨b, es, cl, h1, hmw b es cl h2, h3, h4⟩
theorem RelA.later (h : RelA P E A base w) (hsz : w.heap.size ≤ w'.heap.size) (hold : ∀ b, b < w.heap.size → w'.heap[b]? = w.heap[b]?) : RelA P E A base w' where
  row n r hr := by
    obtain ⟨b, o, h1, h2, h3, h4⟩ := h.row n r hr
    refine ⟨b, o, h1, Nat.lt_of_lt_of_le h2 hsz, h3, fun i v hv => ?_⟩
    obtain ⟨u, h5, h6⟩ := h4 i v hv
    exact ⟨u, (World.cell?_of_block (hold b h2)).trans h5, h6⟩
  blk b s hb := by
    obtain ⟨h1, c, e, fz, h2, h3⟩ := h.blk b s hb
    exact ⟨h1, c, e, fz, (hold b (Array.getElem?_eq_some_iff.1 h2).1).trans h2, h3⟩
  sep := h.sep
  fam := h.fam
  top := h.top
  mem := h.mem
  new := h.new
  nxb := h.nxb
  map n cs hm := by
    obtain ⟨b, es, cl, h1, h2, h3, h4⟩ := h.map n cs hm
    exact ⟨b, es, cl, h1, (hold b (Array.getElem?_eq_some_iff.1 h2).1).trans h2, h3, h4⟩
  minj := h.minj
  mnew := h.mnew
  mlt n b hb := Nat.lt_of_lt_of_le (h.mlt n b hb) hsz
  base := Nat.le_trans h.base hsz
  typ b t hb := by
    obtain ⟨c, fz, h1⟩ := h.typ b t hb
    exact ⟨c, fz, (hold b (Array.getElem?_eq_some_iff.1 h1).1).trans h1⟩
  rty := h.rty
end
end Go.Proofs.YtpinhcdcnaaihaaGreatDoor
namespace Go.Proofs.YtpinhcdcnaaihaaGreatDoor
def evF (T : Nat → Value) : Operand → Value
  | .tmp s => T s
  | .const v => v
  | .global g => .pointer (some ⟨g, 0, none⟩)
  | .func f => .func (.func f) #[] #[]
theorem evF_act (a : Act) : a.eval = evF fun s => a.tmps.getD s undef := by
  funext x
  cases x <;> rfl
structure Slo where
  n : Nat
  l : List (List Value)
noncomputable def slr (l : List Value) : Nat → Value := List.rec (fun _ => .chan (some 0)) (fun v _ ih n => Nat.rec v (fun m _ => ih m) n) l
noncomputable def slc (l : List (List Value)) : Nat → List Value := List.rec (fun _ => []) (fun v _ ih n => Nat.rec v (fun m _ => ih m) n) l
noncomputable def slt (S : Slo) (i : Nat) : Value := slr (slc S.l (i / 8)) (i % 8)
noncomputable def ssr (l : List Value) : Nat → Value → List Value := List.rec (fun _ _ => []) (fun a l ih n v => Nat.rec (v :: l) (fun m _ => a :: ih m v) n) l
noncomputable def ssc (l : List (List Value)) : Nat → Nat → Value → List (List Value) := List.rec (fun _ _ _ => []) (fun a l ih n k v => Nat.rec (ssr a k v :: l) (fun m _ => a :: ih m k v) n) l
noncomputable def sset (S : Slo) (d : Nat) (v : Value) : Slo := cond (Nat.blt d S.n) ⟨S.n, ssc S.l (d / 8) (d % 8) v⟩ S
theorem ssr_get : ∀ (l : List Value) (i : Nat) (v : Value) (j : Nat), slr (ssr l i v) j = (if j = i then slr (ssr l i v) i else slr l j) ∧ (slr (ssr l i v) i = v ∨ slr (ssr l i v) i = .chan (some 0))
  | [], i, v, j => ⟨by split <;> rfl, .inr rfl⟩
  | a :: l, 0, v, j => ⟨by cases j <;> rfl, .inl rfl⟩
  | a :: l, i + 1, v, 0 => ⟨rfl, (ssr_get l i v 0).2⟩
  | a :: l, i + 1, v, j + 1 => by
    obtain ⟨h1, h2⟩ := ssr_get l i v j
    refine ⟨?_, h2⟩
    show slr (ssr l i v) j = if j + 1 = i + 1 then slr (ssr l i v) i else slr l j
    rw [h1]
    simp only [Nat.add_right_cancel_iff]
theorem ssc_get : ∀ (l : List (List Value)) (i k : Nat) (v : Value) (j : Nat), slc (ssc l i k v) j = if j = i then ssr (slc l i) k v else slc l j
  | [], i, k, v, j => by split <;> rfl
  | a :: l, 0, k, v, j => by cases j <;> rfl
  | a :: l, i + 1, k, v, 0 => rfl
  | a :: l, i + 1, k, v, j + 1 => by
    show slc (ssc l i k v) j = if j + 1 = i + 1 then ssr (slc l i) k v else slc l j
    rw [ssc_get l i k v j]
    simp only [Nat.add_right_cancel_iff]
theorem slt_sset (S : Slo) (d : Nat) (v : Value) (s : Nat) (h : d < S.n) : (s ≠ d → slt (sset S d v) s = slt S s) ∧ (s = d → slt (sset S d v) s = v ∨ slt (sset S d v) s = .chan (some 0)) := by
  have e : sset S d v = ⟨S.n, ssc S.l (d / 8) (d % 8) v⟩ := by unfold sset; rw [blt_lt h]; rfl
  unfold slt
  rw [e]
  simp only
  rw [ssc_get]
  refine ⟨fun hne => ?_, fun he => ?_⟩
  · split
    · next e1 => rw [(ssr_get _ _ _ _).1, if_neg (by omega), e1]
    · rfl
  · subst he
    rw [if_pos rfl]
    exact (ssr_get _ _ v (s % 8)).2
def InR (S : Slo) (d : Nat) : Prop := d % 8 < (slc S.l (d / 8)).length
theorem ssr_len : ∀ (l : List Value) (i : Nat) (v : Value), (ssr l i v).length = l.length
  | [], _, _ => rfl
  | _ :: _, 0, _ => rfl
  | _ :: l, i + 1, v => congrArg (· + 1) (ssr_len l i v)
theorem ssr_in : ∀ (l : List Value) (i : Nat) (v : Value), i < l.length → slr (ssr l i v) i = v
  | [], _, _, h => by simp at h
  | _ :: _, 0, _, _ => rfl
  | _ :: l, i + 1, v, h => ssr_in l i v (by simpa using h)
theorem InR.sset {S : Slo} {d e : Nat} {v : Value} (h : InR S e) : InR (sset S d v) e := by
  unfold Go.Proofs.YtpinhcdcnaaihaaGreatDoor.sset
  cases Nat.blt d S.n with
  | false => exact h
  | true =>
    show e % 8 < (slc (ssc S.l (d / 8) (d % 8) v) (e / 8)).length
    rw [ssc_get]
    split
    · next he => rw [ssr_len, ← he]; exact h
    · exact h
theorem slt_in {S : Slo} {d : Nat} {v : Value} (h : d < S.n) (hi : InR S d) : slt (sset S d v) d = v := by
  have e : Go.Proofs.YtpinhcdcnaaihaaGreatDoor.sset S d v = ⟨S.n, ssc S.l (d / 8) (d % 8) v⟩ := by unfold Go.Proofs.YtpinhcdcnaaihaaGreatDoor.sset; rw [blt_lt h]; rfl
  unfold slt
  rw [e]
  simp only
  rw [ssc_get, if_pos rfl]
  exact ssr_in _ _ _ hi
noncomputable def chk (k : Nat) : List Value → List (List Value) := Nat.rec (fun _ => []) (fun _ ih l => List.rec [] (fun _ _ _ => takeR 8 l :: ih (dropR 8 l)) l) k
theorem slr_eq : ∀ (l : List Value) (i : Nat), slr l i = l.getD i (.chan (some 0))
  | [], _ => rfl
  | _ :: _, 0 => rfl
  | _ :: l, n + 1 => by rw [List.getD_cons_succ]; exact slr_eq l n
theorem chk_get : ∀ (k : Nat) (l : List Value) (i : Nat), slr (slc (chk k l) (i / 8)) (i % 8) = slr l i ∨ slr (slc (chk k l) (i / 8)) (i % 8) = .chan (some 0)
  | 0, l, i => .inr rfl
  | k + 1, [], i => .inr rfl
  | k + 1, a :: l, i => by
    have hc : chk (k + 1) (a :: l) = takeR 8 (a :: l) :: chk k (dropR 8 (a :: l)) := rfl
    rw [hc, takeR_eq, dropR_eq]
    by_cases hi : i < 8
    · rw [Nat.div_eq_of_lt hi, Nat.mod_eq_of_lt hi]
      show slr ((a :: l).take 8) i = _ ∨ _
      rw [slr_eq, slr_eq, List.getD_eq_getElem?_getD, List.getElem?_take, if_pos hi, List.getD_eq_getElem?_getD]
      exact .inl rfl
    · have e1 : i / 8 = (i - 8) / 8 + 1 := by omega
      have e2 : i % 8 = (i - 8) % 8 := by omega
      rw [e1, e2]
      show slr (slc (chk k ((a :: l).drop 8)) ((i - 8) / 8)) ((i - 8) % 8) = _ ∨ _
      rcases chk_get k ((a :: l).drop 8) (i - 8) with h | h
      · left
        rw [h, slr_eq, slr_eq, List.getD_eq_getElem?_getD, List.getElem?_drop, List.getD_eq_getElem?_getD]
        congr 2
        omega
      · exact .inr h
theorem chk_in : ∀ (k : Nat) (l : List Value) (i : Nat), l.length ≤ 8 * k → i < l.length → i % 8 < (slc (chk k l) (i / 8)).length ∧ slr (slc (chk k l) (i / 8)) (i % 8) = slr l i
  | 0, l, i, h, hi => by omega
  | k + 1, [], i, _, hi => by simp at hi
  | k + 1, a :: l, i, h, hi => by
    have hc : chk (k + 1) (a :: l) = takeR 8 (a :: l) :: chk k (dropR 8 (a :: l)) := rfl
    rw [hc, takeR_eq, dropR_eq]
    by_cases h8 : i < 8
    · rw [Nat.div_eq_of_lt h8, Nat.mod_eq_of_lt h8]
      show i < ((a :: l).take 8).length ∧ slr ((a :: l).take 8) i = _
      refine ⟨by rw [List.length_take]; omega, ?_⟩
      rw [slr_eq, slr_eq, List.getD_eq_getElem?_getD, List.getElem?_take, if_pos h8, List.getD_eq_getElem?_getD]
    · have e1 : i / 8 = (i - 8) / 8 + 1 := by omega
      have e2 : i % 8 = (i - 8) % 8 := by omega
      rw [e1, e2]
      show (i - 8) % 8 < (slc (chk k ((a :: l).drop 8)) ((i - 8) / 8)).length ∧ slr (slc (chk k ((a :: l).drop 8)) ((i - 8) / 8)) ((i - 8) % 8) = _
      obtain ⟨g1, g2⟩ := chk_in k ((a :: l).drop 8) (i - 8) (by rw [List.length_drop]; omega) (by rw [List.length_drop]; omega)
      refine ⟨g1, ?_⟩
      rw [g2, slr_eq, slr_eq, List.getD_eq_getElem?_getD, List.getElem?_drop, List.getD_eq_getElem?_getD]
      congr 2
      omega
noncomputable def mkSl (l : List Value) (n : Nat) : Slo := ⟨n, chk n l⟩
theorem mkSl_get (l : List Value) (n i : Nat) : slt (mkSl l n) i = slr l i ∨ slt (mkSl l n) i = .chan (some 0) := chk_get n l i
structure SlotV (P : Program) (E : EE) (T : Nat → Value) (sl : Slo) : Prop where
  slot : ∀ s, VL P E [T s] [slt sl s]
  glob : ∀ g, g < P.globals.size → E.lo g = some (g, 0)
def OpY (P : Program) (o : Oper) (T : Nat → Value) (W : World) (K : Value → World → Prop) : Prop :=
  match (execOp (evF T) o).run P W with
  | .ok (.value v) W' => K v W'
  | .ok .skip W' => K undef W'
  | .ok (.enter f args) W' => Calls P f args W' fun e W'' => ∃ v, e = .returned v ∧ K v W''
  | _ => False
theorem OpY.of_ok {P : Program} {o : Oper} {T : Nat → Value} {W W' : World} {K : Value → World → Prop} {v : Value} (h : (execOp (evF T) o).run P W = .ok (.value v) W') (hK : K v W') : OpY P o T W K := by
  unfold OpY; rw [h]; exact hK
theorem OpY.of_skip {P : Program} {o : Oper} {T : Nat → Value} {W W' : World} {K : Value → World → Prop} (h : (execOp (evF T) o).run P W = .ok .skip W') (hK : K undef W') : OpY P o T W K := by
  unfold OpY; rw [h]; exact hK
theorem OpY.of_call {P : Program} {o : Oper} {T : Nat → Value} {W : World} {K : Value → World → Prop} {f : FuncId} {args : Array Value} (h : (execOp (evF T) o).run P W = .ok (.enter f args) W) (hK : Calls P f args W fun e W'' => ∃ v, e = .returned v ∧ K v W'') : OpY P o T W K := by
  unfold OpY; rw [h]; exact hK
theorem OpY.wp {P : Program} {o : Oper} {a : Act} {W : World} {K : Value → World → Prop} {Q : Exit → Act → World → Prop} (h : OpY P o (fun s => a.tmps.getD s undef) W K) : o.wp P a W (fun a' W' => ∃ v, a' = a.put o.dst v ∧ K v W') Q := by
  unfold OpY at h
  unfold Oper.wp
  rw [evF_act]
  generalize (execOp (evF fun s => a.tmps.getD s undef) o).run P W = r at h
  cases r with
  | ok n w' =>
    cases n <;> simp only [Oper.upon] at h ⊢ <;>
      first
        | exact ⟨_, rfl, h⟩
        | exact Calls.mono h (fun e w'' ⟨v, he, hk⟩ => by subst he; exact ⟨v, rfl, hk⟩)
        | exact h.elim
  | halt x w' => cases x <;> exact h.elim
def Aft (P : Program) (E : EE) (A' : AH) (base : Nat) (w : World) (v : Value) (u : Value) (w' : World) : Prop := ∃ E', RelA P E' A' base w' ∧ VL P E' [u] [v] ∧ Fr E E' w w'
theorem Aft.here {P : Program} {E : EE} {A : AH} {base : Nat} {w : World} {v u : Value} (h : RelA P E A base w) (hv : VL P E [u] [v]) : Aft P E A base w v u w := ⟨E, h, hv, .refl _ _⟩
def Good (P : Program) (base : Nat) (sl : Slo) (A : AH) (o : Oper) (r : Option (Value × AH)) : Prop := ∀ v A', r = some (v, A') → ∀ E w T, RelA P E A base w → SlotV P E T sl → OpY P o T w (Aft P E A' base w v)
theorem VL.int {P : Program} {E : EE} {u : Value} {k : IntKind} {n : Int} (h : VL P E [u] [.int k n]) : u = .int k n := by cases h; rfl
theorem VL.bool {P : Program} {E : EE} {u : Value} {b : Bool} (h : VL P E [u] [.bool b]) : u = .bool b := by cases h; rfl
theorem VL.string {P : Program} {E : EE} {u : Value} {s : ByteArray} (h : VL P E [u] [.string s]) : u = .string s := by cases h; rfl
theorem VL.pointer {P : Program} {E : EE} {u : Value} {n c : Nat} (h : VL P E [u] [.pointer (some ⟨n, c, none⟩)]) : ∃ b o, E.lo n = some (b, o) ∧ u = .pointer (some ⟨b, o + c, none⟩) := by
  cases h with
  | sc v h _ => cases h
  | ptr n c b o h _ => exact ⟨b, o, h, rfl⟩
theorem VL.slice {P : Program} {E : EE} {u : Value} {n c e len : Nat} (h : VL P E [u] [.slice (some ⟨n, c, none⟩) len e]) : ∃ b o q cap, E.lo n = some (b, o) ∧ u = .slice (some ⟨b, q, none⟩) len cap ∧ len ≤ cap ∧ cap ≤ 9223372036854775807 ∧ (0 < cap → q = o + c ∧ ∃ s i, E.bl b = some s ∧ P.info? e = some i ∧ o + c + cap * i.size ≤ s) := by
  cases h with
  | sc v h _ => cases h
  | slc n c e len cap b o q h hl hm hr _ => exact ⟨b, o, q, cap, h, rfl, hl, hm, hr⟩
theorem VL.nilSlice {P : Program} {E : EE} {u : Value} {m c : Nat} (h : VL P E [u] [.slice none m c]) : u = .slice none m c ∧ m = 0 ∧ c = 0 := by
  cases h with
  | sc v h _ =>
    match m, c, h with
    | 0, 0, _ => exact ⟨rfl, rfl, rfl⟩
theorem VL.aggr {P : Program} {E : EE} {u : Value} {cs : Array Value} (h : VL P E [u] [.agg cs]) : ∃ xs, u = .agg xs ∧ VL P E xs.toList cs.toList := by
  cases h with
  | sc v h _ => cases h
  | agg xs cs hx _ => exact ⟨_, rfl, by simpa using hx⟩
theorem VL.tupl {P : Program} {E : EE} {u : Value} {cs : Array Value} (h : VL P E [u] [.tuple cs]) : ∃ xs, u = .tuple xs ∧ VL P E xs.toList cs.toList := by
  cases h with
  | sc v h _ => cases h
  | tup xs cs hx _ => exact ⟨_, rfl, by simpa using hx⟩
section
variable {P : Program} {E : EE} {A : AH} {base : Nat} {w : World}
theorem RelA.reads (h : RelA P E A base w) {n : Nat} {r : ARow} {b o : Nat} (hr : A.get n = some r) (hlo : E.lo n = some (b, o)) (c m : Nat) (hc : c + m ≤ r.cs.length) : ∃ us : List Value, us.length = m ∧ (∀ (j : Nat) u, us[j]? = some u → w.cell? ⟨b, o + c + j, none⟩ = some u) ∧ VL P E us ((r.cs.drop c).take m) := by
  obtain ⟨b', o', h1, _, _, h4⟩ := h.row n r hr
  rw [hlo] at h1; cases h1
  have key : ∀ j, j < m → ∃ u v, w.cell? ⟨b, o + c + j, none⟩ = some u ∧ r.cs[c + j]? = some v ∧ VL P E [u] [v] := fun j hj => by
    obtain ⟨u, h5, h6⟩ := h4 (c + j) r.cs[c + j] (List.getElem?_eq_getElem (by omega))
    exact ⟨u, _, by rw [show o + c + j = o + (c + j) by omega]; exact h5, List.getElem?_eq_getElem (by omega), h6⟩
  refine ⟨(List.range m).map fun j => (w.cell? ⟨b, o + c + j, none⟩).getD undef, by simp, fun j u hu => ?_, VL.of_get (by simp; omega) fun j u t hu ht => ?_⟩
  · rw [List.getElem?_map] at hu
    by_cases hj : j < m
    · obtain ⟨u', v, h5, _⟩ := key j hj
      rw [List.getElem?_range hj] at hu
      simp only [Option.map_some, h5, Option.getD_some, Option.some.injEq] at hu
      rw [← hu]; exact h5
    · rw [List.getElem?_eq_none (by simpa using hj)] at hu
      cases hu
  · rw [List.getElem?_take, List.getElem?_drop] at ht
    split at ht
    · next hj =>
      obtain ⟨u', v, h5, h6, h7⟩ := key j hj
      rw [List.getElem?_map, List.getElem?_range hj] at hu
      simp only [Option.map_some, h5, Option.getD_some, Option.some.injEq] at hu
      rw [h6] at ht; cases ht
      rw [← hu]; exact h7
    · cases ht
end
end Go.Proofs.YtpinhcdcnaaihaaGreatDoor
