import Derived.Test.YtpinhcdcnaaihaaGreatDoorA29
namespace Go.Proofs.YtpinhcdcnaaihaaGreatDoor
theorem growN_eq (A : AH) (cs : List Value) (f : Nat) (l : List Nat) (ty : Nat) : A.growN A.nx cs f l ty = A.grow cs f l ty := rfl
section
variable {P : Program} {E : EE} {A A' : AH} {base : Nat} {w : World}
theorem app_nil_core (h : RelA P E A base w) {m : Nat} {i : TypeInfo} {zv : Value} {t u ty e : TypeId} {d : TypeDesc} {X : Value} {nr news : List Value} (hx : A.nx < 16384)
    (ht : P.underlying t = some (.slice e)) (hu : P.underlying u = some d) (hd : d = .string ∨ ∃ x, d = .slice x) (hi : P.info? e = some i) (hz : i.zero = some zv) (hzl : zv.cells.toList.length = i.size)
    (hlX : (Builtin.lenOf X).run P w = .ok m w) (hm : 0 < m) (hnl : nr.length = m * i.size) (hfX : ∀ W : World, (∀ b, b < w.heap.size → W.heap[b]? = w.heap[b]?) → (Builtin.firstCells i.size m X).run P W = .ok nr.toArray W) (hnv : VL P E nr news)
    (hb1 : m ≤ 1099511627776) (hb2 : m * i.bytes ≤ 140737488355328) :
    ∃ y w' E', (Builtin.append_ #[t, u] ty #[.slice none 0 0, X]).run P w = .ok y w' ∧ RelA P E' (A.grow news A.nx [] (e + 1)) base w' ∧ VL P E' [y] [.slice (some ⟨A.nx, 0, none⟩) m e] ∧ Fr E E' w w' := by
  have hnews : news.length = m * i.size := by rw [← hnv.length, hnl]
  have hrun := run_app_fresh P w t u ty e i zv d ht hu hd hi hz none 0 0 [] nr X m (by simp [Builtin.firstCells]) hlX (hfX w.drew fun _ _ => rfl) (by omega) (by omega) (growslice_fits (by omega) (by simpa using hb2))
  simp only [Nat.zero_add] at hrun
  have hge := grownCap_ge w m 0 e
  have hcap := grownCap_le_maxLen w m 0 e (by unfold maxLen; omega)
  unfold maxLen at hcap
  have hzc := size_zeroCells zv.cells (grownCap w m 0 e - m)
  have hzl' : zv.cells.size = i.size := by simpa using hzl
  have hasz : (([] : List Value).toArray ++ nr.toArray ++ Builtin.zeroCells zv.cells (grownCap w m 0 e - m)).size = grownCap w m 0 e * i.size := by
    simp only [Array.size_append, List.size_toArray, hzc, hnl, hzl', List.length_nil]
    rw [Nat.zero_add, ← Nat.add_mul]
    congr 1
    omega
  have hmul : m * i.size ≤ grownCap w m 0 e * i.size := Nat.mul_le_mul_right _ hge
  obtain ⟨E', f1, f2, f3, f4, _⟩ := h.freshT (ty := e + 1) (w' := w.drew.alloc (.cells (([] : List Value).toArray ++ nr.toArray ++ Builtin.zeroCells zv.cells (grownCap w m 0 e - m)) e)) (cs := news) (f := A.nx) (l := []) (fz := (0, 0)) hx rfl rfl rfl rfl (.inl rfl) (by rw [hasz, hnews]; exact hmul) (by
    rw [← hnv.length, Array.toList_append, Array.toList_append]
    simp only [List.nil_append]
    rw [List.take_left' rfl]
    exact hnv) (.inl ⟨rfl, rfl⟩) (.inr rfl)
  refine ⟨_, _, E', hrun, f1, .slc _ 0 e _ _ w.heap.size 0 0 f2 hge (by omega) (fun _ => ⟨rfl, _, i, f3, hi, ?_⟩) .nil, f4⟩
  rw [hasz]; omega
theorem slice_le {u : Value} {a : Option Addr} {n c : Nat} (hu : VL P E [u] [.slice a n c]) : ∃ a' c', u = .slice a' n c' ∧ n ≤ c' := by
  cases hu with
  | sc v h _ =>
    match a, n, c, h with
    | none, 0, 0, _ => exact ⟨_, _, rfl, Nat.le_refl _⟩
  | slc n c e len cap b o q h hl hm hr _ => exact ⟨_, _, rfl, hl⟩
theorem app_good (h : RelA P E A base w) {ts : List TypeId} {s x v us ux : Value} {ty : TypeId} (hs : VL P E [us] [s]) (hx : VL P E [ux] [x]) (he : evApp P A ts s x = some (v, A')) :
    ∃ y w' E', (Builtin.append_ ts.toArray ty #[us, ux]).run P w = .ok y w' ∧ RelA P E' A' base w' ∧ VL P E' [y] [v] ∧ Fr E E' w w' := by
  unfold evApp at he
  simp only [lenR_eq, dropR_eq, takeR_eq, appR_eq, allR_eq, forceL_eq] at he
  split at he
  · next t u =>
    split at he
    · next e ht =>
      split at he
      · next b len ee =>
        obtain ⟨i, hi, he⟩ := bnd_of he
        obtain ⟨zv, hz, he⟩ := bnd_of he
        obtain ⟨h1, he⟩ := cond_of he
        simp only [Bool.and_eq_true] at h1
        obtain ⟨⟨⟨h1, h2⟩, h3⟩, h4⟩ := h1
        have hzl := Nat.eq_of_beq_eq_true h1
        have hsp := blt_of h2
        obtain ⟨d, hu, hd⟩ := tyK_of h3
        obtain ⟨m, hm, he⟩ := bnd_of he
        have hlX := len_good hx hm w
        cases hm0 : Nat.beq m 0 with
        | true =>
          rw [hm0] at he
          have := Nat.eq_of_beq_eq_true hm0
          subst this
          cases he
          obtain ⟨a', c', rfl, hle⟩ := slice_le hs
          exact ⟨_, w, E, run_app_nil P w t u ty e i d ht hu hd hi a' len c' ux hlX (firstCells_zero hx hm i.size w) hle, h, hs, .refl _ _⟩
        | false =>
          rw [hm0] at he
          have hmp : 0 < m := Nat.pos_of_ne_zero fun e => by subst e; cases hm0
          obtain ⟨h5, he⟩ := cond_of he
          simp only [Bool.and_eq_true, Nat.ble_eq] at h5
          obtain ⟨news, hn, he⟩ := bnd_of he
          obtain ⟨hone, he⟩ := cond_of he
          obtain ⟨nr, hnl, hnv, hfX⟩ := read_good h hx ⟨m, hm, Nat.le_refl _⟩ hmp (fun s hs => by subst hs; exact Nat.eq_of_beq_eq_true h4) hn
          cases b with
          | none =>
            obtain ⟨hnx, he⟩ := evNew_of he
            cases he
            obtain ⟨rfl, rfl, rfl⟩ := hs.nilSlice
            simp only [Nat.zero_add] at h5
            exact app_nil_core h hnx ht hu hd hi hz hzl hlX hmp hnl hfX hnv h5.1 h5.2
          | some a =>
            obtain ⟨n, c, sp⟩ := a
            cases sp with
            | some _ => cases he
            | none =>
            obtain ⟨r, hr, he⟩ := bnd_of he
            obtain ⟨hfro, he⟩ := cond_none he
            obtain ⟨h6, he⟩ := cond_of he
            simp only [Bool.and_eq_true, Nat.ble_eq] at h6
            obtain ⟨⟨h6, h7⟩, h8⟩ := h6
            have hnx := blt_of h8
            have := Nat.eq_of_beq_eq_true h6
            subst this
            obtain ⟨l, hl, he⟩ := bnd_of he
            rw [forceN_eq, forceN_eq] at he
            obtain ⟨b', o, q, cap, hlo, rfl, hle, hcm, hroom⟩ := hs.slice
            have htt : cond (Nat.beq r.ty (ee + 1)) (ee + 1) 0 = 0 ∨ (cond (Nat.beq r.ty (ee + 1)) (ee + 1) 0 = ee + 1 ∧ r.ty = ee + 1) := by
              cases hb : Nat.beq r.ty (ee + 1) with
              | true => exact .inr ⟨rfl, Nat.eq_of_beq_eq_true hb⟩
              | false => exact .inl rfl
            have core := fun (A1 : AH) (l1 : List Nat) (g1 : RelA P E A1 base w) (g2 : A1.nx < 16384) (g3 : A1.fget r.fam = some l1) (g4 : ∀ k q, A1.get k = some q → ∀ o', E.lo k = some (b', o') → q.fam = r.fam ∧ o' + q.cs.length ≤ o + (c + len * i.size)) =>
              app_core (ty := ty) h hr hfro g1 g2 g3 g4 hlo hle hcm hroom ht hu hd hi hz hzl hsp hlX hmp hnl hfX hnv hone h5.1 h5.2 h7 htt
            cases hlast : Nat.beq (c + len * i.size) r.cs.length with
            | true =>
              rw [hlast] at he
              have hlast := Nat.eq_of_beq_eq_true hlast
              match l, hl, he with
              | n' :: l, hl, he =>
                have he : cond (Nat.beq n n') _ _ = some (v, A') := he
                cases hnn : Nat.beq n n' with
                | true =>
                  rw [hnn] at he
                  have := Nat.eq_of_beq_eq_true hnn
                  subst this
                  cases he
                  refine core A _ h hnx hl fun k q hk o' hko => ⟨?_, ?_⟩
                  · rcases h.sep k n q r b' o' o hk hr hko hlo with e1 | e1
                    · subst e1; rw [hr] at hk; cases hk; rfl
                    · exact e1
                  · have hf : q.fam = r.fam := by
                      rcases h.sep k n q r b' o' o hk hr hko hlo with e1 | e1
                      · subst e1; rw [hr] at hk; cases hk; rfl
                      · exact e1
                    have := h.top r.fam n l hl r k q b' o o' hr hk hf hlo hko
                    omega
                | false =>
                  rw [hnn] at he
                  cases he
                  have hkx := kill_nx A n r.fam
                  have := core (A.kill n r.fam) [n] (h.kill hr) (by rw [hkx]; exact hnx) (by rw [kill_fget h hr, if_pos rfl]) fun k q hk o' hko => by
                    have hk' := (kill_get h hr k).symm.trans hk
                    cases hq' : A.get k with
                    | none => rw [hq'] at hk'; cases hk'
                    | some q' =>
                      rw [hq'] at hk'
                      simp only at hk'
                      split at hk'
                      · cases hk'
                      · next hc =>
                        cases hk'
                        have hf : q.fam = r.fam := by
                          rcases h.sep k n q r b' o' o hq' hr hko hlo with e1 | e1
                          · subst e1; rw [hr] at hq'; cases hq'; rfl
                          · exact e1
                        have hkn : k = n := Classical.byContradiction fun hne => hc ⟨hf, hne⟩
                        subst hkn
                        rw [hr] at hq'; cases hq'
                        rw [hlo] at hko; cases hko
                        exact ⟨rfl, by omega⟩
                  rw [← growN_eq, hkx] at this
                  exact this
            | false =>
              rw [hlast] at he
              have he : some (Value.slice (some ⟨A.nx, 0, none⟩) (len + m) ee, ((A.kill n r.fam).put n none).growN A.nx ((r.cs.drop c).take (len * i.size) ++ news) r.fam [n] (cond (Nat.beq r.ty (ee + 1)) (ee + 1) 0)) = some (v, A') := he
              cases he
              obtain ⟨g1, g2, g3⟩ := evApp_put_sub h hr
              have hkx : ((A.kill n r.fam).put n none).nx = A.nx := kill_nx A n r.fam
              have := core ((A.kill n r.fam).put n none) [n] g1 (by rw [hkx]; exact hnx) g2 fun k q hk o' hko => by
                obtain ⟨e1, e2, e3⟩ := g3 k q hk
                rcases h.sep k n q r b' o' o e2 hr hko hlo with e4 | e4
                · exact absurd e4 e1
                · exact absurd e4 e3
              rw [← growN_eq, hkx] at this
              exact this
      · cases he
    · cases he
  · cases he
end
end Go.Proofs.YtpinhcdcnaaihaaGreatDoor
namespace Go.Proofs.YtpinhcdcnaaihaaGreatDoor
def noCh (v : Value) : Bool :=
  match v with
  | .chan (some _) => false
  | _ => true
theorem VL.cells' {P : Program} {E : EE} {u t : Value} (h : VL P E [u] [t]) (hn : noCh t = true) : VL P E u.cells.toList t.cells.toList := h.cells (by
  cases t with
  | chan r => cases r with
    | none => rfl
    | some _ => cases hn
  | _ => rfl)
theorem VL.scs {P : Program} {E : EE} : ∀ {l : List Value}, l.all scV = true → VL P E l l
  | [], _ => .nil
  | v :: l, h => by
    simp only [List.all_cons, Bool.and_eq_true] at h
    exact .sc v h.1 (VL.scs h.2)
noncomputable def fillV (place : Nat → Option (Nat × Nat)) (cells : List Value) (ps : List (Nat × Value)) : Option (List Value) :=
  List.rec (fun cells => some cells) (fun p _ ih cells => bnd (place p.1) fun q => cond (noCh p.2 && Nat.beq (lenR p.2.cells.toList) q.2 && Nat.ble (q.1 + q.2) (lenR cells)) (forceL (putR q.1 cells p.2.cells.toList) ih) none) ps cells
theorem fillV_cons {place : Nat → Option (Nat × Nat)} {cells : List Value} {p : Nat × Value} {ps : List (Nat × Value)} : fillV place cells (p :: ps) = bnd (place p.1) fun q => cond (noCh p.2 && Nat.beq p.2.cells.toList.length q.2 && Nat.ble (q.1 + q.2) cells.length) (fillV place (putR q.1 cells p.2.cells.toList) ps) none := by
  show bnd (place p.1) (fun q => cond (noCh p.2 && Nat.beq (lenR p.2.cells.toList) q.2 && Nat.ble (q.1 + q.2) (lenR cells)) (forceL (putR q.1 cells p.2.cells.toList) fun c => fillV place c ps) none) = _
  simp only [lenR_eq, forceL_eq]
theorem foldl_putV : ∀ (vs : List Value) (k off : Nat) (cells : Array Value), off + k + vs.length ≤ cells.size → (vs.zipIdx k).foldl (fun cs (c, j) => cs.setIfInBounds (off + j) c) cells = (cells.toList.take (off + k) ++ vs ++ cells.toList.drop (off + k + vs.length)).toArray
  | [], k, off, cells, h => by simp
  | v :: vs, k, off, cells, h => by
    simp only [List.length_cons] at h
    rw [List.zipIdx_cons, List.foldl_cons, foldl_putV vs (k + 1) off _ (by simp; omega)]
    simp only [Array.toList_setIfInBounds, List.length_cons]
    congr 1
    rw [← Nat.add_assoc, List.drop_set_of_lt (by omega), List.take_set, List.take_succ_eq_append_getElem (by simp; omega)]
    have e : (List.take (off + k) cells.toList).length = off + k := by rw [List.length_take]; simp; omega
    rw [List.set_append_right _ _ (by omega), e]
    simp [Nat.add_assoc, Nat.add_comm 1]
theorem fill_good {P : Program} {E : EE} {place : Nat → Option (Nat × Nat)} : ∀ {ps qs : List (Nat × Value)} {cells : Array Value} {ts rs : List Value}, ps.map (·.1) = qs.map (·.1) → VL P E (ps.map (·.2)) (qs.map (·.2)) → VL P E cells.toList ts → fillV place ts qs = some rs → ∃ us, Instr.fill place cells ps = some us ∧ VL P E us.toList rs
  | [], [], cells, ts, rs, _, _, h, hr => by
    cases hr
    exact ⟨cells, rfl, h⟩
  | [], _ :: _, _, _, _, he, _, _, _ => by simp at he
  | _ :: _, [], _, _, _, he, _, _, _ => by simp at he
  | (i, v) :: ps, (j, t) :: qs, cells, ts, rs, he, hf, h, hr => by
    simp only [List.map_cons, List.cons.injEq] at he hf
    obtain ⟨rfl, he⟩ := he
    rw [fillV_cons] at hr
    obtain ⟨⟨off, size⟩, hpl, hr⟩ := bnd_of hr
    obtain ⟨hc, hr⟩ := cond_of hr
    simp only [Bool.and_eq_true, Nat.ble_eq] at hc
    obtain ⟨⟨hch, hc1⟩, hc2⟩ := hc
    have hc1 := Nat.eq_of_beq_eq_true hc1
    have hv := hf.head.cells' hch
    have hvl := hv.length
    have hl := h.length
    have hsz : v.cells.size = t.cells.toList.length := by simpa using hvl
    have hcs : cells.size = ts.length := by simpa using hl
    have hg : ¬ (v.cells.size ≠ size || decide (off + v.cells.size > cells.size)) = true := by
      simp only [Bool.or_eq_true, decide_eq_true_eq, not_or]
      rw [hsz, hcs]
      constructor <;> omega
    have hput := foldl_putV v.cells.toList 0 off cells (by simp; omega)
    simp only [Instr.fill, hpl]
    rw [if_neg hg]
    have hz : v.cells.zipIdx.foldl (fun cs (x : Value × Nat) => cs.setIfInBounds (off + x.2) x.1) cells = (cells.toList.take off ++ v.cells.toList ++ cells.toList.drop (off + v.cells.toList.length)).toArray := by
      rw [← Array.foldl_toList, Array.toList_zipIdx]
      exact hput
    have hz' : (v.cells.zipIdx.foldl (fun cs (x : Value × Nat) => match x with | (c, j) => cs.setIfInBounds (off + j) c) cells) = (cells.toList.take off ++ v.cells.toList ++ cells.toList.drop (off + v.cells.toList.length)).toArray := hz
    rw [hz']
    refine fill_good he hf.tail ?_ hr
    rw [putR_eq off ts _ (by simp only at hc1 ⊢; omega)]
    simp only
    have e1 : v.cells.toList.length = t.cells.toList.length := hvl
    rw [e1]
    exact ((h.take off).append hv).append (h.drop _)
noncomputable def evO (P : Program) (sl : Slo) (x : Operand) : Value := Operand.rec (fun t => slt sl t) (fun v => cond (scV v) v (.chan (some 0))) (fun g => cond (Nat.blt g P.globals.size) (.pointer (some ⟨g, 0, none⟩)) (.chan (some 0))) (fun f => .func (.func f) #[] #[]) x
section
variable {P : Program} {E : EE} {T : Nat → Value} {sl : Slo}
theorem SlotV.at (h : SlotV P E T sl) (x : Operand) : VL P E [evF T x] [evO P sl x] := by
  cases x with
  | tmp s => exact h.slot s
  | const v =>
    show VL P E [v] [cond (scV v) v _]
    cases hv : scV v with
    | true => exact .sc v hv .nil
    | false => exact .any v .nil
  | global g =>
    show VL P E [_] [cond (Nat.blt g P.globals.size) _ _]
    cases hg : Nat.blt g P.globals.size with
    | true =>
      have := VL.ptr (P := P) (E := E) g 0 g 0 (h.glob g (blt_of hg)) .nil
      simpa [evF] using this
    | false => exact .any _ .nil
  | func f => exact .sc _ rfl .nil
theorem SlotV.parts (h : SlotV P E T sl) : ∀ ps : List (Nat × Operand), (ps.map fun p => (p.1, evF T p.2)).map (·.1) = (mapR (fun p => (p.1, evO P sl p.2)) ps).map (·.1) ∧ VL P E ((ps.map fun p => (p.1, evF T p.2)).map (·.2)) ((mapR (fun p => (p.1, evO P sl p.2)) ps).map (·.2))
  | [] => ⟨rfl, .nil⟩
  | p :: ps => by
    obtain ⟨h1, h2⟩ := SlotV.parts h ps
    rw [mapR_eq] at h1 h2 ⊢
    simp only [List.map_cons] at h1 h2 ⊢
    exact ⟨by rw [h1], (h.at p.2).cons h2⟩
theorem SlotV.args (h : SlotV P E T sl) : ∀ xs : List Operand, VL P E (xs.map (evF T)) (mapR (evO P sl) xs)
  | [] => .nil
  | x :: xs => (h.at x).cons (SlotV.args h xs)
end
abbrev Rs := Option (Value × AH)
section
variable {P : Program} {base : Nat} {sl : Slo} {A : AH} {o : Oper}
theorem Good.pure1 {v : Value} (h : ∀ E w T, RelA P E A base w → SlotV P E T sl → ∃ u, (execOp (evF T) o).run P w = .ok (.value u) w ∧ VL P E [u] [v]) : Good P base sl A o (some (v, A)) := by
  intro v' A' e E w T hR hS
  cases e
  obtain ⟨u, h1, h2⟩ := h E w T hR hS
  exact .of_ok h1 (.here hR h2)
theorem Good.none : Good P base sl A o none := fun _ _ e => by cases e
theorem good_move {x : Operand} (ho : o.op = .move x) : Good P base sl A o (some (evO P sl x, A)) := Good.pure1 fun E w T hR hS => ⟨_, by simp [execOp, ho], hS.at x⟩
theorem good_assign {x : Operand} (ho : o.op = .assign x) : Good P base sl A o (some (evO P sl x, A)) := Good.pure1 fun E w T hR hS => ⟨_, by simp [execOp, ho], hS.at x⟩
noncomputable def evPick (P : Program) (sl : Slo) (A : AH) (c a b : Operand) : Rs := match evO P sl c with | .bool true => some (evO P sl a, A) | .bool false => some (evO P sl b, A) | _ => none
theorem good_pick {c a b : Operand} (ho : o.op = .pick c a b) : Good P base sl A o (evPick P sl A c a b) := by
  unfold evPick
  split
  · next h => exact Good.pure1 fun E w T hR hS => ⟨_, by have := hS.at c; rw [h] at this; simp [execOp, ho, this.bool, asBool], hS.at a⟩
  · next h => exact Good.pure1 fun E w T hR hS => ⟨_, by have := hS.at c; rw [h] at this; simp [execOp, ho, this.bool, asBool], hS.at b⟩
  · exact Good.none
def Newer (P : Program) (sl : Slo) (A : AH) (o : Oper) (r : Rs) : Prop := ∀ v A', r = some (v, A') → ∃ cs, A.nx < 16384 ∧ A' = A.grow cs A.nx [] ∧ ∀ (E : EE) (w : World) T, SlotV P E T sl → ∃ (arr : Array Value) (e : TypeId) (u : Value), (execOp (evF T) o).run P w = .ok (.value u) (w.alloc (.cells arr e)) ∧ cs.length ≤ arr.size ∧ VL P E (arr.toList.take cs.length) cs ∧ ∀ E' : EE, E.Le E' → E'.lo A.nx = some (w.heap.size, 0) → E'.bl w.heap.size = some arr.size → E'.tb w.heap.size = some e → VL P E' [u] [v]
theorem Newer.none : Newer P sl A o none := fun _ _ e => by cases e
theorem Newer.good {r : Rs} (h : Newer P sl A o r) : Good P base sl A o r := by
  intro v' A' he E w T hR hS
  obtain ⟨cs, hx, rfl, h⟩ := h v' A' he
  obtain ⟨arr, e, u, h1, hl, h2, h3⟩ := h E w T hS
  obtain ⟨E', g1, g2, g3, g4, g5⟩ := hR.freshT (w' := w.alloc (.cells arr e)) (cs := cs) (f := A.nx) (l := []) (arr := arr) (e := e) (fz := (0, 0)) hx rfl rfl rfl rfl (.inl rfl) hl h2 (.inl ⟨rfl, rfl⟩) (.inl rfl)
  exact .of_ok h1 ⟨E', g1, h3 E' g4.le g2 g3 g5, g4⟩
theorem newer_new {cs : List Value} {f : Nat → Value} (h : ∀ (E : EE) (w : World) T, SlotV P E T sl → ∃ (arr : Array Value) (e : TypeId) (u : Value), (execOp (evF T) o).run P w = .ok (.value u) (w.alloc (.cells arr e)) ∧ VL P E arr.toList cs ∧ ∀ E' : EE, E.Le E' → E'.lo A.nx = some (w.heap.size, 0) → E'.bl w.heap.size = some arr.size → E'.tb w.heap.size = some e → VL P E' [u] [f A.nx]) : Newer P sl A o (evNew A cs fun k A => some (f k, A)) := by
  intro v' A' he
  obtain ⟨hx, he⟩ := evNew_of he
  cases he
  refine ⟨cs, hx, rfl, fun E w T hS => ?_⟩
  obtain ⟨arr, e, u, h1, h2, h3⟩ := h E w T hS
  have hl : arr.size = cs.length := by simpa using h2.length
  exact ⟨arr, e, u, h1, by omega, by rw [← hl, ← Array.length_toList, List.take_length]; exact h2, h3⟩
noncomputable def isBld (P : Program) (e : TypeId) : Bool := match P.underlying e with
  | some (.struct fs) => match fs.toList with
    | [f, g] => (match P.underlying f.type, P.underlying g.type with | some (.pointer e'), some (.slice _) => Nat.beq e' e | _, _ => false)
    | _ => false
  | _ => false
noncomputable def evAlloc (P : Program) (A : AH) (e : TypeId) : Rs := bnd (zrO P e) fun z => cond (allR scV z) (cond (isBld P e) (bnd (P.info? e) fun i => cond (Nat.beq (lenR z) i.size) (evNew A z fun k A => some (.pointer (some ⟨k, 0, some e⟩), A)) none) (evNew A z fun k A => some (.pointer (some ⟨k, 0, none⟩), A))) none
theorem ptr0 {E : EE} {n b : Nat} (h : E.lo n = some (b, 0)) : VL P E [.pointer (some ⟨b, 0, none⟩)] [.pointer (some ⟨n, 0, none⟩)] := .ptr n 0 b 0 h .nil
theorem newer_alloc {e : TypeId} (ho : o.op = .alloc e) : Newer P sl A o (evAlloc P A e) := by
  unfold evAlloc
  cases hz : zrO P e with
  | none => exact Newer.none
  | some z =>
    show Newer P sl A o (cond (allR scV z) _ none)
    rw [allR_eq]
    cases hs : z.all scV with
    | false => exact Newer.none
    | true =>
      show Newer P sl A o (cond (isBld P e) _ _)
      cases isBld P e with
      | false =>
        refine newer_new (f := fun k => .pointer (some ⟨k, 0, none⟩)) fun E w T hS => ?_
        obtain ⟨zv, h1, h2⟩ := run_zero hz w
        refine ⟨zv.cells, e, _, ?_, by rw [h2]; exact VL.scs hs, fun E' _ h3 _ _ => ptr0 h3⟩
        simp [execOp, ho, Instr.alloc, h1, newVar, newRow]
      | true =>
        show Newer P sl A o (bnd (P.info? e) _)
        cases hi : P.info? e with
        | none => exact Newer.none
        | some i =>
          show Newer P sl A o (cond (Nat.beq (lenR z) i.size) _ none)
          rw [lenR_eq]
          cases hl : Nat.beq z.length i.size with
          | false => exact Newer.none
          | true =>
            have hl := Nat.eq_of_beq_eq_true hl
            refine newer_new (f := fun k => .pointer (some ⟨k, 0, some e⟩)) fun E w T hS => ?_
            obtain ⟨zv, h1, h2⟩ := run_zero hz w
            refine ⟨zv.cells, e, .pointer (some ⟨w.heap.size, 0, none⟩), ?_, by rw [h2]; exact VL.scs hs, fun E' _ h3 h4 h5 => .tpt _ _ e h3 h5 ⟨i, hi, by rw [h4, ← hl, ← h2]; simp⟩ .nil⟩
            simp [execOp, ho, Instr.alloc, h1, newVar, newRow]
theorem good_alloc {e : TypeId} (ho : o.op = .alloc e) : Good P base sl A o (evAlloc P A e) := (newer_alloc ho).good
noncomputable def evBox (P : Program) (sl : Slo) (A : AH) (x : Operand) : Rs := cond (noCh (evO P sl x)) (evNew A (evO P sl x).cells.toList fun k A => some (.pointer (some ⟨k, 0, none⟩), A)) none
theorem newer_box {e : TypeId} {x : Operand} (ho : o.op = .box e x) : Newer P sl A o (evBox P sl A x) := by
  unfold evBox
  cases hc : noCh (evO P sl x) with
  | false => exact Newer.none
  | true =>
    refine newer_new (f := fun k => .pointer (some ⟨k, 0, none⟩)) fun E w T hS => ?_
    refine ⟨(evF T x).cells, e, _, ?_, (hS.at x).cells' hc, fun E' _ h3 _ _ => ptr0 h3⟩
    simp [execOp, ho, Instr.box, newVar, newRow]
theorem good_box {e : TypeId} {x : Operand} (ho : o.op = .box e x) : Good P base sl A o (evBox P sl A x) := (newer_box ho).good
end
end Go.Proofs.YtpinhcdcnaaihaaGreatDoor
