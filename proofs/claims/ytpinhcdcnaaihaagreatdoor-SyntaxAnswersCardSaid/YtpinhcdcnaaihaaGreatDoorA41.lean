import Derived.Test.YtpinhcdcnaaihaaGreatDoorA40
namespace Go.Proofs.YtpinhcdcnaaihaaGreatDoor
open Go.RowKit Go.Shelf
noncomputable abbrev PP := Tryz.prog
noncomputable def evCC (args : List Value) (A : AH) : Rs := match args with
  | [.pointer (some ⟨n, 0, some t⟩)] => cond (Nat.beq t 59) (bnd (A.get n) fun r => match r.cs with
    | .pointer none :: _ => bnd (evStoreC A n 0 [.pointer (some ⟨n, 0, none⟩)]) fun A' => some (.tuple #[], A')
    | .pointer (some ⟨k, 0, none⟩) :: _ => cond (Nat.beq k n) (some (.tuple #[], A)) none
    | _ => none) none
  | _ => none
theorem infoB : (PP.info? 59).map (·.size) = some 2 := by kernel_rfl
theorem VL.typed {P : Program} {E : EE} {us : List Value} {n t : Nat} (h : VL P E us [.pointer (some ⟨n, 0, some t⟩)]) : ∃ b, us = [.pointer (some ⟨b, 0, none⟩)] ∧ E.lo n = some (b, 0) ∧ E.tb b = some t ∧ ∃ i, P.info? t = some i ∧ E.bl b = some i.size := by
  cases h with
  | sc v h _ => cases h
  | tpt n b t h ht hb hs => cases hs; exact ⟨b, rfl, h, ht, hb⟩
theorem cc_good {base : Nat} {args : List Value} {A A' : AH} {v : Value} (he : evCC args A = some (v, A')) {E : EE} {w : World} {vs : List Value} (hR : RelA PP E A base w) (hv : VL PP E vs args) : Calls PP 58 vs.toArray w fun x w' => ∃ u, x = .returned u ∧ Aft PP E A' base w v u w' := by
  unfold evCC at he
  split at he
  · next n t =>
    obtain ⟨h1, he⟩ := cond_of he
    have h1 := Nat.eq_of_beq_eq_true h1
    subst h1
    obtain ⟨r, hr, he⟩ := bnd_of he
    obtain ⟨b, rfl, hlo, htb, i, hi, hbl⟩ := hv.typed
    obtain ⟨b', o', g1, _, g3, g4⟩ := hR.row n r hr
    rw [hlo] at g1; cases g1
    obtain ⟨_, c, e, fz, k1, k2, k3⟩ := hR.blk b _ hbl
    obtain ⟨c', fz', k4⟩ := hR.typ b _ htb
    rw [k1] at k4; cases k4
    have hs : i.size = 2 := by have := infoB; rw [hi] at this; simpa using this
    split at he
    · next l hcs =>
      obtain ⟨A2, h2, he⟩ := bnd_of he
      cases he
      have h3 := h2
      unfold evStoreC at h3
      obtain ⟨r', hr', h3⟩ := bnd_of h3
      rw [hr] at hr'; cases hr'
      obtain ⟨hfro, _⟩ := cond_none h3
      obtain ⟨u, h4, h5⟩ := g4 0 (.pointer none) (by rw [hcs]; rfl)
      have h5 : u = .pointer none := by cases h5; rfl
      subst h5
      have hk3 := k3 ⟨n, r, 0, hr, hfro, hlo⟩
      rw [← k2] at hk3
      have hfz := hk3.free (i := 0) k1 (by rw [k2, hs]; decide)
      have hp1 : VL PP E [.pointer (some ⟨b, 0, none⟩)] [.pointer (some ⟨n, 0, none⟩)] := VL.ptr n 0 b 0 hlo .nil
      obtain ⟨W, s1, s2, s3⟩ := storeC_good (P := PP) hR hlo hp1 h2
      have hrun := run_store PP w ⟨b, 0, none⟩ (.pointer (some ⟨b, 0, none⟩)) .plain rfl
      refine (Any.Builder_copyCheck_fresh l240 x72 b w h4 (by simp [World.shape?, k1, k2, hs]; rfl) hfz).mono ?_
      rintro x w' ⟨rfl, rfl⟩
      have hW : W = w.setCell ⟨b, 0, none⟩ (.pointer (some ⟨b, 0, none⟩)) := by
        have h0 : (⟨b, 0, none⟩ : Addr).add 0 = ⟨b, 0, none⟩ := addr_add b 0 0
        have h4 : w.cell? ⟨b, 0, none⟩ = some (.pointer none) := h4
        simp only [storeCells, Nat.add_zero, Sem.run_bind, h0, hrun, h4, hfz] at s1
        simpa using s1.symm
      rw [← hW]
      exact ⟨_, rfl, E, s2, .tup [] [] .nil .nil, s3⟩
    · next k l hcs =>
      obtain ⟨h2, he⟩ := cond_of he
      cases he
      have h2 := Nat.eq_of_beq_eq_true h2
      subst h2
      obtain ⟨u, h4, h5⟩ := g4 0 _ (by rw [hcs]; rfl)
      obtain ⟨b2, o2, h6, rfl⟩ := h5.pointer
      rw [hlo] at h6; cases h6
      refine (Any.Builder_copyCheck_used l240 x72 b w h4).mono ?_
      rintro x w' ⟨rfl, rfl⟩
      exact ⟨_, rfl, E, hR, .tup [] [] .nil .nil, .refl _ _⟩
    · cases he
  · cases he
def und : List UInt8 → List UInt8
  | [] => []
  | [c] => [c]
  | c :: d :: l => if c = 39 ∧ d = 39 then 39 :: und l else c :: und (d :: l)
theorem rep_und : ∀ s : List UInt8, rep [39, 39] [39] s = und s
  | [] => rep_nil (by simp)
  | [c] => by
    rw [rep_miss (by simp) (by simp [List.isPrefixOf]), rep_nil (by simp)]; rfl
  | c :: d :: l => by
    by_cases h : c = 39 ∧ d = 39
    · obtain ⟨rfl, rfl⟩ := h
      rw [rep_hit (by simp) (by simp)]
      simp [und, rep_und l]
    · have hp : ([39, 39] : List UInt8).isPrefixOf (c :: d :: l) = false := by
        simp only [List.isPrefixOf, Bool.and_true, Bool.and_eq_false_iff, beq_eq_false_iff_ne]
        rcases Classical.not_and_iff_not_or_not.1 h with h | h
        · exact .inl (Ne.symm h)
        · exact .inr (Ne.symm h)
      rw [rep_miss (by simp) hp, rep_und (d :: l)]
      simp [und, h]
noncomputable def undR (n : Nat) : List UInt8 → List UInt8 := Nat.rec (fun _ => []) (fun _ ih l => match l with
  | [] => []
  | [c] => [c]
  | c :: d :: l => cond (Nat.beq c.toNat 39 && Nat.beq d.toNat 39) (39 :: ih l) (c :: ih (d :: l))) n
theorem u39 {c : UInt8} : Nat.beq c.toNat 39 = true ↔ c = 39 := ⟨fun h => UInt8.toNat_inj.1 (Nat.eq_of_beq_eq_true h), fun h => by rw [h]; rfl⟩
theorem undR_eq : ∀ (n : Nat) (l : List UInt8), l.length ≤ n → undR n l = und l
  | 0, [], _ => rfl
  | 0, _ :: _, h => by simp at h
  | _ + 1, [], _ => rfl
  | _ + 1, [_], _ => rfl
  | n + 1, c :: d :: l, h => by
    simp only [List.length_cons] at h
    show cond (Nat.beq c.toNat 39 && Nat.beq d.toNat 39) (39 :: undR n l) (c :: undR n (d :: l)) = _
    rw [undR_eq n l (by omega), undR_eq n (d :: l) (by simp; omega)]
    by_cases hc : c = 39 ∧ d = 39
    · rw [u39.2 hc.1, u39.2 hc.2]
      simp [und, hc]
    · have : (Nat.beq c.toNat 39 && Nat.beq d.toNat 39) = false := by
        cases hb : Nat.beq c.toNat 39 && Nat.beq d.toNat 39 with
        | false => rfl
        | true =>
          simp only [Bool.and_eq_true] at hb
          exact absurd ⟨u39.1 hb.1, u39.1 hb.2⟩ hc
      rw [this]
      simp [und, hc]
noncomputable def dblR (l : List UInt8) : List UInt8 := List.rec [] (fun c _ ih => cond (Nat.beq c.toNat 39) (39 :: 39 :: ih) (c :: ih)) l
theorem dblR_eq : ∀ l : List UInt8, dblR l = dbl l
  | [] => rfl
  | c :: l => by
    show cond (Nat.beq c.toNat 39) (39 :: 39 :: dblR l) (c :: dblR l) = _
    rw [dblR_eq l]
    by_cases hc : c = 39
    · rw [u39.2 hc]; simp [dbl, hc]
    · have : Nat.beq c.toNat 39 = false := by
        cases hb : Nat.beq c.toNat 39 with
        | false => rfl
        | true => exact absurd (u39.1 hb) hc
      rw [this]; simp [dbl, hc]
noncomputable def raW (s o n : List UInt8) : Option (List UInt8) := cond (bEq o [39] && bEq n [39, 39]) (some (dblR s)) (cond (bEq o [39, 39] && bEq n [39]) (some (undR (lenR s) s)) none)
theorem raW_eq {s o n l : List UInt8} (h : raW s o n = some l) : Lib.replaceAll s o n = l ∧ o ≠ [] ∧ n.length ≤ 2 := by
  unfold raW at h
  simp only [bEq_eq] at h
  cases h1 : (o == [39] && n == [39, 39]) with
  | true =>
    rw [h1] at h
    cases h
    simp only [Bool.and_eq_true, beq_iff_eq] at h1
    obtain ⟨rfl, rfl⟩ := h1
    rw [replaceAll_rep _ (by decide), rep_dbl, dblR_eq]
    exact ⟨rfl, by simp, by simp⟩
  | false =>
    rw [h1] at h
    obtain ⟨h2, h3⟩ := cond_of (b := o == [39, 39] && n == [39]) h
    cases h3
    simp only [Bool.and_eq_true, beq_iff_eq] at h2
    obtain ⟨rfl, rfl⟩ := h2
    rw [replaceAll_rep _ (by decide), rep_und, lenR_eq, undR_eq _ _ (Nat.le_refl _)]
    exact ⟨rfl, by simp, by simp⟩
noncomputable def evRA (args : List Value) (A : AH) : Rs := match args with
  | [.string s, .string o, .string n] => match A.get 0 with
    | some ⟨[.int .i64 _], _, _, _⟩ => cond (Nat.ble (lenR s.data.toList) 1000000) (bnd (raW s.data.toList o.data.toList n.data.toList) fun l => forceL l fun l => some (.string ⟨⟨l⟩⟩, A)) none
    | _ => none
  | _ => none
theorem bsize (s : ByteArray) : s.size = s.data.toList.length := Array.length_toList.symm
theorem gMaxLt : 0 < PP.globals.size := by
  have h : Nat.blt 0 PP.globals.size = true := by kernel_rfl
  exact blt_of h
theorem ra_good {base : Nat} {args : List Value} {A A' : AH} {v : Value} (he : evRA args A = some (v, A')) {E : EE} {w : World} {vs : List Value} (hR : RelA PP E A base w) (hG : Gl PP E) (hv : VL PP E vs args) : Calls PP 61 vs.toArray w fun x w' => ∃ u, x = .returned u ∧ Aft PP E A' base w v u w' := by
  unfold evRA at he
  split at he
  · next s o n =>
    split at he
    · next m _ _ _ hg =>
      obtain ⟨h1, he⟩ := cond_of he
      obtain ⟨l, h2, he⟩ := bnd_of he
      rw [forceL_eq] at he
      cases he
      obtain ⟨e1, e2, e3⟩ := raW_eq h2
      obtain ⟨b, o', g1, _, _, g4⟩ := hR.row _ _ hg
      rw [hG _ gMaxLt] at g1; cases g1
      obtain ⟨u, g5, g6⟩ := g4 0 _ rfl
      have g6 := g6.int
      subst g6
      have hvs := hv.cleans rfl
      subst hvs
      have h1 : s.data.toList.length ≤ 1000000 := by rw [lenR_eq] at h1; exact Nat.le_of_ble_eq_true h1
      have ho : 1 ≤ o.size := by
        rw [bsize]
        cases hd : o.data.toList with
        | nil => exact absurd hd e2
        | cons _ _ => simp
      have hc := Lib.countB_le o ho s.size s (Nat.le_refl _)
      have hsz := bsize s
      have hnz := bsize n
      refine (Tryz.strings_ReplaceAll s o n m w (by omega) g5 ho (by
        have : Lib.countB s o * n.size ≤ s.size * 2 := Nat.mul_le_mul hc (by omega)
        omega)).mono ?_
      rintro x w' ⟨rfl, hb⟩
      exact ⟨_, rfl, E, hR.belo hb, by rw [e1]; exact .sc _ rfl .nil, .later E hb⟩
    · cases he
  · cases he
noncomputable def strsC (v : Value) (o : Option (List ByteArray)) : Option (List ByteArray) := match v with | .string s => bnd o fun l => some (s :: l) | _ => none
noncomputable def strsR (l : List Value) : Option (List ByteArray) := List.rec (some []) (fun v _ ih => strsC v ih) l
theorem strsR_eq : ∀ {l : List Value} {xs : List ByteArray}, strsR l = some xs → l = xs.map .string
  | [], xs, h => by cases h; rfl
  | v :: l, xs, h => by
    have h : strsC v (strsR l) = some xs := h
    unfold strsC at h
    split at h
    · obtain ⟨ys, h1, h⟩ := bnd_of h
      cases h
      rw [strsR_eq h1]; rfl
    · cases h
noncomputable def joinR (sep : List UInt8) (l : List ByteArray) : List UInt8 := List.rec [] (fun x l ih => List.rec x.data.toList (fun _ _ _ => appR x.data.toList (appR sep ih)) l) l
theorem joinR_eq (sep : List UInt8) : ∀ l : List ByteArray, joinR sep l = Lib.join (l.map (·.data.toList)) sep
  | [] => rfl
  | [x] => by rw [List.map_cons, List.map_nil, Lib.join_one]; rfl
  | x :: y :: l => by
    show appR x.data.toList (appR sep (joinR sep (y :: l))) = _
    rw [joinR_eq sep (y :: l), appR_eq, appR_eq, List.map_cons, List.map_cons, List.map_cons, Lib.join_cons, Lib.join_cons]
    simp [Lib.joinTail]
noncomputable def evJN (args : List Value) (A : AH) : Rs := match args with
  | [.slice (some ⟨n, c, none⟩) len _, .string sep] => bnd (A.get n) fun r => cond (Nat.ble (c + len) (lenR r.cs)) (bnd (strsR (takeR len (dropR c r.cs))) fun xs => forceL (joinR sep.data.toList xs) fun l => cond (Nat.ble (lenR l) 1000000 && Nat.ble len 1000000) (some (.string ⟨⟨l⟩⟩, A)) none) none
  | [.slice none 0 0, .string _] => some (.string ⟨#[]⟩, A)
  | _ => none
theorem jn_good {base : Nat} {args : List Value} {A A' : AH} {v : Value} (he : evJN args A = some (v, A')) {E : EE} {w : World} {vs : List Value} (hR : RelA PP E A base w) (hv : VL PP E vs args) : Calls PP 74 vs.toArray w fun x w' => ∃ u, x = .returned u ∧ Aft PP E A' base w v u w' := by
  unfold evJN at he
  simp only [takeR_eq, dropR_eq, lenR_eq, forceL_eq] at he
  split at he
  · next n c len e sep =>
    obtain ⟨r, hr, he⟩ := bnd_of he
    obtain ⟨h1, he⟩ := cond_of he
    obtain ⟨xs, h2, he⟩ := bnd_of he
    obtain ⟨h3, he⟩ := cond_of he
    cases he
    simp only [Bool.and_eq_true, Nat.ble_eq] at h3 h1
    have h4 := strsR_eq h2
    have hlen : xs.length = len := by
      have := congrArg List.length h4
      rw [List.length_take, List.length_drop, List.length_map] at this
      omega
    match vs, hv with
    | u :: vs, hv =>
    obtain ⟨b, o, q, cap, hlo, rfl, hl, _, hroom⟩ := hv.head.slice
    have hvs := hv.tail.cleans rfl
    subst hvs
    obtain ⟨b', o', g1, g2, _, _⟩ := hR.row n r hr
    rw [hlo] at g1; cases g1
    obtain ⟨us, k1, k2, k3⟩ := hR.reads hr hlo c len h1
    rw [h4] at k3
    have hus : us = xs.map .string := k3.cleans (by rw [List.all_map, List.all_eq_true]; intro x _; rfl)
    have hc : ∀ (j : Nat) x, xs[j]? = some x → w.cell? ⟨b, q + j, none⟩ = some (.string x) := fun j x hx => by
      have hj : j < xs.length := (List.getElem?_eq_some_iff.1 hx).1
      rw [(hroom (by omega)).1]
      exact k2 j _ (by rw [hus, List.getElem?_map, hx]; rfl)
    have := Tryz.strings_Join b q cap xs sep w hc g2 (by omega) (by omega) (by rw [← joinR_eq]; omega)
    rw [hlen] at this
    refine this.mono ?_
    rintro x w' ⟨rfl, hb⟩
    exact ⟨_, rfl, E, hR.belo hb, by rw [joinR_eq]; exact .sc _ rfl .nil, .later E hb⟩
  · next s =>
    cases he
    have hvs := hv.cleans rfl
    subst hvs
    refine (Tryz.strings_Join_none none 0 s w).mono ?_
    rintro x w' ⟨rfl, rfl⟩
    exact ⟨_, rfl, E, hR, .sc _ rfl .nil, .refl _ _⟩
  · cases he
noncomputable def oraS : CallF := fun f args A => cond (Nat.beq f 58) (evCC args A) (cond (Nat.beq f 61) (evRA args A) (cond (Nat.beq f 74) (evJN args A) none))
theorem oraS_ok (base : Nat) : CallOK PP base oraS := by
  intro f args A v A' he
  unfold oraS at he
  cases h1 : Nat.beq f 58 with
  | true =>
    rw [h1] at he
    have h1 := Nat.eq_of_beq_eq_true h1
    subst h1
    exact ⟨⟨_, Tryz.func58, rfl, rfl⟩, fun E w vs hR _ hv => cc_good he hR hv⟩
  | false =>
  rw [h1] at he
  cases h2 : Nat.beq f 61 with
  | true =>
    rw [h2] at he
    have h2 := Nat.eq_of_beq_eq_true h2
    subst h2
    exact ⟨⟨_, Tryz.func61, rfl, rfl⟩, fun E w vs hR hG hv => ra_good he hR hG hv⟩
  | false =>
  rw [h2] at he
  cases h3 : Nat.beq f 74 with
  | true =>
    rw [h3] at he
    have h3 := Nat.eq_of_beq_eq_true h3
    subst h3
    exact ⟨⟨_, Tryz.func74, rfl, rfl⟩, fun E w vs hR _ hv => jn_good he hR hv⟩
  | false =>
    rw [h3] at he
    cases he
theorem nameOK : NameOK PP := by
  have h : (PP.funcs.all fun fn => !(fn.name == "runtime.NumGoroutine")) = true := by kernel_rfl
  intro f fn hf
  have := Array.all_eq_true'.1 h fn (Array.mem_of_getElem? hf)
  simpa using this
theorem mixedOK : PP.follows .mixedOrders = true := by kernel_rfl
noncomputable def callP (es : List Ent) : CallF := callB PP (evC PP (orB (oraT 0 es) oraS) (evDraw PP) 300)
theorem callP_ok {base : Nat} {es : List Ent} (h : ∀ e ∈ es, e.Ok PP base 0) : CallOK PP base (callP es) := callB_good nameOK (evC_good nameOK (orB_ok (oraT_ok h) (oraS_ok base)) (draw_ok mixedOK) 300)
end Go.Proofs.YtpinhcdcnaaihaaGreatDoor
