import Derived.Test.YtpinhcdcnaaihaaGreatDoorA26
namespace Go.Proofs.YtpinhcdcnaaihaaGreatDoor
def FzB (n : Nat) (fz : Nat × Nat) : Prop := fz.2 = 0 ∨ n ≤ fz.1
theorem FzB.free {w : World} {g : Nat} {cur : Array Value} {e : TypeId} {fz : Nat × Nat} {i : Nat} (h : FzB cur.size fz) (hg : w.heap[g]? = some (.cells cur e fz)) (hi : i < cur.size) : w.frozen? ⟨g, i, none⟩ = false := by
  obtain ⟨lo, hi'⟩ := fz
  simp only [World.frozen?, hg, Bool.and_eq_false_iff, decide_eq_false_iff_not]
  rcases h with h | h
  · right; simp only at h; omega
  · left; simp only at h; omega
theorem run_storeB (P : Program) (g o : Nat) (t : TypeId) (fz : Nat × Nat) : ∀ (vs : List Value) (i : Nat) (cur : Array Value) (w : World), w.heap[g]? = some (.cells cur t fz) → FzB cur.size fz → o + i + vs.length ≤ cur.size → (∀ v ∈ vs, v.oneCell' = true) →
    (storeCells ⟨g, o, none⟩ vs i).run P w = .ok () (w.setRow g (cur.toList.take (o + i) ++ vs ++ cur.toList.drop (o + i + vs.length)).toArray)
  | [], i, cur, w, hg, _, _, _ => by
    simp only [storeCells, List.append_nil, List.length_nil, Nat.add_zero, List.take_append_drop, Array.toArray_toList]
    rw [setRow_self w g cur t fz hg]
    rfl
  | v :: rest, i, cur, w, hg, hfz, hl, h1 => by
    have hi : o + i < cur.size := by simp at hl; omega
    have hadd : (⟨g, o, none⟩ : Addr).add i = ⟨g, o + i, none⟩ := by unfold Addr.add; split <;> simp_all
    have hcell : w.cell? ⟨g, o + i, none⟩ = some cur[o + i] := by simp [World.cell?, hg, hi]
    have hfro := hfz.free hg hi
    have hst : (store ((⟨g, o, none⟩ : Addr).add i) v).run P w = .ok () (w.setRow g (cur.setIfInBounds (o + i) v)) := by
      rw [hadd, run_store P w _ v _ (h1 v (by simp)), hcell]
      simp [hfro, setCell_eq_setRow w g (o + i) cur t fz v hg]
    have ih := run_storeB P g o t fz rest (i + 1) (cur.setIfInBounds (o + i) v) (w.setRow g (cur.setIfInBounds (o + i) v)) (setRow_heap w g cur _ t _ hg) (by simpa using hfz) (by simp at hl ⊢; omega) (fun x hx => h1 x (by simp [hx]))
    simp only [storeCells, Sem.run_bind, hst, Result.andThen_ok, ih, setRow_setRow]
    congr 3
    have e := list_seg_step cur.toList (o + i) v rest (by simp at hl ⊢; omega)
    simpa [Array.toList_setIfInBounds, Nat.add_assoc] using e
structure EE where
  lo : Nat → Option (Nat × Nat)
  bl : Nat → Option Nat
  ml : Nat → Option Nat
  tb : Nat → Option TypeId
def scV : Value → Bool
  | .bool _ | .int .. | .float .. | .complex .. | .string _ | .pointer none | .slice none 0 0 | .map none | .chan none | .nilFunc | .nilIface => true
  | .func _ a b => Nat.beq a.toList.length 0 && Nat.beq b.toList.length 0
  | _ => false
def oneV : Value → Bool
  | .agg _ | .tuple _ | .chan (some _) => false
  | _ => true
inductive VL (P : Program) (E : EE) : List Value → List Value → Prop
  | nil : VL P E [] []
  | sc {us ts : List Value} (v : Value) (h : scV v = true) (hs : VL P E us ts) : VL P E (v :: us) (v :: ts)
  | any {us ts : List Value} (u : Value) (hs : VL P E us ts) : VL P E (u :: us) (.chan (some 0) :: ts)
  | ptr {us ts : List Value} (n c b o : Nat) (h : E.lo n = some (b, o)) (hs : VL P E us ts) : VL P E (.pointer (some ⟨b, o + c, none⟩) :: us) (.pointer (some ⟨n, c, none⟩) :: ts)
  | slc {us ts : List Value} (n c e len cap b o q : Nat) (h : E.lo n = some (b, o)) (hl : len ≤ cap) (hm : cap ≤ 9223372036854775807) (hr : 0 < cap → q = o + c ∧ ∃ s i, E.bl b = some s ∧ P.info? e = some i ∧ o + c + cap * i.size ≤ s) (hs : VL P E us ts) : VL P E (.slice (some ⟨b, q, none⟩) len cap :: us) (.slice (some ⟨n, c, none⟩) len e :: ts)
  | agg {us ts : List Value} (xs cs : List Value) (hx : VL P E xs cs) (hs : VL P E us ts) : VL P E (.agg xs.toArray :: us) (.agg cs.toArray :: ts)
  | tup {us ts : List Value} (xs cs : List Value) (hx : VL P E xs cs) (hs : VL P E us ts) : VL P E (.tuple xs.toArray :: us) (.tuple cs.toArray :: ts)
  | fn {us ts : List Value} (f : Fn) (xs cs xs' cs' : List Value) (hx : VL P E xs cs) (hx' : VL P E xs' cs') (hs : VL P E us ts) : VL P E (.func f xs.toArray xs'.toArray :: us) (.func f cs.toArray cs'.toArray :: ts)
  | ifc {us ts : List Value} (t : TypeId) (u v : Value) (hx : VL P E [u] [v]) (hs : VL P E us ts) : VL P E (.iface t u :: us) (.iface t v :: ts)
  | tpt {us ts : List Value} (n b t : Nat) (h : E.lo n = some (b, 0)) (ht : E.tb b = some t) (hb : ∃ i, P.info? t = some i ∧ E.bl b = some i.size) (hs : VL P E us ts) : VL P E (.pointer (some ⟨b, 0, none⟩) :: us) (.pointer (some ⟨n, 0, some t⟩) :: ts)
  | mp {us ts : List Value} (n b : Nat) (h : E.ml n = some b) (hs : VL P E us ts) : VL P E (.map (some b) :: us) (.map (some n) :: ts)
structure EE.Le (E E' : EE) : Prop where
  lo : ∀ n x, E.lo n = some x → E'.lo n = some x
  bl : ∀ b s, E.bl b = some s → E'.bl b = some s
  ml : ∀ n b, E.ml n = some b → E'.ml n = some b
  tb : ∀ b t, E.tb b = some t → E'.tb b = some t
theorem EE.Le.refl (E : EE) : E.Le E := ⟨fun _ _ h => h, fun _ _ h => h, fun _ _ h => h, fun _ _ h => h⟩
theorem EE.Le.trans {E E' E'' : EE} (h : E.Le E') (h' : E'.Le E'') : E.Le E'' := ⟨fun n x hx => h'.lo n x (h.lo n x hx), fun b s hb => h'.bl b s (h.bl b s hb), fun b s hb => h'.ml b s (h.ml b s hb), fun b s hb => h'.tb b s (h.tb b s hb)⟩
section
variable {P : Program} {E E' : EE} {us ts : List Value}
theorem VL.mono (h : VL P E us ts) (hE : E.Le E') : VL P E' us ts := by
  induction h with
  | nil => exact .nil
  | sc v h _ ih => exact .sc v h ih
  | any u _ ih => exact .any u ih
  | ptr n c b o h _ ih => exact .ptr n c b o (hE.lo _ _ h) ih
  | slc n c e len cap b o q h hl hm hr _ ih => exact .slc n c e len cap b o q (hE.lo _ _ h) hl hm (fun hc => ⟨(hr hc).1, (hr hc).2.imp fun _ h => h.imp fun _ h => ⟨hE.bl _ _ h.1, h.2⟩⟩) ih
  | agg xs cs _ _ ih1 ih2 => exact .agg xs cs ih1 ih2
  | tup xs cs _ _ ih1 ih2 => exact .tup xs cs ih1 ih2
  | fn f xs cs xs' cs' _ _ _ ih1 ih2 ih3 => exact .fn f xs cs xs' cs' ih1 ih2 ih3
  | ifc t u v _ _ ih1 ih2 => exact .ifc t u v ih1 ih2
  | tpt n b t h ht hb _ ih => exact .tpt n b t (hE.lo _ _ h) (hE.tb _ _ ht) (hb.imp fun _ h => ⟨h.1, hE.bl _ _ h.2⟩) ih
  | mp n b h _ ih => exact .mp n b (hE.ml _ _ h) ih
theorem VL.length (h : VL P E us ts) : us.length = ts.length := by induction h <;> simp_all
theorem VL.head {u t : Value} (h : VL P E (u :: us) (t :: ts)) : VL P E [u] [t] := by
  cases h with
  | sc v h _ => exact .sc _ h .nil
  | any u _ => exact .any _ .nil
  | ptr n c b o h _ => exact .ptr n c b o h .nil
  | slc n c e len cap b o q h hl hm hr _ => exact .slc n c e len cap b o q h hl hm hr .nil
  | agg xs cs hx _ => exact .agg xs cs hx .nil
  | tup xs cs hx _ => exact .tup xs cs hx .nil
  | fn f xs cs xs' cs' hx hx' _ => exact .fn f xs cs xs' cs' hx hx' .nil
  | ifc t u v hx _ => exact .ifc t u v hx .nil
  | tpt n b t h ht hb _ => exact .tpt n b t h ht hb .nil
  | mp n b h _ => exact .mp n b h .nil
theorem VL.tail {u t : Value} (h : VL P E (u :: us) (t :: ts)) : VL P E us ts := by cases h <;> assumption
theorem VL.cons {u t : Value} (h : VL P E [u] [t]) (h' : VL P E us ts) : VL P E (u :: us) (t :: ts) := by
  cases h with
  | sc v h _ => exact .sc _ h h'
  | any u _ => exact .any _ h'
  | ptr n c b o h _ => exact .ptr n c b o h h'
  | slc n c e len cap b o q h hl hm hr _ => exact .slc n c e len cap b o q h hl hm hr h'
  | agg xs cs hx _ => exact .agg xs cs hx h'
  | tup xs cs hx _ => exact .tup xs cs hx h'
  | fn f xs cs xs' cs' hx hx' _ => exact .fn f xs cs xs' cs' hx hx' h'
  | ifc t u v hx _ => exact .ifc t u v hx h'
  | tpt n b t h ht hb _ => exact .tpt n b t h ht hb h'
  | mp n b h _ => exact .mp n b h h'
end
section
variable {P : Program} {E : EE}
theorem VL.append : ∀ {us vs ts ss : List Value}, VL P E us ts → VL P E vs ss → VL P E (us ++ vs) (ts ++ ss)
  | [], _, [], _, _, h' => h'
  | [], _, t :: ts, _, h, _ => by cases h
  | u :: us, _, [], _, h, _ => by cases h
  | u :: us, _, t :: ts, _, h, h' => h.head.cons (VL.append h.tail h')
theorem VL.get : ∀ {us ts : List Value}, VL P E us ts → ∀ (i : Nat) (t : Value), ts[i]? = some t → ∃ u, us[i]? = some u ∧ VL P E [u] [t]
  | [], [], _, i, t, h => by simp at h
  | [], _ :: _, h, _, _, _ => by cases h
  | _ :: _, [], h, _, _, _ => by cases h
  | u :: us, t :: ts, h, 0, s, e => by
    simp only [List.getElem?_cons_zero, Option.some.injEq] at e
    subst e
    exact ⟨u, rfl, h.head⟩
  | u :: us, t :: ts, h, i + 1, s, e => by
    obtain ⟨v, h1, h2⟩ := h.tail.get i s (by simpa using e)
    exact ⟨v, by simpa using h1, h2⟩
theorem VL.of_get : ∀ {us ts : List Value}, us.length = ts.length → (∀ (i : Nat) (u t : Value), us[i]? = some u → ts[i]? = some t → VL P E [u] [t]) → VL P E us ts
  | [], [], _, _ => .nil
  | u :: us, t :: ts, hl, h => (h 0 u t rfl rfl).cons (VL.of_get (by simpa using hl) fun i u t hu ht => h (i + 1) u t (by simpa using hu) (by simpa using ht))
theorem VL.take {us ts : List Value} (h : VL P E us ts) (k : Nat) : VL P E (us.take k) (ts.take k) := by
  refine VL.of_get (by simp [h.length]) fun i u t hu ht => ?_
  rw [List.getElem?_take] at hu ht
  split at hu
  · obtain ⟨u', h1, h2⟩ := h.get i t (by simpa [*] using ht)
    rw [hu] at h1; cases h1; exact h2
  · cases hu
theorem VL.drop {us ts : List Value} (h : VL P E us ts) (k : Nat) : VL P E (us.drop k) (ts.drop k) := by
  refine VL.of_get (by simp [h.length]) fun i u t hu ht => ?_
  rw [List.getElem?_drop] at hu ht
  obtain ⟨u', h1, h2⟩ := h.get _ t ht
  rw [hu] at h1; cases h1; exact h2
theorem VL.one1 {u t : Value} (h : VL P E [u] [t]) (ho : oneV t = true) : u.oneCell' = true := by
  cases h with
  | sc _ h _ => cases u <;> first | rfl | cases h
  | agg => simp [oneV] at ho
  | tup => simp [oneV] at ho
  | any => simp [oneV] at ho
  | _ => rfl
theorem VL.ones : ∀ {us ts : List Value}, VL P E us ts → ts.all oneV = true → ∀ u ∈ us, u.oneCell' = true
  | [], [], _, _, u, hu => by simp at hu
  | [], _ :: _, h, _, _, _ => by cases h
  | _ :: _, [], h, _, _, _ => by cases h
  | x :: us, t :: ts, h, hp, u, hu => by
    simp only [List.all_cons, Bool.and_eq_true] at hp
    rcases List.mem_cons.1 hu with rfl | hu
    · exact h.head.one1 hp.1
    · exact VL.ones h.tail hp.2 u hu
theorem VL.cells {u t : Value} (h : VL P E [u] [t]) (hn : (match t with | .chan (some _) => false | _ => true) = true) : VL P E u.cells.toList t.cells.toList := by
  cases h with
  | any => cases hn
  | agg xs cs hx _ => simpa [Value.cells] using hx
  | sc v' h _ =>
    have : ∀ w : Value, scV w = true → w.cells.toList = [w] := fun w hw => by cases w <;> first | rfl | cases hw
    rw [this _ h]; exact .sc _ h .nil
  | ptr n c b o h _ => exact .ptr n c b o h .nil
  | slc n c e len cap b o q h hl hm hr _ => exact .slc n c e len cap b o q h hl hm hr .nil
  | tup xs cs hx _ => exact .tup xs cs hx .nil
  | fn f xs cs xs' cs' hx hx' _ => exact .fn f xs cs xs' cs' hx hx' .nil
  | ifc t u v hx _ => exact .ifc t u v hx .nil
  | tpt n b t h ht hb _ => exact .tpt n b t h ht hb .nil
  | mp n b h _ => exact .mp n b h .nil
end
def Hot (E : EE) (A : AH) (b : Nat) : Prop := ∃ n r o, A.get n = some r ∧ r.fro = false ∧ E.lo n = some (b, o)
structure RelA (P : Program) (E : EE) (A : AH) (base : Nat) (w : World) : Prop where
  row : ∀ n r, A.get n = some r → ∃ b o, E.lo n = some (b, o) ∧ b < w.heap.size ∧ ((r.fro = true ∧ b < base) ∨ ∃ s, E.bl b = some s ∧ o + r.cs.length ≤ s) ∧ ∀ i v, r.cs[i]? = some v → ∃ u, w.cell? ⟨b, o + i, none⟩ = some u ∧ VL P E [u] [v]
  blk : ∀ b s, E.bl b = some s → base ≤ b ∧ ∃ c e fz, w.heap[b]? = some (.cells c e fz) ∧ c.size = s ∧ (Hot E A b → FzB s fz)
  sep : ∀ n m r q b o o', A.get n = some r → A.get m = some q → E.lo n = some (b, o) → E.lo m = some (b, o') → n = m ∨ r.fam = q.fam
  fam : ∀ n r, A.get n = some r → n < A.nx ∧ r.fam < A.nx ∧ ∃ l, A.fget r.fam = some l ∧ n ∈ l
  top : ∀ f n l, A.fget f = some (n :: l) → ∀ r m q b o o', A.get n = some r → A.get m = some q → q.fam = f → E.lo n = some (b, o) → E.lo m = some (b, o') → o' + q.cs.length ≤ o + r.cs.length
  mem : ∀ f l, A.fget f = some l → f < A.nx ∧ ∀ m ∈ l, m < A.nx ∧ ∀ r, A.get m = some r → r.fam = f
  new : ∀ n, A.nx ≤ n → E.lo n = none
  nxb : A.nx ≤ 16384
  map : ∀ n cs, A.mget n = some cs → ∃ b es cl, E.ml n = some b ∧ w.heap[b]? = some (.map es cl) ∧ base ≤ b ∧ VL P E (es.toList.map (·.key)) (cs.map (·.1)) ∧ VL P E (es.toList.map (·.val)) (cs.map (·.2))
  minj : ∀ n m b, E.ml n = some b → E.ml m = some b → n = m
  mnew : ∀ n, A.nm ≤ n → E.ml n = none
  mlt : ∀ n b, E.ml n = some b → b < w.heap.size
  base : base ≤ w.heap.size
  typ : ∀ b t, E.tb b = some t → ∃ c fz, w.heap[b]? = some (.cells c t fz)
  rty : ∀ n r t, A.get n = some r → r.ty = t + 1 → ∃ b o, E.lo n = some (b, o) ∧ E.tb b = some t
structure Fr (E E' : EE) (w w' : World) : Prop where
  le : E.Le E'
  os : w'.os = w.os
  tape : w'.tape = w.tape
  output : w'.output = w.output
  size : w.heap.size ≤ w'.heap.size
  block : ∀ b, b < w.heap.size → E.bl b = none → (∀ n, E.ml n ≠ some b) → w'.heap[b]? = w.heap[b]?
  old : ∀ b, b < w.heap.size → E'.bl b = E.bl b
  mold : ∀ n b, E'.ml n = some b → E.ml n = some b ∨ w.heap.size ≤ b
theorem Fr.refl (E : EE) (w : World) : Fr E E w w := ⟨.refl E, rfl, rfl, rfl, Nat.le_refl _, fun _ _ _ _ => rfl, fun _ _ => rfl, fun _ _ h => .inl h⟩
theorem Fr.trans {E E' E'' : EE} {w w' w'' : World} (h : Fr E E' w w') (h' : Fr E' E'' w' w'') : Fr E E'' w w'' :=
  ⟨h.le.trans h'.le, h'.os.trans h.os, h'.tape.trans h.tape, h'.output.trans h.output, Nat.le_trans h.size h'.size, fun b hb hn hm => (h'.block b (Nat.lt_of_lt_of_le hb h.size) ((h.old b hb).trans hn) fun n e => by
    rcases h.mold n b e with h1 | h1
    · exact hm n h1
    · omega).trans (h.block b hb hn hm), fun b hb => (h'.old b (Nat.lt_of_lt_of_le hb h.size)).trans (h.old b hb), fun n b e => by
    rcases h'.mold n b e with h1 | h1
    · exact h.mold n b h1
    · exact .inr (Nat.le_trans h.size h1)⟩
end Go.Proofs.YtpinhcdcnaaihaaGreatDoor
namespace Go.Proofs.YtpinhcdcnaaihaaGreatDoor
noncomputable def AH.put (A : AH) (n : Nat) (x : Option ARow) : AH := ⟨A.t.set evD n x, A.nx, A.fm, A.nm, A.mp⟩
noncomputable def AH.fput (A : AH) (f : Nat) (l : List Nat) : AH := ⟨A.t, A.nx, A.fm.set evD f (some l), A.nm, A.mp⟩
noncomputable def killL (n : Nat) (l : List Nat) : Tri ARow → Tri ARow := List.rec (fun t => t) (fun m _ ih t => ih (cond (Nat.beq m n) t (t.set evD m none))) l
noncomputable def AH.kill (A : AH) (n f : Nat) : AH := Option.rec A (fun l => List.rec A (fun _ l' _ => List.rec A (fun _ _ _ => ⟨killL n l A.t, A.nx, A.fm.set evD f (some [n]), A.nm, A.mp⟩) l') l) (A.fget f)
theorem blt_of {a b : Nat} (h : Nat.blt a b = true) : a < b := by simpa [Nat.blt_eq] using h
theorem blt_lt {a b : Nat} (h : a < b) : Nat.blt a b = true := by simpa [Nat.blt_eq] using h
theorem AH.get_lt {A : AH} {n : Nat} {r : ARow} (h : A.get n = some r) : n < 16384 := blt_of (cond_of h).1
theorem AH.fget_lt {A : AH} {n : Nat} {l : List Nat} (h : A.fget n = some l) : n < 16384 := blt_of (cond_of h).1
theorem AH.get_eq {A : AH} {n : Nat} (h : n < 16384) : A.get n = A.t.get evD n := by unfold AH.get; rw [blt_lt h]; rfl
theorem AH.get_ge {A : AH} {n : Nat} (h : ¬ n < 16384) : A.get n = none := by
  unfold AH.get
  have : Nat.blt n 16384 = false := by cases hb : Nat.blt n 16384 with | false => rfl | true => exact absurd (blt_of hb) h
  rw [this]; rfl
theorem AH.fget_eq {A : AH} {n : Nat} (h : n < 16384) : A.fget n = A.fm.get evD n := by unfold AH.fget; rw [blt_lt h]; rfl
theorem AH.fget_ge {A : AH} {n : Nat} (h : ¬ n < 16384) : A.fget n = none := by
  unfold AH.fget
  have : Nat.blt n 16384 = false := by cases hb : Nat.blt n 16384 with | false => rfl | true => exact absurd (blt_of hb) h
  rw [this]; rfl
theorem AH.get_put {A : AH} {n : Nat} {x : Option ARow} (hn : n < 16384) (m : Nat) : (A.put n x).get m = if m = n then x else A.get m := by
  by_cases hm : m < 16384
  · rw [AH.get_eq hm, AH.get_eq hm]; exact Tri.get_set x evD A.t n m hn hm
  · rw [AH.get_ge hm, AH.get_ge hm, if_neg (by omega)]
theorem AH.fget_fput {A : AH} {f : Nat} {l : List Nat} (hn : f < 16384) (m : Nat) : (A.fput f l).fget m = if m = f then some l else A.fget m := by
  by_cases hm : m < 16384
  · rw [AH.fget_eq hm, AH.fget_eq hm]; exact Tri.get_set (some l) evD A.fm f m hn hm
  · rw [AH.fget_ge hm, AH.fget_ge hm, if_neg (by omega)]
theorem killL_get (n : Nat) : ∀ (l : List Nat) (t : Tri ARow) (m : Nat), (∀ k ∈ l, k < 16384) → m < 16384 → (killL n l t).get evD m = if m ∈ l ∧ m ≠ n then none else t.get evD m
  | [], t, m, _, _ => by simp [killL]
  | k :: l, t, m, hl, hm => by
    have ih := fun t => killL_get n l t m (fun k hk => hl k (List.mem_cons_of_mem _ hk)) hm
    show (killL n l (cond (Nat.beq k n) t (t.set evD k none))).get evD m = _
    rw [ih]
    cases hb : Nat.beq k n with
    | true =>
      have := Nat.eq_of_beq_eq_true hb
      subst this
      by_cases h1 : m = k
      · subst h1; simp
      · simp [h1]
    | false =>
      have hne : k ≠ n := fun e => by subst e; simp at hb
      show (if m ∈ l ∧ m ≠ n then none else (t.set evD k none).get evD m) = _
      rw [Tri.get_set none evD t k m (hl k (List.mem_cons_self ..)) hm]
      by_cases h1 : m = k
      · subst h1; simp [hne]
      · simp [h1]
section
variable {P : Program} {E E' : EE} {A : AH} {base : Nat} {w : World}
theorem RelA.sub {A' : AH} (h : RelA P E A base w) (hx : A'.nx = A.nx) (hq : A'.nm = A.nm ∧ A'.mp = A.mp) (hg : ∀ n r, A'.get n = some r → A.get n = some r) (hf : ∀ n r, A'.get n = some r → ∃ l, A'.fget r.fam = some l ∧ n ∈ l)
    (hm : ∀ f l, A'.fget f = some l → f < A.nx ∧ ∀ m ∈ l, m < A.nx ∧ ∀ r, A.get m = some r → r.fam = f) (ht : ∀ f n l, A'.fget f = some (n :: l) → A.fget f = some (n :: l) ∨ ∀ m q, A'.get m = some q → q.fam = f → m = n ∨ ∀ r, A'.get n ≠ some r) : RelA P E A' base w where
  row n r hr := h.row n r (hg n r hr)
  blk b s hb := by
    obtain ⟨h1, c, e, fz, h2, h3, h4⟩ := h.blk b s hb
    exact ⟨h1, c, e, fz, h2, h3, fun ⟨n, r, o, g1, g2, g3⟩ => h4 ⟨n, r, o, hg _ _ g1, g2, g3⟩⟩
  sep n m r q b o o' h1 h2 := h.sep n m r q b o o' (hg _ _ h1) (hg _ _ h2)
  fam n r hr := by
    obtain ⟨h1, h2, _⟩ := h.fam n r (hg n r hr)
    rw [hx]
    exact ⟨h1, h2, hf n r hr⟩
  top f n l hl r m q b o o' h1 h2 h3 h4 h5 := by
    rcases ht f n l hl with h6 | h6
    · exact h.top f n l h6 r m q b o o' (hg _ _ h1) (hg _ _ h2) h3 h4 h5
    · rcases h6 m q h2 h3 with rfl | h7
      · rw [h1] at h2; cases h2
        rw [h4] at h5; cases h5
        exact Nat.le_refl _
      · exact absurd h1 (h7 r)
  mem f l hl := by
    obtain ⟨h1, h2⟩ := hm f l hl
    rw [hx]
    exact ⟨h1, fun m hm => ⟨(h2 m hm).1, fun r hr => (h2 m hm).2 r (hg _ _ hr)⟩⟩
  new n hn := h.new n (by rw [← hx]; exact hn)
  nxb := by rw [hx]; exact h.nxb
  map n cs hm := h.map n cs (by unfold AH.mget at hm ⊢; rw [← hq.2]; exact hm)
  minj := h.minj
  mnew n hn := h.mnew n (by rw [← hq.1]; exact hn)
  mlt := h.mlt
  base := h.base
  typ := h.typ
  rty n r t hr := h.rty n r t (hg n r hr)
theorem kill_get (h : RelA P E A base w) {n : Nat} {r : ARow} (hn : A.get n = some r) (m : Nat) : (A.kill n r.fam).get m = match A.get m with | some q => if q.fam = r.fam ∧ m ≠ n then none else some q | none => none := by
  obtain ⟨hx, hf, l, hl, hnl⟩ := h.fam n r hn
  obtain ⟨_, hml⟩ := h.mem _ _ hl
  have hb := h.nxb
  unfold AH.kill
  rw [hl]
  match l, hl, hnl, hml with
  | [k], hl, hnl, _ =>
    show A.get m = _
    cases hq : A.get m with
    | none => rfl
    | some q =>
      simp only
      split
      · next hc =>
        obtain ⟨_, _, l', hl', hm'⟩ := h.fam m q hq
        rw [hc.1, hl] at hl'
        cases hl'
        simp only [List.mem_singleton] at hnl hm'
        exact absurd (hm'.trans hnl.symm) hc.2
      · rfl
  | k :: k' :: l, hl, hnl, hml =>
    show AH.get ⟨killL n (k :: k' :: l) A.t, A.nx, A.fm.set evD r.fam (some [n]), A.nm, A.mp⟩ m = _
    by_cases hm : m < 16384
    · rw [AH.get_eq hm]
      show (killL n (k :: k' :: l) A.t).get evD m = _
      rw [killL_get n _ A.t m (fun k hk => by have := (hml k hk).1; omega) hm, ← AH.get_eq (A := A) hm]
      cases hq : A.get m with
      | none => simp
      | some q =>
        simp only
        obtain ⟨_, _, l', hl', hm'⟩ := h.fam m q hq
        by_cases hc : q.fam = r.fam
        · rw [hc, hl] at hl'
          cases hl'
          simp only [hm', hc, true_and]
        · by_cases hmem : m ∈ k :: k' :: l ∧ m ≠ n
          · exact absurd ((hml m hmem.1).2 q hq) hc
          · rw [if_neg hmem, if_neg (fun h => hc h.1)]
    · rw [AH.get_ge hm, AH.get_ge hm]
theorem kill_fget (h : RelA P E A base w) {n : Nat} {r : ARow} (hn : A.get n = some r) (g : Nat) : (A.kill n r.fam).fget g = if g = r.fam then some [n] else A.fget g := by
  obtain ⟨hx, hf, l, hl, hnl⟩ := h.fam n r hn
  have hb := h.nxb
  unfold AH.kill
  rw [hl]
  match l, hl, hnl with
  | [k], hl, hnl =>
    show A.fget g = _
    split
    · next e =>
      subst e
      rw [hl]
      simp only [List.mem_singleton] at hnl
      rw [hnl]
    · rfl
  | k :: k' :: l, hl, hnl =>
    exact AH.fget_fput (A := ⟨killL n (k :: k' :: l) A.t, A.nx, A.fm, A.nm, A.mp⟩) (l := [n]) (by omega) g
theorem kill_nx (A : AH) (n f : Nat) : (A.kill n f).nx = A.nx := by
  unfold AH.kill
  cases A.fget f with
  | none => rfl
  | some l =>
    match l with
    | [] => rfl
    | [_] => rfl
    | _ :: _ :: _ => rfl
theorem kill_mp (A : AH) (n f : Nat) : (A.kill n f).nm = A.nm ∧ (A.kill n f).mp = A.mp := by
  unfold AH.kill
  cases A.fget f with
  | none => exact ⟨rfl, rfl⟩
  | some l =>
    match l with
    | [] => exact ⟨rfl, rfl⟩
    | [_] => exact ⟨rfl, rfl⟩
    | _ :: _ :: _ => exact ⟨rfl, rfl⟩
theorem RelA.kill (h : RelA P E A base w) {n : Nat} {r : ARow} (hn : A.get n = some r) : RelA P E (A.kill n r.fam) base w := by
  have hk := kill_get h hn
  have hg : ∀ m q, (A.kill n r.fam).get m = some q → A.get m = some q ∧ (q.fam = r.fam → m = n) := fun m q hq => by
    rw [hk m] at hq
    cases hq' : A.get m with
    | none => rw [hq'] at hq; cases hq
    | some q' =>
      rw [hq'] at hq
      simp only at hq
      split at hq
      · cases hq
      · next hc =>
        cases hq
        exact ⟨rfl, fun e => Classical.byContradiction fun hne => hc ⟨e, hne⟩⟩
  refine h.sub (kill_nx _ _ _) (kill_mp _ _ _) (fun m q hq => (hg m q hq).1) (fun m q hq => ?_) (fun f l hl => ?_) (fun f m l hl => ?_)
  · obtain ⟨h1, h2⟩ := hg m q hq
    rw [kill_fget h hn]
    split
    · next e => exact ⟨[n], rfl, by rw [h2 e]; exact List.mem_singleton.2 rfl⟩
    · exact (h.fam m q h1).2.2
  · rw [kill_fget h hn] at hl
    split at hl
    · next e =>
      cases hl
      obtain ⟨h1, h2, _⟩ := h.fam n r hn
      exact ⟨by rw [e]; exact h2, fun m hm => by rw [List.mem_singleton.1 hm]; exact ⟨h1, fun q hq => by rw [hn] at hq; cases hq; exact e.symm⟩⟩
    · exact h.mem f l hl
  · rw [kill_fget h hn] at hl
    split at hl
    · next e =>
      cases hl
      subst e
      exact .inr fun k q hq hf => .inl ((hg k q hq).2 hf)
    · exact .inl hl
theorem kill_self (h : RelA P E A base w) {n : Nat} {r : ARow} (hn : A.get n = some r) : (A.kill n r.fam).get n = some r := by
  rw [kill_get h hn, hn]; simp
end
end Go.Proofs.YtpinhcdcnaaihaaGreatDoor
