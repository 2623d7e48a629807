import Derived.Test.YtpinhcdcnaaihaaGreatDoorA04
namespace Go.Proofs.YtpinhcdcnaaihaaGreatDoor
open Go.RowKit
theorem noDig_block {w : World} {g : Nat} {c : Array Value} {e : TypeId} {fr : Nat × Nat} (h : w.heap[g]? = some (.cells c e fr)) (hc : c.toList.all noDigV = true) : NoDigB w g := fun i u hu => by
  simp only [World.cell?, h, Option.isSome_none, Bool.false_eq_true, if_false] at hu
  exact List.all_eq_true.1 hc u (List.mem_of_getElem? (by simpa using hu))
theorem noDig_cur {w : World} {g : Nat} {c : Array Value} {e : TypeId} (h : w.heap[g]? = some (.cells c e (0, 0))) (hd : NoDigB w g) : c.toList.all noDigV = true := List.all_eq_true.2 fun u hu => by
  obtain ⟨i, hi, rfl⟩ := List.getElem_of_mem hu
  refine hd i _ ?_
  simp only [World.cell?, h, Option.isSome_none, Bool.false_eq_true, if_false]
  rw [← Array.getElem?_toList]
  exact List.getElem?_eq_getElem hi
theorem noDig_zero {z : Value} (hz : z.cells.toList.all noDigV = true) (n : Nat) : (Builtin.zeroCells z.cells n).toList.all noDigV = true := List.all_eq_true.2 fun u hu => by
  simp only [Builtin.zeroCells, Array.toList_map, List.mem_map] at hu
  obtain ⟨i, hi, rfl⟩ := hu
  rw [Array.getElem!_eq_getD, Array.getD_eq_getD_getElem?]
  cases hc : z.cells[i % z.cells.size]? with
  | none => rfl
  | some x => exact List.all_eq_true.1 hz x (by have := Array.mem_of_getElem? hc; simpa using this)
theorem take_noDig {l : List Value} (h : l.all noDigV = true) (n : Nat) : (l.take n).all noDigV = true := List.all_eq_true.2 fun x hx => List.all_eq_true.1 h x (List.mem_of_mem_take hx)
theorem run_app {P : Program} (w : World) (base : Nat) (t ty e : TypeId) (i : TypeInfo) (z : Value) (size bytes : Nat) (ht : P.underlying t = some (.slice e)) (hi : P.info? e = some i) (hz : i.zero = some z)
    (hsize : i.size = size) (hby : i.bytes = bytes) (hzs : z.cells.size = size) (hsz : 0 < size) (v : Value) (n : Nat) (xs : List Value) (hown : w.ownsRow base e size v n xs) (A : Option Addr) (m c : Nat) (news : List Value) (hl : news.length = m * size) (hnil : A = none → m = 0 ∧ c = 0) (hnews : ∀ a, A = some a → ∀ j u, news[j]? = some u → w.cell? (a.add j) = some u) (h1 : ∀ u ∈ news, u.oneCell' = true)
    (h63 : n + m ≤ maxLen) (hbytes : (n + m) * bytes ≤ 140737488355328) (hbase : base ≤ w.heap.size) (hzd : z.cells.toList.all noDigV = true) (hnd : news.all noDigV = true) (hd : ∀ g, v.ownBlock = some g → NoDigB w g) :
    ∃ v' w', (Builtin.append_ #[t, t] ty #[v, .slice A m c]).run P w = .ok v' w' ∧ w'.ownsRow base e size v' (n + m) (xs ++ news) ∧ w.grownBy w' v.ownBlock ∧ (v'.ownBlock = v.ownBlock ∨ v'.ownBlock = some w.heap.size) ∧ ∀ g, v'.ownBlock = some g → NoDigB w' g := by
  cases A with
  | none =>
    obtain ⟨rfl, rfl⟩ := hnil rfl
    have hn : news = [] := List.eq_nil_of_length_eq_zero (by simpa using hl)
    subst hn
    have hrun := run_append_owned_none (P := P) (w := w) base t ty e i size ht hi v n xs hown
    exact ⟨v, w, hrun, by simpa using hown, ⟨rfl, rfl, rfl, Nat.le_refl _, fun _ _ _ => rfl⟩, .inl rfl, hd⟩
  | some a =>
    obtain ⟨v', w', hr, h2, h3, h4, h5⟩ := run_append_own_at (P := P) w base t ty e i z size bytes ht hi hz hsize hby hzs hsz v n xs hown a m c news hl (hnews a rfl) h1 h63 hbytes hbase
    refine ⟨v', w', hr, h2, h3, h5, ?_⟩
    subst hsize
    subst hby
    have hsmall : n + m ≤ 9223372036854775807 := by simp only [maxLen] at h63; omega
    rcases hown.2 with ⟨rfl, rfl⟩ | ⟨g, cap, cur, rfl, hbg, hg, hnc, hcm, hcs, htake⟩
    · by_cases hm : m = 0
      · rw [h4.2 ⟨rfl, hm⟩]
        intro g hg; cases hg
      · have hr' := run_append_nil (P := P) w t ty e i z ht hi hz a m c news hl (hnews a rfl) (by omega) (by omega) (by have hb := hbytes; simp only [Nat.zero_add] at hb; omega)
        rw [hr] at hr'
        injection hr' with e1 e2
        subst e1 e2
        intro g hg
        cases hg
        exact noDig_block (heap_alloc_new w.drew _) (by simp only [Array.toList_append, List.all_append, Bool.and_eq_true]; exact ⟨hnd, noDig_zero hzd _⟩)
    · have hcd := noDig_cur hg (hd g rfl)
      by_cases hroom : n + m ≤ cap
      · have hfit : n * i.size + news.length ≤ cur.size := by rw [hl, hcs, ← Nat.add_mul]; exact Nat.mul_le_mul_right _ hroom
        have hr' := run_append_room (P := P) w t ty e i ht hi g n cap cur hg a m c news hl (hnews a rfl) h1 hroom hfit
        rw [hr] at hr'
        injection hr' with e1 e2
        subst e1 e2
        intro g' hg'
        cases hg'
        exact noDig_block (setRow_heap w g cur _ e _ hg) (all_putV hcd hnd)
      · have holds : ∀ j u, xs[j]? = some u → w.cell? ((⟨g, 0, none⟩ : Addr).add j) = some u := hown.cells (g := g) rfl
        have hr' := run_append_grow (P := P) w t ty e i z ht hi hz ⟨g, 0, none⟩ n cap xs hown.1 holds a m c news hl (hnews a rfl) (by omega) (by omega) (growslice_fits (by omega) hbytes)
        rw [hr] at hr'
        injection hr' with e1 e2
        subst e1 e2
        intro g' hg'
        cases hg'
        refine noDig_block (heap_alloc_new w.drew _) ?_
        simp only [Array.toList_append, List.all_append, Bool.and_eq_true]
        exact ⟨⟨by rw [← htake]; exact take_noDig hcd _, hnd⟩, noDig_zero hzd _⟩
theorem run_appS {P : Program} (w : World) (base : Nat) (t u ty e : TypeId) (i : TypeInfo) (ht : P.underlying t = some (.slice e)) (hu : P.underlying u = some .string) (hi : P.info? e = some i) (hz : i.zero = some (.int .u8 0)) (hsize : i.size = 1) (hby : i.bytes = 1)
    (v : Value) (n : Nat) (xs : List Value) (hown : w.ownsRow base e 1 v n xs) (s : ByteArray) (h63 : n + s.size ≤ 140737488355328) (hbase : base ≤ w.heap.size) (hd : ∀ g, v.ownBlock = some g → NoDigB w g) :
    ∃ v' w', (Builtin.append_ #[t, u] ty #[v, .string s]).run P w = .ok v' w' ∧ w'.ownsRow base e 1 v' (n + s.size) (xs ++ cellsB s.data.toList) ∧ w.grownBy w' v.ownBlock ∧ (v'.ownBlock = v.ownBlock ∨ v'.ownBlock = some w.heap.size) ∧ ∀ g, v'.ownBlock = some g → NoDigB w' g := by
  have hzd : (Value.int .u8 0).cells.toList.all noDigV = true := rfl
  have hsc : Lib.strCells s = cellsB s.data.toList := by simp [Lib.strCells, cellsB]
  have hnd : (Lib.strCells s).all noDigV = true := List.all_eq_true.2 fun x hx => by
    rw [hsc] at hx
    simp only [cellsB, List.mem_map] at hx
    obtain ⟨c, _, rfl⟩ := hx
    rfl
  obtain ⟨v', w', hr, h2, h3, h4⟩ := Lib.run_append_own_string (P := P) w base t u ty e i ht hu hi hz hsize hby v n xs hown s (by simp only [maxLen]; omega) (by omega) hbase
  rcases hown.2 with ⟨rfl, rfl⟩ | ⟨g, cap, cur, rfl, hbg, hg, hnc, hcm, hcs, htake⟩
  · by_cases hm : s.size = 0
    · refine ⟨v', w', hr, by rw [← hsc]; exact h2, h3, ?_, ?_⟩
      · rw [h4.2 ⟨rfl, hm⟩]; exact .inl rfl
      · rw [h4.2 ⟨rfl, hm⟩]
        intro g hg; cases hg
    · have hr' := run_append_nil_string (P := P) w t u ty e i (.int .u8 0) ht hu hi hz s (by omega) (by omega) (by rw [hby]; omega)
      refine ⟨v', w', hr, by rw [← hsc]; exact h2, h3, ?_⟩
      rw [hr] at hr'
      injection hr' with e1 e2
      subst e1 e2
      refine ⟨.inr rfl, fun g hg => ?_⟩
      cases hg
      refine noDig_block (heap_alloc_new w.drew _) ?_
      simp only [Array.toList_append, List.all_append, Bool.and_eq_true, Array.toList_map]
      exact ⟨by rw [hsc] at hnd; exact hnd, noDig_zero hzd _⟩
  · have hcd := noDig_cur hg (hd g rfl)
    by_cases hroom : n + s.size ≤ cap
    · have hr' := Lib.run_append_room_string (P := P) w t u ty e i ht hu hi hsize g n cap cur hg s hroom (by rw [hcs]; omega)
      refine ⟨v', w', hr, by rw [← hsc]; exact h2, h3, ?_⟩
      rw [hr] at hr'
      injection hr' with e1 e2
      subst e1 e2
      refine ⟨.inl rfl, fun g hg' => ?_⟩
      cases hg'
      exact noDig_block (setRow_heap w _ cur _ e _ hg) (all_putV hcd hnd)
    · have holds : ∀ j u, xs[j]? = some u → w.cell? ((⟨g, 0, none⟩ : Addr).add j) = some u := World.ownsRow.cells hown (g := g) rfl
      have hr' := Lib.run_append_grow_string (P := P) w t u ty e i (.int .u8 0) ht hu hi hz ⟨g, 0, none⟩ n cap xs (by rw [hsize]; exact hown.1) holds s (by omega) (by omega) (by rw [hby]; exact growslice_fits (by omega) (by omega))
      refine ⟨v', w', hr, by rw [← hsc]; exact h2, h3, ?_⟩
      rw [hr] at hr'
      injection hr' with e1 e2
      subst e1 e2
      refine ⟨.inr rfl, fun g hg' => ?_⟩
      cases hg'
      refine noDig_block (heap_alloc_new w.drew _) ?_
      simp only [Array.toList_append, List.all_append, Bool.and_eq_true]
      exact ⟨⟨by rw [← htake]; exact take_noDig hcd _, hnd⟩, noDig_zero hzd _⟩
structure AppT (P : Program) (t e : TypeId) (sz by_ : Nat) : Prop where
  u : P.underlying t = some (.slice e)
  i : ∃ i z, P.info? e = some i ∧ i.zero = some z ∧ i.size = sz ∧ i.bytes = by_ ∧ z.cells.size = sz ∧ z.cells.toList.all noDigV = true
  pos : 0 < sz
def appT (P : Program) (t : TypeId) : Option (TypeId × Nat × Nat) :=
  match P.underlying t with
  | some (.slice e) => (P.info? e).bind fun i => i.zero.bind fun z => if z.cells.size = i.size ∧ z.cells.toList.all noDigV = true ∧ 0 < i.size then some (e, i.size, i.bytes) else none
  | _ => none
theorem appT_of {P : Program} {t e : TypeId} {sz by_ : Nat} (h : appT P t = some (e, sz, by_)) : AppT P t e sz by_ := by
  unfold appT at h
  split at h
  · next e' hu =>
    simp only [Option.bind_eq_some_iff] at h
    obtain ⟨i, hi, z, hz, h⟩ := h
    split at h
    · next hc =>
      simp only [Option.some.injEq, Prod.mk.injEq] at h
      obtain ⟨rfl, rfl, rfl⟩ := h
      exact ⟨hu, ⟨i, z, hi, hz, rfl, rfl, hc.1, hc.2.1⟩, hc.2.2⟩
    · cases h
  · cases h
def AllC (p : Tree → Bool) (es : List Tree) : Prop := ∀ c ∈ flat es, p c = true
theorem AllC.all {p : Tree → Bool} {es : List Tree} (h : AllC p es) : (flat es).all p = true := List.all_eq_true.2 h
theorem AllC.lit {p : Tree → Bool} {es : List Tree} (h : (flat es).all p = true) : AllC p es := List.all_eq_true.1 h
section
variable {w0 : World} {G0 : Bse} {S : St} {o : Oper}
theorem row_done {a : Act} {w w' : World} {bx : List Nat} {rv : List Value} {k : Nat} {v v' : Value} {R R' : Row} {xs : List Value} (hm : Mem w0 G0 S.bs S.rs bx rv w) (hsz : a.tmps.size = S.n) (hdf : a.defers = []) (hsl : ∀ i, FT (en w G0 bx rv S.rs) [a.tmps.getD i undef] [S.get i]) (hd : dstOk S.n o.dst = true)
    (hv : rv[k]? = some v) (hR : S.rs[k]? = some (some R)) (hw : w.grownBy w' v.ownBlock) (hbk : v'.ownBlock = v.ownBlock ∨ v'.ownBlock = some w.heap.size) (ho : w'.ownsRow 0 R'.e R'.sz v' R'.es.length xs) (hx : PT w' (GG G0 bx (rv.set k v') (S.rs.set k (some R'))) xs (flat R'.es)) (hs : Sized R'.sz R'.es ∧ (R'.tt = true → TightV v')) (hnd : ∀ g, v'.ownBlock = some g → NoDigB w' g) :
    Sim w0 G0 ({ S.kill k with rs := S.rs.set k (some R') }.put o.dst (.own k)) (a.put o.dst v') w' := by
  have hbk' : ∀ g, v'.ownBlock = some g → v.ownBlock = some g ∨ w.heap.size ≤ g := fun g hg => by
    rcases hbk with h | h
    · exact .inl (h ▸ hg)
    · rw [h] at hg; injection hg with hg; exact .inr (by omega)
  have hkl := (List.getElem?_eq_some_iff.1 hv).1
  have hkr := (List.getElem?_eq_some_iff.1 hR).1
  refine ⟨bx, rv.set k v', ?_, by rw [put_size, St.put_n]; exact hsz, by rw [put_defers, hdf], ?_⟩
  · rw [St.put_bs, St.put_rs]
    exact hm.setRowV hv hR hw hbk' ho hx hs hnd
  · rw [St.put_rs]
    intro i
    rw [put_getD a o.dst _ S.n hsz hd, St.put_get]
    split
    · obtain ⟨A, c, rfl⟩ := ownsRow_slice ho
      refine .own k _ c A ?_ .nil
      show rvOf (rv.set k _) (S.rs.set k (some R')) k = _
      unfold rvOf
      rw [List.getElem?_set_self hkr, List.getElem?_set_self hkl]
      rfl
    · have h1 := (hsl i).kill (E' := en w' G0 bx (rv.set k v') (S.rs.set k (some R'))) (k := k) hw.size (mono_row hv hR hw hbk') (fun _ _ h => h) (fun j u hj hh => rv_row j u hj hh)
      rw [← St.kill_get] at h1
      exact h1
theorem do_append {x y : Operand} {t : TypeId} {k by_ : Nat} {R : Row} {ys : List Tree} (ho : o.op = .call { callee := .builtin .append, args := #[x, y], argTypes := #[t, t] }) (hd : dstOk S.n o.dst = true) (ht : appT Tryz.prog t = some (R.e, R.sz, by_)) (hx : S.ev x = .own k) (hR : S.rs[k]? = some (some R)) (hy : S.ev y = .sl ys) (hs : Sized R.sz ys) (h1 : AllC Tree.one ys) (h2 : AllC Tree.noDig ys) (h3 : R.es.length + ys.length ≤ 1073741824) (h4 : by_ ≤ 100000) :
    OpDo w0 G0 o S ({ S.kill k with rs := S.rs.set k (some ⟨R.e, R.sz, R.es ++ ys, false⟩) }.put o.dst (.own k)) := by
  rintro a w ⟨bx, rv, hm, hsz, hdf, hsl⟩
  have hp := ev_ft' (op := o.op) (T := fun s => a.tmps.getD s undef) (S := S) (fun s _ => hsl s) hx (by rw [ho]; simp [Op.operands, Call.operands])
  have hq := (ev_ft' (op := o.op) (T := fun s => a.tmps.getD s undef) (S := S) (fun s _ => hsl s) hy (by rw [ho]; simp [Op.operands, Call.operands])).isSl
  generalize (fun s => a.tmps.getD s undef) = T at hp hq ⊢
  obtain ⟨hv, xs, hown, hpx, hss, hnd⟩ := FT.own_row hm hR hp
  obtain ⟨A, c, e1, hlc, _, hA, hsl'⟩ := hq.slice
  obtain ⟨hu, ⟨i, z, hi, hz, hsi, hby, hzs, hzd⟩, hpos⟩ := appT_of ht
  obtain ⟨news, hn1, hn2, hn3⟩ : ∃ news, news.length = ys.length * R.sz ∧ PT w (GG G0 bx rv S.rs) news (flat ys) ∧ ∀ a, A = some a → ∀ j u, news[j]? = some u → w.cell? (a.add j) = some u := by
    rcases Nat.eq_zero_or_pos ys.length with h0 | h0
    · obtain rfl : ys = [] := List.eq_nil_of_length_eq_zero h0
      exact ⟨[], by simp, .nil, fun a _ j u hu => by simp at hu⟩
    · obtain ⟨b, off, news, rfl, _, _, hc, hx⟩ := hsl' h0
      refine ⟨news, by rw [hx.length, hs.flat], hx, fun ad ha j u hu => ?_⟩
      rw [← Option.some.inj ha, Addr.add_mid]
      exact hc j u hu
  have hft : FT (en w G0 bx rv S.rs) news (flat ys) := .of hn2
  obtain ⟨v', w', hr, ho', hgr, hbk, hnd'⟩ := run_app (P := Tryz.prog) w 0 t o.type R.e i z R.sz by_ hu hi hz hsi hby hzs hpos (evT T x) R.es.length xs hown A ys.length c news hn1 (fun e => ⟨by have := hA e; omega, hA e⟩) hn3 (hft.ones h1.all) (by simp only [maxLen]; omega) (Nat.le_trans (Nat.mul_le_mul h3 h4) (by decide)) (Nat.zero_le _) hzd (hft.noDigs h2.all) hnd
  refine OpRuns.of_ok (v := v') (W' := w') ?_ (row_done (R' := ⟨R.e, R.sz, R.es ++ ys, false⟩) (xs := xs ++ news) hm hsz hdf hsl hd hv hR hgr hbk (by simpa using ho') ?_ ⟨hss.1.append hs, fun h => by cases h⟩ hnd')
  · simp only [execOp, ho, resolve, invoke, builtin, Sem.run_bind, Sem.run_pure, Result.andThen_ok, List.map_toArray, List.map_cons, List.map_nil, e1, hr]
  · have hmono := mono_row (G0 := G0) (bx := bx) (w := w) (w' := w') (v' := v') (R' := ⟨R.e, R.sz, R.es ++ ys, false⟩) hv hR hgr (fun g hg => by
      rcases hbk with h | h
      · exact .inl (h ▸ hg)
      · rw [h] at hg; injection hg with hg; exact .inr (by omega))
    rw [flat_append]
    exact (hpx.mono hgr.size hmono).append (hn2.mono hgr.size hmono)
end
end Go.Proofs.YtpinhcdcnaaihaaGreatDoor
namespace Go.Proofs.YtpinhcdcnaaihaaGreatDoor
open Go.RowKit
def thenQ (K : St → Prop) (Q : Exit → St → Prop) : Exit → St → Prop
  | .normal, S => K S
  | e, S => Q e S
def inBlockQ (id : Nat) (Q : Exit → St → Prop) : Exit → St → Prop
  | .exit id', S => if id' = id then Q .normal S else Q (.exit id') S
  | e, S => Q e S
section
variable {w0 : World} {G0 : Bse} {Q : Exit → St → Prop} {S : St}
theorem AWP.mono {c : Code} {Q' : Exit → St → Prop} (h : AWP w0 G0 c Q S) (hq : ∀ e S, Q e S → Q' e S) : AWP w0 G0 c Q' S := fun a w hs => wp_mono (h a w hs) fun e _ _ ⟨S', h1, h2⟩ => ⟨S', hq e S' h1, h2⟩
theorem AWP.skip (h : Q .normal S) : AWP w0 G0 .skip Q S := fun _ _ hs => wp_skip ⟨S, h, hs⟩
theorem AWP.exit {id : Nat} (h : Q (.exit id) S) : AWP w0 G0 (.exit id) Q S := fun _ _ hs => wp_exit ⟨S, h, hs⟩
theorem AWP.ret (h : Q .ret S) : AWP w0 G0 .ret Q S := fun _ _ hs => wp_ret ⟨S, h, hs⟩
theorem AWP.seq {x y : Code} (h : AWP w0 G0 x (thenQ (AWP w0 G0 y Q) Q) S) : AWP w0 G0 (.seq x y) Q S := fun a w hs => wp_seq (wp_mono (h a w hs) fun e a' w' ⟨S', h1, h2⟩ => by
  cases e with
  | normal => exact h1 a' w' h2
  | _ => exact ⟨S', h1, h2⟩)
theorem AWP.cond {c : Operand} {x y : Code} {b : Bool} (hc : S.ev c = .sc (.bool b)) (ht : b = true → AWP w0 G0 x Q S) (hf : b = false → AWP w0 G0 y Q S) : AWP w0 G0 (.cond c x y) Q S := fun a w hs => by
  have he : a.eval c = .bool b := by
    obtain ⟨bx, rv, hm, hn, hdf, hsl⟩ := hs
    rw [evT_act]
    have : FT (en w G0 bx rv S.rs) [evT (fun s => a.tmps.getD s undef) c] [S.ev c] := by
      cases c with
      | tmp s => exact hsl s
      | const v => exact .pure (.sc v .nil) .nil
      | global g => exact .pure (.sc _ .nil) .nil
      | func f => exact .pure (.sc _ .nil) .nil
    rw [hc] at this
    exact this.isSc
  exact wp_cond_split he (fun h => ht h a w hs) (fun h => hf h a w hs)
theorem AWP.block {id : Nat} {c : Code} (h : AWP w0 G0 c (inBlockQ id Q) S) : AWP w0 G0 (.block id c) Q S := fun a w hs => wp_block (wp_mono (h a w hs) fun e a' w' ⟨S', h1, h2⟩ => by
  cases e with
  | exit id' =>
    simp only [inBlockQ] at h1
    simp only [Exit.inBlock]
    split at h1
    · rw [if_pos (by assumption)]; exact ⟨S', h1, h2⟩
    · rw [if_neg (by assumption)]; exact ⟨S', h1, h2⟩
  | _ => exact ⟨S', h1, h2⟩)
theorem exists_min (p : Nat → Prop) : ∀ n, p n → ∃ m, p m ∧ ∀ k, k < m → ¬ p k := fun n => by
  induction n using Nat.strongRecOn with
  | ind n ih =>
    intro hn
    by_cases h : ∃ k, k < n ∧ p k
    · obtain ⟨k, hk, hp⟩ := h
      exact ih k hk hp
    · exact ⟨n, hn, fun k hk hp => h ⟨k, hk, hp⟩⟩
open Classical in
theorem AWP.loop {c : Code} (I : Nat → St → Prop) (n0 : Nat) (h0 : I n0 S) (round : ∀ n S, I n S → AWP w0 G0 c (thenQ (fun S' => ∃ m, m < n ∧ I m S') Q) S) : AWP w0 G0 (.loop c) Q S := fun a w hs => by
  let p : Act → World → Nat → Prop := fun a w n => ∃ S, I n S ∧ Sim w0 G0 S a w
  let μ : Act → World → Nat := fun a w => if h : ∃ n, p a w n then Classical.choose (exists_min (p a w) _ (Classical.choose_spec h)) else 0
  have hμ : ∀ a w n, p a w n → p a w (μ a w) ∧ μ a w ≤ n := fun a w n hn => by
    have hex : ∃ n, p a w n := ⟨n, hn⟩
    have hsp := Classical.choose_spec (exists_min (p a w) _ (Classical.choose_spec hex))
    have e : μ a w = Classical.choose (exists_min (p a w) _ (Classical.choose_spec hex)) := by simp only [μ]; rw [dif_pos hex]
    rw [e]
    refine ⟨hsp.1, ?_⟩
    rcases Nat.lt_or_ge n (Classical.choose (exists_min (p a w) _ (Classical.choose_spec hex))) with hlt | hge
    · exact absurd hn (hsp.2 n hlt)
    · exact hge
  refine wp_loop (fun a w => ∃ n, p a w n) μ ⟨n0, S, h0, hs⟩ ?_
  rintro a w ⟨n, hn⟩
  obtain ⟨⟨S', hI, hS⟩, _⟩ := hμ a w n hn
  refine wp_mono (round _ S' hI a w hS) ?_
  rintro e a' w' ⟨S'', h1, h2⟩
  cases e with
  | normal =>
    obtain ⟨m, hm, hI'⟩ := h1
    have hp : p a' w' m := ⟨S'', hI', h2⟩
    exact ⟨⟨m, hp⟩, Nat.lt_of_le_of_lt (hμ a' w' m hp).2 hm⟩
  | _ => exact ⟨S'', h1, h2⟩
def within0 (m k : Nat) : Tree → Bool
  | .box b _ => decide (b < m)
  | .own j | .elp j _ => decide (j < k)
  | .agg _ | .tup _ => false
  | _ => true
def within (m k : Nat) : Tree → Bool
  | .agg cs | .tup cs => cs.all (within0 m k)
  | t => within0 m k t
theorem FT.within0 {E E' : En} {m k : Nat} (hs : E.W.heap.size ≤ E'.W.heap.size) (hk : ∀ b, b < E.W.heap.size → ¬ E.G b → E'.W.heap[b]? = E.W.heap[b]? ∧ ¬ E'.G b) (hb : ∀ b g, b < m → E.bx b = some g → E'.bx b = some g) (hr : ∀ j v, j < k → E.rv j = some v → E'.rv j = some v) {v : Value} {t : Tree} (h : FT E [v] [t]) (hw : Go.Proofs.YtpinhcdcnaaihaaGreatDoor.within0 m k t = true) : FT E' [v] [t] := by
  cases h with
  | pure h _ => exact .pure (h.mono hs hk) .nil
  | any => exact .any _ .nil
  | box b off g h _ => exact .box b off g (hb b g (by simpa [Go.Proofs.YtpinhcdcnaaihaaGreatDoor.within0] using hw) h) .nil
  | own j n c A h _ => exact .own j n c A (hr j _ (by simpa [Go.Proofs.YtpinhcdcnaaihaaGreatDoor.within0] using hw) h) .nil
  | elp j off g n c h _ => exact .elp j off g n c (hr j _ (by simpa [Go.Proofs.YtpinhcdcnaaihaaGreatDoor.within0] using hw) h) .nil
  | agg => simp [Go.Proofs.YtpinhcdcnaaihaaGreatDoor.within0] at hw
  | tup => simp [Go.Proofs.YtpinhcdcnaaihaaGreatDoor.within0] at hw
theorem FT.within0s {E E' : En} {m k : Nat} (hs : E.W.heap.size ≤ E'.W.heap.size) (hk : ∀ b, b < E.W.heap.size → ¬ E.G b → E'.W.heap[b]? = E.W.heap[b]? ∧ ¬ E'.G b) (hb : ∀ b g, b < m → E.bx b = some g → E'.bx b = some g) (hr : ∀ j v, j < k → E.rv j = some v → E'.rv j = some v) : ∀ {us : List Value} {ts : List Tree}, FT E us ts → ts.all (Go.Proofs.YtpinhcdcnaaihaaGreatDoor.within0 m k) = true → FT E' us ts
  | [], [], _, _ => .nil
  | [], _ :: _, h, _ => by cases h
  | _ :: _, [], h, _ => by cases h
  | u :: us, t :: ts, h, hp => by
    simp only [List.all_cons, Bool.and_eq_true] at hp
    exact FT.cons (FT.within0 hs hk hb hr h.head hp.1) (FT.within0s hs hk hb hr h.tail hp.2)
theorem FT.within {E E' : En} {m k : Nat} (hs : E.W.heap.size ≤ E'.W.heap.size) (hk : ∀ b, b < E.W.heap.size → ¬ E.G b → E'.W.heap[b]? = E.W.heap[b]? ∧ ¬ E'.G b) (hb : ∀ b g, b < m → E.bx b = some g → E'.bx b = some g) (hr : ∀ j v, j < k → E.rv j = some v → E'.rv j = some v) {v : Value} {t : Tree} (h : FT E [v] [t]) (hw : Go.Proofs.YtpinhcdcnaaihaaGreatDoor.within m k t = true) : FT E' [v] [t] := by
  cases t with
  | agg cs =>
    obtain ⟨xs, rfl, hx⟩ := h.isAgg
    exact .agg xs _ (FT.within0s hs hk hb hr hx hw) .nil
  | tup cs =>
    obtain ⟨xs, rfl, hx⟩ := h.isTup
    exact .tup xs _ (FT.within0s hs hk hb hr hx hw) .nil
  | _ => exact FT.within0 hs hk hb hr h hw
inductive Keeps (S : St) (m k : Nat) : List (Nat × Tree) → Prop
  | nil : Keeps S m k []
  | cons {i : Nat} {t : Tree} {l : List (Nat × Tree)} (h : S.get i = t) (hw : within m k t = true) (hs : Keeps S m k l) : Keeps S m k ((i, t) :: l)
theorem Keeps.get {m k : Nat} {l : List (Nat × Tree)} (h : Keeps S m k l) (i : Nat) : look l i = .any ∨ (look l i = S.get i ∧ within m k (S.get i) = true) := by
  induction h with
  | nil => exact .inl rfl
  | cons h hw _ ih =>
    rw [look_cons]
    split
    · next e => subst e; exact .inr ⟨h.symm, by rw [h]; exact hw⟩
    · exact ih
theorem take_get {α : Type} {l : List α} {m i : Nat} {x : α} (h : (l.take m)[i]? = some x) : i < m ∧ l[i]? = some x := by grind
theorem get_take {α : Type} {l : List α} {m i : Nat} {x : α} (h : l[i]? = some x) (hm : i < m) : (l.take m)[i]? = some x := by grind
theorem Sim.less {a : Act} {w : World} (h : Sim w0 G0 S a w) (m k : Nat) (l : List (Nat × Tree)) (hl : Keeps S m k l) (hb : ((S.bs.take m).all fun p => p.2.all (within0 m k)) = true) (hpn : G0.pn ≤ m := by first | exact Nat.zero_le _ | exact Nat.le_of_ble_eq_true rfl) : Sim w0 G0 ⟨S.n, l, S.bs.take m, S.rs.take k⟩ a w := by
  obtain ⟨bx, rv, hm, hn, hdf, hsl⟩ := h
  have hbk : ∀ b, b ∈ blocks (bx.take m) (rv.take k) (S.rs.take k) → b ∈ blocks bx rv S.rs := fun b hb => by
    rcases mem_blocks.1 hb with h1 | ⟨j, u, X, h1, h2, h3⟩
    · exact mem_blocks.2 (.inl (List.mem_of_mem_take h1))
    · exact mem_blocks.2 (.inr ⟨j, u, X, (take_get h1).2, (take_get h2).2, h3⟩)
  have hk : ∀ b, b < w.heap.size → ¬ GG G0 bx rv S.rs b → w.heap[b]? = w.heap[b]? ∧ ¬ GG G0 (bx.take m) (rv.take k) (S.rs.take k) b := fun b _ hG => ⟨rfl, fun h => hG (h.imp id (hbk b))⟩
  have hbb : ∀ b g, b < m → (en w G0 bx rv S.rs).bx b = some g → (en w G0 (bx.take m) (rv.take k) (S.rs.take k)).bx b = some g := fun b g hbm h => get_take (l := bx) h hbm
  have hrr : ∀ j v, j < k → (en w G0 bx rv S.rs).rv j = some v → (en w G0 (bx.take m) (rv.take k) (S.rs.take k)).rv j = some v := fun j v hj h => by
    show rvOf (rv.take k) (S.rs.take k) j = some v
    have h : rvOf rv S.rs j = some v := h
    unfold rvOf at h ⊢
    rw [List.getElem?_take, if_pos hj, List.getElem?_take, if_pos hj]
    exact h
  refine ⟨bx.take m, rv.take k, ⟨hm.below, hm.env0, hm.g0, by simp [hm.nb], by simp [hm.nr], fun i g hi => ?_, fun j u X h1 h2 => ?_, ⟨hm.nodup.bb.sublist (List.take_sublist _ _), fun j u X b h1 h2 h3 hmm => hm.nodup.br j u X b (take_get h1).2 (take_get h2).2 h3 (List.mem_of_mem_take hmm), fun i j u v X Y b hij h1 h2 h3 h4 => hm.nodup.rr i j u v X Y b hij (take_get h1).2 (take_get h2).2 (take_get h3).2 (take_get h4).2⟩, fun b hb => hm.ge b (hbk b hb), fun i hi => get_take (hm.pin i hi) (Nat.lt_of_lt_of_le hi hpn)⟩, hn, hdf, fun i => ?_⟩
  · obtain ⟨h1, h2⟩ := take_get hi
    obtain ⟨ty, cs, us, h3, h4, h5, h6⟩ := hm.box i g h2
    have h7 := get_take h3 h1
    exact ⟨ty, cs, us, h7, h4, FT.within0s (E := en w G0 bx rv S.rs) (E' := en w G0 (bx.take m) (rv.take k) (S.rs.take k)) (m := m) (k := k) (Nat.le_refl _) hk hbb hrr h5 (List.all_eq_true.1 hb _ (List.mem_of_getElem? h7)), h6⟩
  · obtain ⟨xs, h3, h4, h5, h6⟩ := hm.row j u X (take_get h1).2 (take_get h2).2
    exact ⟨xs, h3, h4.mono (Nat.le_refl _) hk, h5, h6⟩
  · show FT _ _ [look l i]
    rcases hl.get i with h1 | ⟨h1, h2⟩
    · rw [h1]; exact .any _ .nil
    · rw [h1]; exact FT.within (E := en w G0 bx rv S.rs) (E' := en w G0 (bx.take m) (rv.take k) (S.rs.take k)) (m := m) (k := k) (Nat.le_refl _) hk hbb hrr (hsl i) h2
def resT (S : St) : ResultVar → Tree → Prop
  | .tmp t, x => S.get t = x
  | .cell a ty, x => ∃ b off bt cs, S.get a = .box b off ∧ S.bs[b]? = some (bt, cs) ∧ ((∃ n, aggT Tryz.prog ty = some n ∧ Nat.ble (off + n) cs.length = true ∧ x = .agg ((cs.drop off).take n)) ∨ (oneT Tryz.prog ty = true ∧ cs[off]? = some x))
inductive ResL (S : St) : List ResultVar → List Tree → Prop
  | nil : ResL S [] []
  | cons {x : ResultVar} {t : Tree} {xs : List ResultVar} {ts : List Tree} (h : resT S x t) (hs : ResL S xs ts) : ResL S (x :: xs) (t :: ts)
def resTree : List Tree → Tree
  | [t] => t
  | ts => .tup ts
def retQ (rvs : List ResultVar) (r : Tree) (e : Exit) (S : St) : Prop := (e = .normal ∨ e = .ret) ∧ ∃ ts, ResL S rvs ts ∧ resTree ts = r ∧ r.plain = true
theorem run_result {a : Act} {w : World} {bx : List Nat} {rv : List Value} (hm : Mem w0 G0 S.bs S.rs bx rv w) (hsl : ∀ i, FT (en w G0 bx rv S.rs) [a.tmps.getD i undef] [S.get i]) {x : ResultVar} {t : Tree} (h : resT S x t) :
    ∃ v, ((match x with | .tmp t => pure (a.tmps.getD t undef) | .cell b t => do loadVar t (← asAddr (a.tmps.getD b undef)) : Sem Value)).run Tryz.prog w = .ok v w ∧ FT (en w G0 bx rv S.rs) [v] [t] := by
  cases x with
  | tmp s =>
    have h : S.get s = t := h
    exact ⟨_, rfl, h ▸ hsl s⟩
  | cell s ty =>
    obtain ⟨b, off, bt, cs, h1, h2, h3⟩ := h
    have hp := hsl s
    rw [h1] at hp
    obtain ⟨g, us, _, e1, hbk, hf, _⟩ := box_of hm h2 hp
    rcases h3 with ⟨n, hag, hle, rfl⟩ | ⟨hone, hc⟩
    · obtain ⟨d, hu, hd, hi⟩ := aggT_of hag
      have hle : off + n ≤ cs.length := by simpa using hle
      have hl : ((us.drop off).take n).length = n := by have := hf.length; rw [List.length_take, List.length_drop]; omega
      have hr := run_loadVar_mid (P := Tryz.prog) w g off ty ((us.drop off).take n) d (fun j v hv => by
        rw [hbk.cell, List.getElem?_toArray]
        rw [List.getElem?_take] at hv
        split at hv
        · rw [List.getElem?_drop] at hv; exact hv
        · cases hv) hu hd (by rw [hl]; exact hi)
      refine ⟨.agg ((us.drop off).take n).toArray, ?_, .agg _ _ ((hf.drop off).take n) .nil⟩
      simp only [e1, asAddr, Sem.run_bind, Sem.run_pure, Result.andThen_ok, hr]
    · obtain ⟨u, hu, hft⟩ := hf.get off t hc
      obtain ⟨d, hud, hd⟩ := oneT_of hone
      have hagg : (isAgg ty).run Tryz.prog w = .ok false w := by
        unfold isAgg
        rw [Sem.run_bind, run_underlying hud w]
        cases d <;> simp_all
      have hcl : w.cell? ⟨g, off, none⟩ = some u := by rw [hbk.cell, List.getElem?_toArray]; exact hu
      refine ⟨u, ?_, hft⟩
      simp only [e1, asAddr, Sem.run_bind, Sem.run_pure, Result.andThen_ok]
      simp [loadVar, hagg, hcl]
theorem run_results {a : Act} {w : World} {bx : List Nat} {rv : List Value} (hm : Mem w0 G0 S.bs S.rs bx rv w) (hsl : ∀ i, FT (en w G0 bx rv S.rs) [a.tmps.getD i undef] [S.get i]) : ∀ {xs : List ResultVar} {ts : List Tree}, ResL S xs ts →
    ∃ vs, (xs.mapM (m := Sem) fun | .tmp t => pure (a.tmps.getD t undef) | .cell b t => do loadVar t (← asAddr (a.tmps.getD b undef))).run Tryz.prog w = .ok vs w ∧ FT (en w G0 bx rv S.rs) vs ts
  | [], [], _ => ⟨[], rfl, .nil⟩
  | x :: xs, t :: ts, .cons h hs => by
    obtain ⟨v, h1, h2⟩ := run_result hm hsl h
    obtain ⟨vs, h3, h4⟩ := run_results hm hsl hs
    refine ⟨v :: vs, ?_, FT.cons h2 h4⟩
    rw [List.mapM_cons, Sem.run_bind, h1, Result.andThen_ok, Sem.run_bind, h3, Result.andThen_ok]
    rfl
def initSl : Nat → List Tree → List (Nat × Tree)
  | _, [] => []
  | k, t :: ts => (k, t) :: initSl (k + 1) ts
theorem look_init : ∀ (ts : List Tree) (k i : Nat), look (initSl k ts) i = if k ≤ i then (ts[i - k]?).getD .any else .any
  | [], k, i => by simp [initSl, look]
  | t :: ts, k, i => by
    simp only [initSl, look_cons, look_init ts (k + 1) i]
    by_cases h : k = i
    · subst h; simp
    · rw [if_neg h]
      by_cases h2 : k ≤ i
      · rw [if_pos (by omega), if_pos h2, show i - k = (i - (k + 1)) + 1 by omega, List.getElem?_cons_succ]
      · rw [if_neg (by omega), if_neg h2]
theorem mem_pln {w : World} {G : Nat → Prop} (hE : Env w) (hG : ∀ g, G g → g < w.heap.size ∧ NoDigB w g) : Mem w (pln G) [] [] [] [] w :=
  ⟨Kept.refl _ _, .pln hE, fun g h => ⟨(hG g h).1, (hG g h).2, id⟩, rfl, rfl, fun i g hi => by simp at hi, fun k v R hv => by simp at hv, ⟨List.nodup_nil, fun k v R b hv => by simp at hv, fun j k u v X R b _ hv => by simp at hv⟩, fun b hb => by simp [blocks] at hb, fun i hi => absurd hi (Nat.not_lt_zero i)⟩
theorem Ct.of {f : FuncId} {fn : Func} {c : Code} {args : List Tree} {r : Tree} {n : Nat} {rvs : List ResultVar} (hf : Tryz.prog.funcs[f]? = some fn) (hb : fn.body = some c) (hnm : (fn.name == "runtime.NumGoroutine") = false) (hn : fn.ntmps = n) (hl : Nat.ble args.length n = true) (hr : fn.results.toList = rvs)
    (h : ∀ w0 G0, AWP w0 (pln G0) c (retQ rvs r) ⟨n, initSl 0 args, [], []⟩) : Ct f args r := by
  refine ⟨⟨fn, hf, hnm, by rw [hb]; rfl⟩, fun G w vs hE hG hp => ?_⟩
  have hlen := hp.length
  have hl : args.length ≤ n := by simpa using hl
  refine calls_of_wp hf hb (wp_mono (h w G _ w ⟨[], [], mem_pln hE hG, ?_, rfl, fun i => ?_⟩) ?_)
  · simp; omega
  · show FT _ _ [look (initSl 0 args) i]
    rw [look_init, if_pos (Nat.zero_le _), Nat.sub_zero]
    cases ht : args[i]? with
    | none => exact .any _ .nil
    | some t =>
      obtain ⟨u, hu, hut⟩ := hp.get i t ht
      have hi := (List.getElem?_eq_some_iff.1 hu).1
      have e1 : (vs.toArray ++ Array.replicate (fn.ntmps - vs.toArray.size) undef).getD i undef = u := by
        rw [Array.getD_eq_getD_getElem?, Array.getElem?_append_left (by simpa using hi), List.getElem?_toArray, hu]
        rfl
      rw [e1]
      refine .pure (hut.mono (Nat.le_refl _) fun b _ hGb => ⟨rfl, fun h => ?_⟩) .nil
      rcases h with h | h
      · exact hGb h
      · simp [blocks] at h
  · rintro e a w' ⟨S', ⟨he, ts, hrl, rfl, hpl⟩, bx, rv, hm, _, hdf, hsl⟩
    obtain ⟨us, hrun, hft⟩ := run_results hm hsl (hr ▸ hrl)
    have key : a.defers = [] ∧ ∃ v, (results fn a.tmps).run Tryz.prog w' = .ok v w' ∧ (fun e w' => ∃ v, e = Ending.returned v ∧ PT w' G [v] [resTree ts] ∧ Below w.heap.size w w') (.returned v) w' := by
      refine ⟨hdf, if h : us.toArray.size = 1 then us.toArray[0] else .tuple us.toArray, ?_, _, rfl, ?_, hm.below.below⟩
      · unfold results
        rw [Sem.run_bind, Array.mapM_eq_mapM_toList, Sem.run_map]
        exact congrArg (fun x : Result (List Value) => (x.andThen fun a w' => Result.ok a.toArray w').andThen fun a w' => Sem.run Tryz.prog (pure (if h : a.size = 1 then a[0] else Value.tuple a)) w') hrun
      · have h1 : FT (en w' (pln G) bx rv S'.rs) [if h : us.toArray.size = 1 then us.toArray[0] else .tuple us.toArray] [resTree ts] := by
          match us, ts, hft with
          | [], [], _ => exact .tup [] [] .nil .nil
          | [u], [t], h => exact h
          | u :: u' :: us, t :: t' :: ts, h =>
            rw [dif_neg (by simp)]
            exact .tup _ _ h .nil
        exact (h1.plain hpl).mono (Nat.le_refl _) fun b _ hGb => ⟨rfl, fun h => hGb (.inl h)⟩
    rcases he with rfl | rfl
    · exact key
    · exact key
end
end Go.Proofs.YtpinhcdcnaaihaaGreatDoor
