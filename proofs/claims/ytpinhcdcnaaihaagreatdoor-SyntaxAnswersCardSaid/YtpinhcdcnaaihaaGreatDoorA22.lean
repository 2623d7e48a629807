import Derived.Test.YtpinhcdcnaaihaaGreatDoorA21
import Derived.Deep.RegionWith
import Derived.Deep.DrawnRows
import Derived.Lib.SliceRun
import Derived.Laws.IdiomCopy
namespace Go.Proofs.YtpinhcdcnaaihaaGreatDoor
open Go.RowKit
theorem rcmp_ct (x y : Nat) (hx : (digs x).length ≤ 1073741823) (hy : (digs y).length ≤ 1073741823) : Ct 68 [natT x, natT y] (.sc (.int .i64 (cmpI x y))) := Ct.sc ⟨_, Tryz.func68, rfl, rfl⟩ fun G w vs _ _ hp => by
  obtain ⟨u, v, rfl, h1, h2⟩ := pt_args2 hp
  obtain ⟨A, c, rfl, hi⟩ := pt_isD h1
  obtain ⟨B, d, rfl, hj⟩ := pt_isD h2
  have := cmp_any A B c d (digs x) (digs y) w hi hj hx hy
  rw [nval_digs, nval_digs] at this
  exact this
theorem rof_ct (n : Nat) (hn : n < 18446744073709551616) : Ct 21 [.sc (.int .u64 (n : Nat))] (natT n) := Ct.gives ⟨_, Tryz.func21, rfl, rfl⟩ (fun _ _ _ hG h => isD_pt hG h) fun G w vs _ _ hp => by
  obtain ⟨u, rfl, h1⟩ := pt_args1 hp
  cases h1
  refine (natOf_any n w hn).mono ?_
  rintro e w' ⟨v, rfl, ho, hb⟩
  exact ⟨v, rfl, ho.isD, hb⟩
theorem rsize_ct (n : Int) (h0 : -9223372036854775808 ≤ n) (h1 : n ≤ 9223372036854775807) : Ct 54 [.sc (.int .i64 n)] (natT n.natAbs) := Ct.gives ⟨_, Tryz.func54, rfl, rfl⟩ (fun _ _ _ hG h => isD_pt hG h) fun G w vs _ _ hp => by
  obtain ⟨u, rfl, h2⟩ := pt_args1 hp
  cases h2
  refine (size_any n w h0 h1).mono ?_
  rintro e w' ⟨v, rfl, ho, hb⟩
  exact ⟨v, rfl, ho.isD, hb⟩
theorem rfmt_ct (n : Nat) (h : (digs n).length ≤ 1048576) (hD : (Lib.decDigits n).length ≤ 1073741824) : Ct 67 [natT n] (.sc (.string ⟨(Lib.decDigits n).toArray⟩)) := Ct.sc ⟨_, Tryz.func67, rfl, rfl⟩ fun G w vs _ _ hp => by
  obtain ⟨u, rfl, h1⟩ := pt_args1 hp
  obtain ⟨A, c, rfl, hi⟩ := pt_isD h1
  have := natFmt_any A c (digs n) w hi h (by rw [nval_digs]; exact hD)
  rw [nval_digs] at this
  exact this
theorem fracT_canon (ng : Bool) (N D : Nat) (hD : 0 < D) : fracT (ng && decide (N ≠ 0)) (N / Nat.gcd N D) (D / Nat.gcd N D) = ratT (mkq ng N D) := by
  unfold ratT
  rcases Nat.eq_zero_or_pos N with h | h
  · subst h
    rw [mkq_zero, Nat.gcd_zero_left, Nat.div_self hD]
    simp
  · obtain ⟨h1, h2, h3⟩ := mkq_parts ng h hD
    rw [h1, h2, h3]
    simp [show N ≠ 0 by omega]
theorem frac_isQ {ng : Bool} {N D : Nat} {w : World} {G : Nat → Prop} (hG : OkG G w) (hD : 0 < D) {e : Ending} {w' : World} (h : FracPost (ng && decide (N ≠ 0)) (N / Nat.gcd N D) (D / Nat.gcd N D) w e w') : ∃ v, e = .returned v ∧ PT w' G [v] [ratT (mkq ng N D)] ∧ Below w.heap.size w w' := by
  obtain ⟨vn, vd, rfl, h1, h2, h3⟩ := h
  refine ⟨_, rfl, ?_, h3⟩
  rw [← fracT_canon ng N D hD]
  exact isQ_pt (OkG.later hG h3) ⟨vn, vd, rfl, h1.isD, h2.isD⟩
theorem rfrac_ct (ng : Bool) (N D : Nat) (hN : (digs N).length ≤ 1048576) (hD : (digs D).length ≤ 1048576) (hD0 : 0 < D) : Ct 20 [.sc (.bool ng), natT N, natT D] (ratT (mkq ng N D)) := ⟨⟨_, Tryz.func20, rfl, rfl⟩, fun G w vs _ hG hp => by
  obtain ⟨a, u, v, rfl, h0, h1, h2⟩ := pt_args3 hp
  cases h0
  obtain ⟨A, c, rfl, hi⟩ := pt_isD h1
  obtain ⟨B, d, rfl, hj⟩ := pt_isD h2
  exact (frac_any ng A B c d N D w hi hj hN hD hD0).mono fun e w' h => frac_isQ hG hD0 h⟩
theorem rnormQ_ct (ng : Bool) (N D : Nat) (hN : (digs N).length ≤ 1048576) (hD : (digs D).length ≤ 1048576) (hD0 : 0 < D) : Ct 66 [fracT ng N D] (ratT (mkq ng N D)) := ⟨⟨_, Tryz.func66, rfl, rfl⟩, fun G w vs _ hG hp => by
  obtain ⟨a, rfl, h0⟩ := pt_args1 hp
  obtain ⟨vn, vd, rfl, h1, h2⟩ := pt_isQ h0
  obtain ⟨A, c, rfl, hi⟩ := h1
  obtain ⟨B, d, rfl, hj⟩ := h2
  exact (fracNorm_any ng A B c d N D w hi hj hN hD hD0).mono fun e w' h => frac_isQ hG hD0 h⟩
theorem rnormR_ct (q : Rat) (h : Fit 1048576 q) : Ct 66 [ratT q] (ratT q) := by
  have := rnormQ_ct (decide (q.num < 0)) q.num.natAbs q.den h.num h.den q.den_pos
  rwa [mkq_self] at this
end Go.Proofs.YtpinhcdcnaaihaaGreatDoor
namespace Go.Proofs.YtpinhcdcnaaihaaGreatDoor
open Go.RowKit
section
variable {w0 w : World} {G0 : Bse} {bs : List (TypeId × List Tree)} {rs : List (Option Row)} {bx : List Nat} {rv : List Value} {g1 g2 : Nat}
end
end Go.Proofs.YtpinhcdcnaaihaaGreatDoor
namespace Go.Proofs.YtpinhcdcnaaihaaGreatDoor
open Go.RowKit
section
variable {w0 : World} {G0 : Bse} {S : St} {o : Oper}
theorem byteT_cells {W : World} {G : Nat → Prop} : ∀ {l : List UInt8} {xs : List Value}, PT W G xs (bytesT l) → xs = cellsB l
  | [], xs, h => by cases h; rfl
  | _ :: l, xs, h => by
    cases h with
    | sc v h => rw [byteT_cells (l := l) h]; rfl
theorem pt_byteSl {W : World} {G : Nat → Prop} {v : Value} {l : List UInt8} (h : PT W G [v] [.sl (bytesT l)]) : ∃ A c, v = .slice A l.length c ∧ At W W.heap.size A (cellsB l) := by
  obtain ⟨A, c, h1, h2, h3, h4, h5⟩ := PT.slice h
  rw [bytes_length] at h1 h2 h5
  refine ⟨A, c, h1, fun hp => ?_⟩
  obtain ⟨b, off, xs, rfl, hb, _, hc, hx⟩ := h5 (by rwa [cellsB_length] at hp)
  rw [flat_bytes] at hx
  rw [← byteT_cells hx]
  exact ⟨b, off, rfl, hb, hc⟩
theorem ok_convBS {x : Operand} {l : List UInt8} (ho : o.op = .convert 49 9 x) (hx : S.ev x = .sl (bytesT l)) : OpOK o S (.sc (.string ⟨l.toArray⟩)) := by
  intro w0 G0 bx rv w T hm hT
  obtain ⟨A, c, h1, h2⟩ := pt_byteSl (ev_ft' hT hx (by rw [ho]; simp [Op.operands])).isSl
  refine OpRuns.of_ok (v := .string ⟨l.toArray⟩) (W' := w) ?_ ⟨.pure (.sc _ .nil) .nil, Below.refl _ _⟩
  have h3 := conv_at c h2
  simp only [en] at h3
  simp [execOp, ho, h1, h3]
theorem do_appendS {x y : Operand} {t u e : TypeId} {k : Nat} {R : Row} {s : ByteArray} (ho : o.op = .call { callee := .builtin .append, args := #[x, y], argTypes := #[t, u] }) (hd : dstOk S.n o.dst = true) (ht : appT Tryz.prog t = some (R.e, R.sz, 1)) (hz : (Tryz.prog.info? R.e).bind (·.zero) = some (.int .u8 0)) (hu : Tryz.prog.underlying u = some .string) (hx : S.ev x = .own k) (hR : S.rs[k]? = some (some R)) (hy : S.ev y = .sc (.string s)) (h1 : R.sz = 1) (h3 : R.es.length + s.size ≤ 1073741824) :
    OpDo w0 G0 o S ({ S.kill k with rs := S.rs.set k (some (⟨R.e, R.sz, R.es ++ bytesT s.data.toList, false⟩ : Row)) }.put o.dst (.own k)) := by
  rintro a w ⟨bx, rv, hm, hsz, hdf, hsl⟩
  have hp := ev_ft' (op := o.op) (T := fun s => a.tmps.getD s undef) (S := S) (fun s _ => hsl s) hx (by rw [ho]; simp [Op.operands, Call.operands])
  have hq := (ev_ft' (op := o.op) (T := fun s => a.tmps.getD s undef) (S := S) (fun s _ => hsl s) hy (by rw [ho]; simp [Op.operands, Call.operands])).isSc
  generalize (fun s => a.tmps.getD s undef) = T at hp hq ⊢
  obtain ⟨hv, xs, hown, hpx, hss, hnd⟩ := FT.own_row hm hR hp
  obtain ⟨hut, ⟨i, z, hi, hz', hsi, hby, hzs, hzd⟩, hpos⟩ := appT_of ht
  have hzz : z = .int .u8 0 := by
    rw [hi, Option.bind_some, hz'] at hz
    exact Option.some.inj hz
  subst hzz
  rw [h1] at hown hsi
  obtain ⟨v', w', hr, ho', hgr, hbk, hnd'⟩ := run_appS (P := Tryz.prog) w 0 t u o.type R.e i hut hu hi hz' hsi hby (evT T x) R.es.length xs hown s (by omega) (Nat.zero_le _) hnd
  refine OpRuns.of_ok (v := v') (W' := w') ?_ (row_done (R' := ⟨R.e, R.sz, R.es ++ bytesT s.data.toList, false⟩) (xs := xs ++ cellsB s.data.toList) hm hsz hdf hsl hd hv hR hgr hbk (by
    show w'.ownsRow _ _ R.sz _ (R.es ++ bytesT s.data.toList).length _
    rw [List.length_append, bytes_length, h1, show s.data.toList.length = s.size by simp]
    exact ho') ?_ ⟨hss.1.append (by rw [h1]; exact bytes_sized _), fun h => by cases h⟩ hnd')
  · simp only [execOp, ho, resolve, invoke, builtin, Sem.run_bind, Sem.run_pure, Result.andThen_ok, List.map_toArray, List.map_cons, List.map_nil, hq, hr]
  · have hmono := mono_row (G0 := G0) (bx := bx) (w := w) (w' := w') (v' := v') (R' := ⟨R.e, R.sz, R.es ++ bytesT s.data.toList, false⟩) hv hR hgr (fun g hg => by
      rcases hbk with h | h
      · exact .inl (h ▸ hg)
      · rw [h] at hg; injection hg with hg; exact .inr (by omega))
    rw [flat_append, flat_bytes]
    refine (hpx.mono hgr.size hmono).append ?_
    have : ∀ l : List UInt8, PT w' (GG G0 bx (rv.set k v') (S.rs.set k (some ⟨R.e, R.sz, R.es ++ bytesT s.data.toList, false⟩))) (cellsB l) (bytesT l) := fun l => by
      induction l with
      | nil => exact .nil
      | cons c l ih => exact .sc _ ih
    exact this _
theorem AOps.appendSE {ops : Array Oper} {rest : List Oper} {Q : Exit → St → Prop} {n d k : Nat} {sl sl' : List (Nat × Tree)} {bs bs' : List (TypeId × List Tree)} {rs rs' : List (Option Row)} {x y : Operand} {t u : TypeId} {R : Row} {s : ByteArray} (ho : o.op = .call { callee := .builtin .append, args := #[x, y], argTypes := #[t, u] }) (hg : o.guard = none) (hd : o.dst = some d) (hn : Nat.blt d n = true) (ht : appT Tryz.prog t = some (R.e, R.sz, 1)) (hz : (Tryz.prog.info? R.e).bind (·.zero) = some (.int .u8 0)) (hu : Tryz.prog.underlying u = some .string) (hx : St.ev ⟨n, sl, bs, rs⟩ x = .own k) (hR : rs[k]? = some (some R)) (hy : St.ev ⟨n, sl, bs, rs⟩ y = .sc (.string s)) (h1 : R.sz = 1) (h3 : R.es.length + s.size ≤ 1073741824) (hsl : sl.map (fun p => (p.1, killT k p.2)) = sl') (hbs : bs.map (fun p => (p.1, p.2.map (killT0 k))) = bs') (hrs : rs.set k (some ⟨R.e, R.sz, R.es ++ bytesT s.data.toList, false⟩) = rs')
    (K : AOps w0 G0 ops rest Q ⟨n, (d, .own k) :: sl', bs', rs'⟩) : AOps w0 G0 ops (o :: rest) Q ⟨n, sl, bs, rs⟩ := by
  subst hsl hbs hrs
  refine AOps.turn hg (do_appendS (S := ⟨n, sl, bs, rs⟩) (e := t) ho (by rw [hd]; simpa [dstOk, Nat.blt_eq] using hn) ht hz hu hx hR hy h1 h3) ?_
  rw [hd]; exact K
theorem do_allocN {ty : TypeId} {zs : List Value} (ho : o.op = .alloc ty) (hd : dstOk S.n o.dst = true) (hz : zerT Tryz.prog ty = some zs) (hn : zs.all noDigV = true) : OpDo w0 G0 o S ({ S with bs := S.bs ++ [(ty, zs.map Tree.sc)] }.put o.dst (.box S.bs.length 0)) := by
  rintro a w ⟨bx, rv, hm, hsz, hdf, hsl⟩
  unfold zerT at hz
  simp only [Option.bind_eq_some_iff, Option.map_eq_some_iff] at hz
  obtain ⟨i, hi, z, hz, rfl⟩ := hz
  have hmm := hm.addBox (ty := ty) (us := z.cells.toList) (cs := z.cells.toList.map Tree.sc) (.of (sc_pt _ _ _)) hn
  refine OpRuns.of_ok (v := .pointer (some ⟨w.heap.size, 0, none⟩)) (W' := w.alloc (.cells z.cells ty)) ?_ ⟨bx ++ [w.heap.size], rv, ?_, by rw [put_size, St.put_n, hsz], by rw [put_defers, hdf], ?_⟩
  · have hz' : (zeroValue ty).run Tryz.prog w = .ok z w := by simp [zeroValue, typeInfo, hi, hz]
    simp [execOp, ho, Instr.alloc, newVar, newRow, newObj, Sem.run, hz']
  · rw [St.put_bs, St.put_rs]
    simpa using hmm
  · rw [St.put_rs]
    intro i
    rw [put_getD a o.dst _ S.n hsz hd, St.put_get]
    split
    · exact .box _ _ _ (by show (bx ++ [w.heap.size])[S.bs.length]? = _; rw [← hm.nb]; simp) .nil
    · exact ft_addBox _ (hsl i)
theorem AOps.allocNE {ops : Array Oper} {rest : List Oper} {Q : Exit → St → Prop} {n d b : Nat} {sl : List (Nat × Tree)} {bs bs' : List (TypeId × List Tree)} {rs : List (Option Row)} {ty : TypeId} {zs : List Value} {cs : List Tree} (ho : o.op = .alloc ty) (hg : o.guard = none) (hd : o.dst = some d) (hn : Nat.blt d n = true) (hz : zerT Tryz.prog ty = some zs) (h2 : zs.all noDigV = true) (hc : zs.map Tree.sc = cs) (hb : bs.length = b) (hbs : bs ++ [(ty, cs)] = bs')
    (k : AOps w0 G0 ops rest Q ⟨n, (d, .box b 0) :: sl, bs', rs⟩) : AOps w0 G0 ops (o :: rest) Q ⟨n, sl, bs, rs⟩ := by
  subst hc hb hbs
  refine AOps.turn hg (do_allocN (S := ⟨n, sl, bs, rs⟩) ho (by rw [hd]; simpa [dstOk, Nat.blt_eq] using hn) hz h2) ?_
  rw [hd]; exact k
end
end Go.Proofs.YtpinhcdcnaaihaaGreatDoor
namespace Go.Proofs.YtpinhcdcnaaihaaGreatDoor
open Go.RowKit
section
variable {w0 : World} {G0 : Bse} {ops : Array Oper} {rest : List Oper} {Q : Exit → St → Prop} {o : Oper} {n : Nat} {sl : List (Nat × Tree)} {bs : List (TypeId × List Tree)} {rs : List (Option Row)} {S : St}
end
end Go.Proofs.YtpinhcdcnaaihaaGreatDoor
namespace Go.Proofs.YtpinhcdcnaaihaaGreatDoor
open Go.RowKit
theorem wr_storeElp {pn : Nat} {o : Oper} {n : Nat} {sl : List (Nat × Tree)} {bs : List (TypeId × List Tree)} {rs rs' : List (Option Row)} {ty : TypeId} {x y : Operand} {k off j : Nat} {R : Row} {t : Tree} (ho : o.op = .store ty x y) (hdst : o.dst = none) (hx : St.ev ⟨n, sl, bs, rs⟩ x = .elp k off) (hR : rs[k]? = some (some R)) (hoff : off = j * R.sz) (hj : j < R.es.length) (ht : St.ev ⟨n, sl, bs, rs⟩ y = t) (h1 : t.oneA = true) (h2 : t.cells.all Tree.one = true) (h3 : t.cells.all Tree.noDig = true) (hp : t.cells.all Tree.plain0 = true) (hs : (Tryz.prog.info? ty).map (·.size) = some R.sz) (hl : t.cells.length = R.sz) (hrs : rs.set k (some ⟨R.e, R.sz, R.es.set j t, R.tt⟩) = rs') : WrOK pn o ⟨n, sl, bs, rs⟩ id .any bs rs' := by
  subst hrs
  intro w0 G0 S e0 e1 e2 e3 hs'
  dsimp only at e1 e2 e3
  have hx' := ev_up hs' (by rw [ho]; simp [Op.operands]) hx (by simp)
  have hy' := ev_up hs' (by rw [ho]; simp [Op.operands]) ht (by rintro rfl; simp [Tree.oneA, Tree.one] at h1)
  refine ⟨_, do_store_elp (S := S) ho hdst hx' (by rw [e3]; exact hR) hoff hj hy' h1 h2 h3 hp hs hl, rfl, e2, by dsimp only; rw [e3], fun s => ?_⟩
  rw [hdst, if_neg (by simp)]
  rfl
end Go.Proofs.YtpinhcdcnaaihaaGreatDoor
namespace Go.Proofs.YtpinhcdcnaaihaaGreatDoor
open Go.RowKit
end Go.Proofs.YtpinhcdcnaaihaaGreatDoor
namespace Go.Proofs.YtpinhcdcnaaihaaGreatDoor
open Go.RowKit
end Go.Proofs.YtpinhcdcnaaihaaGreatDoor
namespace Go.Proofs.YtpinhcdcnaaihaaGreatDoor
open Go.RowKit
end Go.Proofs.YtpinhcdcnaaihaaGreatDoor
namespace Go.Proofs.YtpinhcdcnaaihaaGreatDoor
open Go.RowKit
attribute [local go_sem ↓] Go.wp_at_zero Go.wp_at_succ
structure KS (w : World) (g : Nat) (W : World) : Prop where
  blk : IsBlk W g 34 #[.int .i64 2, .int .i64 0, .string ⟨#[105, 116, 39, 115]⟩]
  env : Env W
  below : Below w.heap.size w W
end Go.Proofs.YtpinhcdcnaaihaaGreatDoor
namespace Go.Proofs.YtpinhcdcnaaihaaGreatDoor
open Go.RowKit
theorem refValid_is {t n : Int} {s : ByteArray} {b : Bool} (h : validB t n s = b) (w : World) (hs : s.size ≤ 9223372036854775807) :
    Calls Tryz.prog 104 #[.agg #[.int .i64 t, .int .i64 n, .string s]] w fun e w' => e = .returned (.bool b) ∧ Below w.heap.size w w' := by subst h; exact refValid_any t n s w hs
def LawPost (w : World) (e : Ending) (w' : World) : Prop := e = .returned (.bool true) ∧ Below w.heap.size w w'
end Go.Proofs.YtpinhcdcnaaihaaGreatDoor
namespace Go.Proofs.YtpinhcdcnaaihaaGreatDoor
open Go.RowKit
theorem ffmt_itoa (n : Int) : ffmt (decide (n < 0)) n.natAbs = Lib.itoa n := by
  unfold ffmt Lib.itoa
  by_cases h : n < 0
  · simp [h]
  · have : n.natAbs = n.toNat := by omega
    simp [h, this]
theorem dec_len20 (n : Int) (h0 : -9223372036854775808 ≤ n) (h1 : n ≤ 9223372036854775807) : (Lib.decDigits n.natAbs).length ≤ 1073741824 := by
  have key : ∀ (k u : Nat), u < 10 ^ k → 0 < k → (Lib.decDigits u).length ≤ k := by
    intro k
    induction k with
    | zero => intro u _ h; exact absurd h (by omega)
    | succ k ih =>
      intro u hu _
      rw [Lib.decDigits]
      split
      · simp
      · rename_i h
        have hk : 0 < k := by
          rcases Nat.eq_zero_or_pos k with rfl | h'
          · simp at hu; omega
          · exact h'
        have := ih (u / 10) (by rw [Nat.div_lt_iff_lt_mul (by decide)]; rw [Nat.pow_succ] at hu; exact hu) hk
        simp; omega
  have p20 : (10 ^ 20 : Nat) = 100000000000000000000 := by decide
  have := key 20 n.natAbs (by rw [p20]; omega) (by decide)
  omega
set_option maxRecDepth 100000 in
set_option maxHeartbeats 1000000 in
theorem refFmt_bad (t n : Int) (s : ByteArray) (w : World) (h : validB t n s = false) (hs : s.size ≤ 9223372036854775807) :
    Calls Tryz.prog 65 #[.agg #[.int .i64 t, .int .i64 n, .string s]] w (StrPost (fmtL t n s) w) := by
  have HF := Lib.hid (show fmtL t n s = [] by simp [fmtL, h])
  obtain ⟨W, hW, hbW, hgW, hzW⟩ := blk1 w 34 #[.int .i64 t, .int .i64 n, .string s]
  have HW := Lib.hid hW
  have HB := Lib.hid hbW
  have hsW := hbW.size
  have HV := Lib.hid (refValid_is h W hs)
  clear hW hbW hgW hzW h
  go_enter Tryz.func65, Tryz.ntmps65
  go_wp2_with fail
  rw [HW.out]
  refine HV.out.mono ?_
  rintro e w1 ⟨rfl, hb1⟩
  have HB1 := Lib.hid (below_then HB.out hb1 hsW)
  clear hb1
  go_wp2
  go_ret
  exact ⟨by rw [HF.out]; rfl, HB1.out⟩
set_option maxRecDepth 100000 in
set_option maxHeartbeats 1000000 in
theorem refFmt_int (n : Int) (s : ByteArray) (w : World) (h : validB 1 n s = true) (h0 : -9223372036854775808 ≤ n) (h1 : n ≤ 9223372036854775807) (hs : s.size ≤ 9223372036854775807) :
    Calls Tryz.prog 65 #[.agg #[.int .i64 1, .int .i64 n, .string s]] w (StrPost (fmtL 1 n s) w) := by
  have HF := Lib.hid (show fmtL 1 n s = Lib.itoa n by simp [fmtL, h])
  obtain ⟨W, hW, hbW, hgW, hzW⟩ := blk1 w 34 #[.int .i64 1, .int .i64 n, .string s]
  have HW := Lib.hid hW
  have HB := Lib.hid hbW
  have hsW := hbW.size
  have HG := Lib.hid hgW
  have HV := Lib.hid (refValid_is h W hs)
  clear hW hbW hgW hzW h
  go_enter Tryz.func65, Tryz.ntmps65
  go_wp2_with fail
  rw [HW.out]
  refine HV.out.mono ?_
  rintro e w1 ⟨rfl, hb1⟩
  have HB1 := Lib.hid (below_then HB.out hb1 hsW)
  have hs1 : w.heap.size ≤ w1.heap.size := Nat.le_trans hsW hb1.size
  obtain ⟨d0, d1, d2, _, _, _⟩ := (HG.out.below hb1 HG.out.lt).three
  clear hb1
  go_wp2_with fail
  refine (whole_any n _ h0 h1).mono ?_
  rintro e w2 ⟨vn, vd, rfl, hon, hod, hb2⟩
  obtain ⟨An, cn, en, hin⟩ := hon.is (digs_lt _)
  obtain ⟨Ad, cd, ed, hid⟩ := hod.is (digs_lt _)
  subst en ed
  have HB2 := Lib.hid (below_then HB1.out hb2 hs1)
  have hs2 : w.heap.size ≤ w2.heap.size := Nat.le_trans hs1 hb2.size
  have hff := fracFmt_any (decide (n < 0)) An Ad cn cd n.natAbs w2 hin hid (by have := abs_len n h0 h1; omega) (fun h => by simp at h; omega) (dec_len20 n h0 h1)
  rw [ffmt_itoa] at hff
  have HFF := Lib.hid hff
  clear hon hod hb2 hin hid hff d0 d1 d2
  go_wp2_with fail
  refine HFF.out.mono ?_
  rintro e w3 ⟨rfl, hb3⟩
  have HB3 := Lib.hid (below_then HB2.out hb3 hs2)
  clear hb3
  go_wp2
  go_ret
  exact ⟨by rw [HF.out]; rfl, HB3.out⟩
theorem ext_one (s : ByteArray) (k : Nat) (h : k < s.size) : s.extract k (k + 1) = ⟨[s[k]].toArray⟩ := by
  rw [← mk_data (s.extract k (k + 1)), Lib.extract_data]
  congr 2
  have hl : k < s.data.toList.length := by simpa using h
  rw [List.drop_eq_getElem_cons hl, show k + 1 - k = 1 by omega]
  rfl
theorem dbl_snoc (l : List UInt8) (c : UInt8) : dbl (l ++ [c]) = dbl l ++ (if c = 39 then [39, 39] else [c]) := by
  induction l with
  | nil => by_cases h : c = 39 <;> simp [dbl, h]
  | cons a l ih => by_cases h : a = 39 <;> simp [dbl, h, ih]
set_option maxRecDepth 100000 in
set_option maxHeartbeats 1000000 in
theorem refFmt_str (n : Int) (s : ByteArray) (w : World) (h : validB 2 n s = true) :
    Calls Tryz.prog 65 #[.agg #[.int .i64 2, .int .i64 n, .string s]] w (StrPost (fmtL 2 n s) w) := by
  have HF := Lib.hid (show fmtL 2 n s = [39] ++ dbl s.data.toList ++ [39] by simp [fmtL, h])
  have hs64 : s.size ≤ 64 := by simp [validB] at h; omega
  obtain ⟨W, hW, hbW, hgW, hzW⟩ := blk1 w 34 #[.int .i64 2, .int .i64 n, .string s]
  have HW := Lib.hid hW
  have HB := Lib.hid hbW
  have hsW := hbW.size
  have HG := Lib.hid hgW
  have HV := Lib.hid (refValid_is h W (by omega))
  clear hW hbW hgW hzW h
  go_enter Tryz.func65, Tryz.ntmps65
  go_wp2_with fail
  rw [HW.out]
  refine HV.out.mono ?_
  rintro e w1 ⟨rfl, hb1⟩
  have HB1 := Lib.hid (below_then HB.out hb1 hsW)
  obtain ⟨d0, d1, d2, _, _, _⟩ := (HG.out.below hb1 HG.out.lt).three
  clear hb1
  go_wp2
  go_loop [3, 4] (fun v i => ∃ k : Nat, k ≤ s.size ∧ i = .int .i64 k ∧ v = .string ⟨(39 :: dbl (s.data.toList.take k)).toArray⟩) (fun _ i => s.size - (intOf i).toNat)
  case atStart => exact ⟨0, by omega, rfl, by simp [dbl]⟩
  case round =>
    obtain ⟨k, hk, rfl, rfl⟩ := hrel
    have hdl : (dbl (s.data.toList.take k)).length ≤ 200 := by
      have := dbl_length_le (s.data.toList.take k)
      rw [List.length_take] at this
      omega
    by_cases hlt : k < s.size
    · have HS := Lib.hid (show dbl (s.data.toList.take (k + 1)) = dbl (s.data.toList.take k) ++ (if s[k] = 39 then [39, 39] else [s[k]]) by
        rw [List.take_succ_eq_append_getElem (by simpa using hlt), dbl_snoc]; rfl)
      by_cases h39 : s[k].toNat = 39
      · have h39' : s[k] = 39 := UInt8.toNat_inj.1 h39
        have HEX := Lib.hid (ext_one s k hlt)
        have HC := Lib.hid h39'
        rw [if_pos h39'] at HS
        clear h39'
        go_wp2
        go_round
        case rel =>
          refine ⟨k + 1, by omega, by go_num, ?_⟩
          rw [HS.out, HEX.out, HC.out, app_mk (39 :: dbl (s.data.toList.take k)) [39], app_mk (39 :: dbl (s.data.toList.take k) ++ [39]) [39]]
          simp
        case measure => simp [intOf]; omega
      · have h39' : s[k] ≠ 39 := fun e => h39 (by rw [e]; rfl)
        have HEX := Lib.hid (ext_one s k hlt)
        have g1 : ((s[k].toNat : Int) == 39) = false := by rw [beq_eq_false_iff_ne]; omega
        rw [if_neg h39'] at HS
        clear h39' h39
        go_wp2
        go_round
        case rel =>
          refine ⟨k + 1, by omega, by go_num, ?_⟩
          rw [HS.out, HEX.out, app_mk]
          simp
        case measure => simp [intOf]; omega
    · have HT := Lib.hid (show s.data.toList.take k = s.data.toList from List.take_of_length_le (by simp; omega))
      go_wp2
      go_ret
      refine ⟨?_, HB1.out⟩
      rw [HF.out]
      show Ending.returned (.string (⟨(39 :: dbl (s.data.toList.take k)).toArray⟩ ++ ⟨[39].toArray⟩)) = _
      rw [HT.out, app_mk (39 :: dbl s.data.toList) [39]]
      rfl
theorem refFmt_any (t n : Int) (s : ByteArray) (w : World) (h0 : -9223372036854775808 ≤ n) (h1 : n ≤ 9223372036854775807) (hs : s.size ≤ 9223372036854775807) :
    Calls Tryz.prog 65 #[.agg #[.int .i64 t, .int .i64 n, .string s]] w (StrPost (fmtL t n s) w) := by
  cases hv : validB t n s
  · exact refFmt_bad t n s w hv hs
  · by_cases ht : t = 1
    · subst ht; exact refFmt_int n s w hv h0 h1 hs
    · have h2 : t = 2 := by
        by_cases h2 : t = 2
        · exact h2
        · simp [validB, ht, h2] at hv
      subst h2
      exact refFmt_str n s w hv
end Go.Proofs.YtpinhcdcnaaihaaGreatDoor
namespace Go.Proofs.YtpinhcdcnaaihaaGreatDoor
open Go.RowKit
section
variable {w0 : World} {G0 : Bse} {S : St} {o : Oper}
end
end Go.Proofs.YtpinhcdcnaaihaaGreatDoor
namespace Go.Proofs.YtpinhcdcnaaihaaGreatDoor
open Go.RowKit
section
variable {S : St} {o : Oper}
end
end Go.Proofs.YtpinhcdcnaaihaaGreatDoor
namespace Go.Proofs.YtpinhcdcnaaihaaGreatDoor
open Go.RowKit
section
variable {w1 : World} {G1 : Nat → Prop} {Q : Exit → World → (Nat → Prop) → St → Prop} {S : St}
variable {ops : Array Oper} {rest : List Oper} {o : Oper}
end
section
variable {w1 w w' : World} {G1 G2 : Nat → Prop} {n : Nat} {sl : List (Nat × Tree)} {a : Act}
end
section
variable {w1 : World} {G1 : Nat → Prop} {Q : Exit → World → (Nat → Prop) → St → Prop} {ops : Array Oper} {rest : List Oper} {o : Oper} {n d : Nat} {sl : List (Nat × Tree)}
end
end Go.Proofs.YtpinhcdcnaaihaaGreatDoor
