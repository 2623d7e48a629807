import Derived.Test.YtpinhcdcnaaihaaGreatDoorA06
namespace Go.Proofs.YtpinhcdcnaaihaaGreatDoor
open Go.RowKit
section
variable {w0 : World} {G0 : Bse} {ops : Array Oper} {rest : List Oper} {Q : Exit → St → Prop} {o : Oper} {n : Nat} {sl : List (Nat × Tree)} {bs : List (TypeId × List Tree)} {rs : List (Option Row)} {S : St}
theorem OpOK.cast {t t' : Tree} (h : OpOK o S t) (e : t = t') : OpOK o S t' := e ▸ h
theorem AOps.e {d : Nat} {t : Tree} (hg : o.guard = none) (hd : o.dst = some d) (hn : Nat.blt d n = true) (h : OpOK o ⟨n, sl, bs, rs⟩ t) (k : AOps w0 G0 ops rest Q ⟨n, (d, t) :: sl, bs, rs⟩) : AOps w0 G0 ops (o :: rest) Q ⟨n, sl, bs, rs⟩ := by
  refine AOps.ok hg ?_ h ?_
  · rw [hd]; simpa [dstOk, Nat.blt_eq] using hn
  · rw [hd]; exact k
theorem AOps.c {d j s : Nat} {t : Tree} {b : Bool} (C : Prop) [Decidable C] (hg : o.guard = some (j, b)) (hj : (ops[j]?).bind (·.dst) = some s) (hs : Nat.blt s n = true) (hG : ∃ gv, look sl s = .sc gv ∧ (C ↔ gv = .bool b)) (hd : o.dst = some d) (hn : Nat.blt d n = true) (h : C → OpOK o ⟨n, sl, bs, rs⟩ t)
    (k : AOps w0 G0 ops rest Q ⟨n, (d, if C then t else .sc undef) :: sl, bs, rs⟩) : AOps w0 G0 ops (o :: rest) Q ⟨n, sl, bs, rs⟩ := by
  obtain ⟨gv, hS, hC⟩ := hG
  rintro a w ⟨bx, rv, hm, hsz, hdf, hsl⟩
  have hdk : dstOk n o.dst = true := by rw [hd]; simpa [dstOk, Nat.blt_eq] using hn
  have hgv : a.tmps.getD s undef = gv := by
    have := hsl s
    have e : St.get ⟨n, sl, bs, rs⟩ s = .sc gv := hS
    rw [e] at this
    exact this.isSc
  have hlt : s < a.tmps.size := by rw [hsz]; simpa [Nat.blt_eq] using hs
  have hy : a.tmps[s]? = some gv := by
    rw [Array.getElem?_eq_getElem hlt]
    rw [Array.getD_eq_getD_getElem?, Array.getElem?_eq_getElem hlt] at hgv
    exact congrArg some hgv
  by_cases hc : C
  · have hw : Region.wanted o (yielded ops a.tmps) = true := by
      simp only [Region.wanted, hg, yielded, hj, Option.bind_some, hy, hC.1 hc]
      cases b <;> rfl
    rw [if_pos hc] at k
    refine AOps.step (S := ⟨n, sl, bs, rs⟩) (t := t) (fun a' w' hs' => ?_) hdk (h hc) (by rw [hd]; exact k) a w ⟨bx, rv, hm, hsz, hdf, hsl⟩
    obtain ⟨bx', rv', _, hsz', _, hsl'⟩ := hs'
    have hgv' : a'.tmps.getD s undef = gv := by
      have := hsl' s
      have e : St.get ⟨n, sl, bs, rs⟩ s = .sc gv := hS
      rw [e] at this
      exact this.isSc
    have hlt' : s < a'.tmps.size := by rw [hsz']; simpa [Nat.blt_eq] using hs
    have hy' : a'.tmps[s]? = some gv := by
      rw [Array.getElem?_eq_getElem hlt']
      rw [Array.getD_eq_getD_getElem?, Array.getElem?_eq_getElem hlt'] at hgv'
      exact congrArg some hgv'
    simp only [Region.wanted, hg, yielded, hj, Option.bind_some, hy', hC.1 hc]
    cases b <;> rfl
  · have hw : Region.wanted o (yielded ops a.tmps) = false := by
      simp only [Region.wanted, hg, yielded, hj, Option.bind_some, hy]
      cases gv with
      | bool x => cases x <;> cases b <;> first | rfl | exact absurd (hC.2 rfl) hc
      | _ => rfl
    rw [if_neg hc] at k
    simp only [wpList]
    rw [if_neg (by rw [hw]; exact Bool.false_ne_true)]
    refine k _ _ ⟨bx, rv, hm, by rw [put_size]; exact hsz, by rw [put_defers, hdf], ?_⟩
    have := slots_put (S := ⟨n, sl, bs, rs⟩) (o := o) (t := .sc undef) (v := undef) (rs := rs) (w' := w) (G0 := G0) hsz hdk (fun _ _ h => h) hsl (.pure (.sc _ .nil) .nil)
    rw [hd] at this ⊢
    exact this
theorem plainG {p b : Bool} : ∃ gv, (Tree.sc (.bool p)) = .sc gv ∧ ((p = b) ↔ gv = .bool b) := ⟨_, rfl, by simp⟩
theorem nestG {A : Prop} [Decidable A] {p b : Bool} : ∃ gv, (if A then Tree.sc (.bool p) else .sc undef) = .sc gv ∧ ((A ∧ p = b) ↔ gv = .bool b) := ⟨if A then .bool p else undef, by split <;> rfl, by split <;> simp_all [undef]⟩
theorem AOps.cp {d j s : Nat} {t : Tree} {b p : Bool} (hg : o.guard = some (j, b)) (hj : (ops[j]?).bind (·.dst) = some s) (hp : look sl s = .sc (.bool p)) (hd : o.dst = some d) (h : p = b → OpOK o ⟨n, sl, bs, rs⟩ t) (k : AOps w0 G0 ops rest Q ⟨n, (d, if p = b then t else .sc undef) :: sl, bs, rs⟩) (hn : (Nat.blt s n && Nat.blt d n) = true := by rfl) : AOps w0 G0 ops (o :: rest) Q ⟨n, sl, bs, rs⟩ := by
  rw [Bool.and_eq_true] at hn
  exact AOps.c (p = b) hg hj hn.1 (hp ▸ plainG) hd hn.2 h k
theorem AOps.cq {A : Prop} [Decidable A] {d j s : Nat} {t : Tree} {b p : Bool} (hg : o.guard = some (j, b)) (hj : (ops[j]?).bind (·.dst) = some s) (hp : look sl s = if A then .sc (.bool p) else .sc undef) (hd : o.dst = some d) (h : A ∧ p = b → OpOK o ⟨n, sl, bs, rs⟩ t) (k : AOps w0 G0 ops rest Q ⟨n, (d, if A ∧ p = b then t else .sc undef) :: sl, bs, rs⟩) (hn : (Nat.blt s n && Nat.blt d n) = true := by rfl) : AOps w0 G0 ops (o :: rest) Q ⟨n, sl, bs, rs⟩ := by
  rw [Bool.and_eq_true] at hn
  exact AOps.c (A ∧ p = b) hg hj hn.1 (hp ▸ nestG) hd hn.2 h k
theorem ok_pickS {c a b : Operand} {x : Bool} {t : Tree} (ho : o.op = .pick c a b) (hc : S.ev c = .sc (.bool x)) (ha : x = true → S.ev a = t) (hb : x = false → S.ev b = t) : OpOK o S t := by
  cases x with
  | true => exact ok_pick ho hc (ha rfl)
  | false => exact ok_pick ho hc (hb rfl)
theorem ok_bin {op : BinOp} {xt yt : TypeId} {x y : Operand} {vx vy v : Value} (ho : o.op = .binOp op xt x y yt) (hx : S.ev x = .sc vx) (hy : S.ev y = .sc vy) (h : ∀ w, (do eqGuard op xt x y vx vy; binOp op xt vx vy : Sem Value).run Tryz.prog w = .ok v w) : OpOK o S (.sc v) := by
  intro w0 G0 bx rv w T hm hT
  have h1 := (ev_ft' hT hx (by rw [ho]; simp [Op.operands])).isSc
  have h2 := (ev_ft' hT hy (by rw [ho]; simp [Op.operands])).isSc
  refine OpRuns.of_ok (v := v) (W' := w) ?_ ⟨.pure (.sc _ .nil) .nil, Below.refl _ _⟩
  simp only [execOp, ho, h1, h2]
  rw [Sem.run_bind, h w]
  rfl
theorem ok_un {op : UnOp} {xt : TypeId} {x : Operand} {vx v : Value} (ho : o.op = .unOp op xt x) (hx : S.ev x = .sc vx) (h : ∀ w, (Op.unary op vx).run Tryz.prog w = .ok v w) : OpOK o S (.sc v) := by
  intro w0 G0 bx rv w T hm hT
  have h1 := (ev_ft' hT hx (by rw [ho]; simp [Op.operands])).isSc
  refine OpRuns.of_ok (v := v) (W' := w) ?_ ⟨.pure (.sc _ .nil) .nil, Below.refl _ _⟩
  simp only [execOp, ho, h1]
  rw [Sem.run_bind, h w]
  rfl
theorem ok_conv {src dst : TypeId} {x : Operand} {k k' : IntKind} {m : Int} {d : TypeDesc} (ho : o.op = .convert src dst x) (hs : Tryz.prog.underlying src = some d) (hd : Tryz.prog.underlying dst = some (.int k)) (hx : S.ev x = .sc (.int k' m)) : OpOK o S (.sc (.int k (k.wrap m))) := by
  intro w0 G0 bx rv w T hm hT
  have h1 := (ev_ft' hT hx (by rw [ho]; simp [Op.operands])).isSc
  refine OpRuns.of_ok (v := .int k (k.wrap m)) (W' := w) ?_ ⟨.pure (.sc _ .nil) .nil, Below.refl _ _⟩
  simp [execOp, ho, h1, convert, run_underlying hs, run_underlying hd, Conv.intToInt]
theorem ok_lenS {x : Operand} {t : TypeId} {s : ByteArray} (ho : o.op = .call { callee := .builtin .len, args := #[x], argTypes := #[t] }) (ht : Tryz.prog.underlying t = some .string) (hx : S.ev x = .sc (.string s)) : OpOK o S (.sc (.int .i64 (s.size : Nat))) := by
  intro w0 G0 bx rv w T hm hT
  have h1 := (ev_ft' hT hx (by rw [ho]; simp [Op.operands, Call.operands])).isSc
  refine OpRuns.of_ok (v := .int .i64 (s.size : Nat)) (W' := w) ?_ ⟨.pure (.sc _ .nil) .nil, Below.refl _ _⟩
  simp [execOp, ho, resolve, invoke, builtin, Builtin.len_, h1, run_underlying ht, goInt]
theorem Chain.cp {dsts : List (Option Nat)} {m i j s : Nat} {b p : Bool} {os : List Oper} {t : Tree} {ts : List Tree} (hg : o.guard = some (j, b)) (hs : dsts[j]? = some (some s)) (hp : S.get s = .sc (.bool p)) (h : p = b → OpOK o S t) (k : Chain ops dsts m (i + 1) (S.put o.dst (if p = b then t else .sc undef)) os ts) (hj : (j != i && reach ops m i j && decide (j < i)) = true := by kernel_rfl) : Chain ops dsts m i S (o :: os) ((if p = b then t else .sc undef) :: ts) :=
  .cnd j b s (p = b) hg (by rw [hj, hs]; exact beq_self_eq_true _) (hp ▸ plainG) h k
theorem Chain.cq {A : Prop} [Decidable A] {dsts : List (Option Nat)} {m i j s : Nat} {b p : Bool} {os : List Oper} {t : Tree} {ts : List Tree} (hg : o.guard = some (j, b)) (hs : dsts[j]? = some (some s)) (hp : S.get s = if A then .sc (.bool p) else .sc undef) (h : A ∧ p = b → OpOK o S t) (k : Chain ops dsts m (i + 1) (S.put o.dst (if A ∧ p = b then t else .sc undef)) os ts) (hj : (j != i && reach ops m i j && decide (j < i)) = true := by kernel_rfl) : Chain ops dsts m i S (o :: os) ((if A ∧ p = b then t else .sc undef) :: ts) :=
  .cnd j b s (A ∧ p = b) hg (by rw [hj, hs]; exact beq_self_eq_true _) (hp ▸ nestG) h k
end
end Go.Proofs.YtpinhcdcnaaihaaGreatDoor
namespace Go.Proofs.YtpinhcdcnaaihaaGreatDoor
open Go.RowKit
section
variable {w0 : World} {G0 : Bse} {ops : Array Oper} {rest : List Oper} {Q : Exit → St → Prop} {o : Oper} {n : Nat} {sl : List (Nat × Tree)} {bs : List (TypeId × List Tree)} {rs : List (Option Row)} {S : St}
theorem AOps.boxE {d b : Nat} {ty : TypeId} {x : Operand} {t : Tree} {cs : List Tree} (ho : o.op = .box ty x) (hg : o.guard = none) (hd : o.dst = some d) (hn : Nat.blt d n = true) (ht : St.ev ⟨n, sl, bs, rs⟩ x = t) (h1 : t.oneA = true) (hc : t.cells = cs) (h2 : cs.all Tree.noDig = true) (hb : bs.length = b) {bs' : List (TypeId × List Tree)} (hbs : bs ++ [(ty, cs)] = bs')
    (k : AOps w0 G0 ops rest Q ⟨n, (d, .box b 0) :: sl, bs', rs⟩) : AOps w0 G0 ops (o :: rest) Q ⟨n, sl, bs, rs⟩ := by
  subst hc hb hbs
  refine AOps.turn hg (do_box (S := ⟨n, sl, bs, rs⟩) ho (by rw [hd]; simpa [dstOk, Nat.blt_eq] using hn) ht h1 h2) ?_
  rw [hd]; exact k
theorem AOps.allocE {d b : Nat} {ty : TypeId} {zs : List Value} {cs : List Tree} (ho : o.op = .alloc ty) (hg : o.guard = none) (hd : o.dst = some d) (hn : Nat.blt d n = true) (hz : zerT Tryz.prog ty = some zs) (h2 : zs.all noDigV = true) (hc : zs.map zeroTree = cs) (hb : bs.length = b) {bs' : List (TypeId × List Tree)} (hbs : bs ++ [(ty, cs)] = bs')
    (k : AOps w0 G0 ops rest Q ⟨n, (d, .box b 0) :: sl, bs', rs⟩) : AOps w0 G0 ops (o :: rest) Q ⟨n, sl, bs, rs⟩ := by
  subst hc hb hbs
  refine AOps.turn hg (do_alloc (S := ⟨n, sl, bs, rs⟩) ho (by rw [hd]; simpa [dstOk, Nat.blt_eq] using hn) hz h2) ?_
  rw [hd]; exact k
theorem AOps.storeE {ty bt : TypeId} {x y : Operand} {b off m : Nat} {cs : List Tree} {t : Tree} (ho : o.op = .store ty x y) (hg : o.guard = none) (hdst : o.dst = none) (hx : St.ev ⟨n, sl, bs, rs⟩ x = .box b off) (hb : bs[b]? = some (bt, cs)) (ht : St.ev ⟨n, sl, bs, rs⟩ y = t) (h1 : t.oneA = true) (h2 : t.cells.all Tree.one = true) (h3 : t.cells.all Tree.noDig = true) (hs : (Tryz.prog.info? ty).map (·.size) = some m) (hl : t.cells.length = m) (hle : Nat.ble (off + m) cs.length = true) {bs' : List (TypeId × List Tree)} (hbs : bs.set b (bt, putC cs off t) = bs')
    (k : AOps w0 G0 ops rest Q ⟨n, sl, bs', rs⟩) : AOps w0 G0 ops (o :: rest) Q ⟨n, sl, bs, rs⟩ := by
  subst hbs
  exact AOps.turn hg (do_store_box (S := ⟨n, sl, bs, rs⟩) ho hdst hx hb ht h1 h2 h3 hs hl (by simpa using hle)) k
theorem AOps.appendE {d k m by_ : Nat} {x y : Operand} {t : TypeId} {R : Row} {ys : List Tree} (ho : o.op = .call { callee := .builtin .append, args := #[x, y], argTypes := #[t, t] }) (hg : o.guard = none) (hd : o.dst = some d) (hn : Nat.blt d n = true) (ht : appT Tryz.prog t = some (R.e, R.sz, by_)) (hx : St.ev ⟨n, sl, bs, rs⟩ x = .own k) (hR : rs[k]? = some (some R)) (hy : St.ev ⟨n, sl, bs, rs⟩ y = .sl ys) (hm : R.sz = m) (hs : Sized m ys) (h1 : AllC Tree.one ys) (h2 : AllC Tree.noDig ys) (h3 : R.es.length + ys.length ≤ 1073741824) (h4 : Nat.ble by_ 100000 = true) {sl' : List (Nat × Tree)} {bs' : List (TypeId × List Tree)} {rs' : List (Option Row)} (hsl : sl.map (fun p => (p.1, killT k p.2)) = sl') (hbs : bs.map (fun p => (p.1, p.2.map (killT0 k))) = bs') (hrs : rs.set k (some ⟨R.e, R.sz, R.es ++ ys, false⟩) = rs')
    (K : AOps w0 G0 ops rest Q ⟨n, (d, .own k) :: sl', bs', rs'⟩) : AOps w0 G0 ops (o :: rest) Q ⟨n, sl, bs, rs⟩ := by
  subst hm hsl hbs hrs
  refine AOps.turn hg (do_append (S := ⟨n, sl, bs, rs⟩) ho (by rw [hd]; simpa [dstOk, Nat.blt_eq] using hn) ht hx hR hy hs h1 h2 h3 (by simpa using h4)) ?_
  rw [hd]; exact K
def putSl : List (Nat × Tree) → List (Option Nat) → List Tree → List (Nat × Tree)
  | sl, some d :: ds, t :: ts => putSl ((d, t) :: sl) ds ts
  | sl, none :: ds, _ :: ts => putSl sl ds ts
  | sl, _, _ => sl
theorem putAll_sl (n : Nat) (bs : List (TypeId × List Tree)) (rs : List (Option Row)) : ∀ (ds : List (Option Nat)) (ts : List Tree) (sl : List (Nat × Tree)), putAll ⟨n, sl, bs, rs⟩ ds ts = ⟨n, putSl sl ds ts, bs, rs⟩
  | [], _, sl => by cases sl <;> rfl
  | some d :: ds, [], sl => rfl
  | none :: ds, [], sl => rfl
  | some d :: ds, t :: ts, sl => putAll_sl n bs rs ds ts _
  | none :: ds, t :: ts, sl => putAll_sl n bs rs ds ts _
theorem AWP.drawE {id fu : Nat} {ops : List Oper} (dsts : List (Option Nat)) (ts : List Tree) {sl' : List (Nat × Tree)} (hac : acyclic ops.toArray = true) (hd : ops.map (·.dst) = dsts) (hap : apartL n dsts = true) (hdep : depsOk ops.toArray dsts fu = true) (hsl : putSl sl dsts ts = sl') (hch : Chain ops.toArray dsts fu 0 ⟨n, sl, bs, rs⟩ ops ts) (k : Q .normal ⟨n, sl', bs, rs⟩) : AWP w0 G0 (.region id ops.toArray true) Q ⟨n, sl, bs, rs⟩ :=
  AWP.draw hac hd hap hdep hch (by rw [putAll_sl, hsl]; exact k)
structure Le (S S' : St) (m k : Nat) : Prop where
  n : S'.n = S.n
  bs : S'.bs = S.bs.take m
  rs : S'.rs = S.rs.take k
  sl : Keeps S m k S'.sl
  ok : (S'.bs.all fun p => p.2.all (within0 m k)) = true
theorem Sim.le {S' : St} {m k : Nat} {a : Act} {w : World} (h : Sim w0 G0 S a w) (hl : Le S S' m k) (hpn : G0.pn ≤ m := by first | exact Nat.zero_le _ | exact Nat.le_of_ble_eq_true rfl) : Sim w0 G0 S' a w := by
  obtain ⟨h1, h2, h3, h4, h5⟩ := hl
  have := h.less m k S'.sl h4 (by rw [← h2]; exact h5) hpn
  rw [← h1, ← h2, ← h3] at this
  exact this
theorem AWP.le {c : Code} {S' : St} (m k : Nat) (hl : Le S S' m k) (h : AWP w0 G0 c Q S') (hpn : G0.pn ≤ m := by first | exact Nat.zero_le _ | exact Nat.le_of_ble_eq_true rfl) : AWP w0 G0 c Q S := fun a w hs => h a w (hs.le hl hpn)
theorem AWP.loopL {c : Code} (I : Nat → St → Prop) {n0 : Nat} {S0 : St} (m k : Nat) (h0 : I n0 S0) (hle : Le S S0 m k) (round : ∀ n S, I n S → AWP w0 G0 c (thenQ (fun S' => ∃ n' Sx, n' < n ∧ I n' Sx ∧ Le S' Sx m k) Q) S) (hpn : G0.pn ≤ m := by first | exact Nat.zero_le _ | exact Nat.le_of_ble_eq_true rfl) : AWP w0 G0 (.loop c) Q S := by
  refine AWP.loop (fun n S => ∃ Sx, I n Sx ∧ Le S Sx m k) n0 ⟨S0, h0, hle⟩ ?_
  rintro n S ⟨Sx, hI, hl⟩
  refine AWP.le m k hl ((round n Sx hI).mono ?_) hpn
  intro e S' h
  cases e with
  | normal =>
    obtain ⟨n', Sy, h1, h2, h3⟩ := h
    exact ⟨n', h1, Sy, h2, h3⟩
  | _ => exact h
theorem AWP.join {x y : Code} {Q' : Exit → St → Prop} (Sj : St) (m k : Nat) (h : AWP w0 G0 x (thenQ (fun S' => Le S' Sj m k) Q') S) (hk : AWP w0 G0 y Q Sj) (hpn : G0.pn ≤ m := by first | exact Nat.zero_le _ | exact Nat.le_of_ble_eq_true rfl) : AWP w0 G0 x (thenQ (AWP w0 G0 y Q) Q') S := h.mono fun e S' hq => by
  cases e with
  | normal => exact AWP.le m k hq hk hpn
  | _ => exact hq
end
theorem wrapN {a : Int} {m : Nat} (h : a = m) (hm : m < 9223372036854775808) : (Tree.sc (.int .i64 (IntKind.i64.wrap a))) = .sc (.int .i64 (m : Nat)) := by
  subst h
  congr 2
  rw [IntKind.wrap_i64]
  omega
theorem cat_run {xt : TypeId} {x y : Operand} {a b : ByteArray} {w : World} (h : a.size + b.size ≤ 4611686018427387904) : (do eqGuard .add xt x y (.string a) (.string b); binOp .add xt (.string a) (.string b) : Sem Value).run Tryz.prog w = .ok (.string (a ++ b)) w := by
  simp [eqGuard, binOp, Op.stringOp]
  omega
theorem consE {α : Type} {a b : α} {l m : List α} (h : a = b) (hs : l = m) : a :: l = b :: m := by rw [h, hs]
theorem intT {k : IntKind} {a b : Int} (h : a = b) : (Tree.sc (.int k a)) = .sc (.int k b) := by rw [h]
theorem boolT {p q : Bool} (h : p = q) : (Tree.sc (.bool p)) = .sc (.bool q) := by rw [h]
theorem ltN (a b : Nat) : decide ((a : Int) < (b : Int)) = decide (a < b) := decide_eq_decide.2 (by omega)
theorem gtN (a b : Nat) : decide ((a : Int) > (b : Int)) = decide (b < a) := decide_eq_decide.2 (by omega)
theorem eqN (a b : Nat) : ((a : Int) == (b : Int)) = decide (a = b) := by
  rw [Bool.eq_iff_iff, beq_iff_eq, decide_eq_true_eq]; omega
end Go.Proofs.YtpinhcdcnaaihaaGreatDoor
namespace Go.Proofs.YtpinhcdcnaaihaaGreatDoor
open Go.RowKit
def relT0 (k : Nat) (es : List Tree) : Tree → Tree
  | .own j => if j = k then .sl es else .own j
  | .elp j off => if j = k then .any else .elp j off
  | .agg _ | .tup _ => .any
  | t => t
def relT (k : Nat) (es : List Tree) : Tree → Tree
  | .agg cs => .agg (cs.map (relT0 k es))
  | t => relT0 k es t
section
variable {w0 w : World} {G0 : Bse} {bs : List (TypeId × List Tree)} {rs : List (Option Row)} {bx : List Nat} {rv : List Value} {k : Nat} {R : Row} {v : Value}
theorem rel_get (j : Nat) (X : Row) (h : (rs.set k none)[j]? = some (some X)) : j ≠ k ∧ rs[j]? = some (some X) := by
  by_cases hj : j = k
  · subst hj
    have hl := (List.getElem?_eq_some_iff.1 h).1
    rw [List.length_set] at hl
    rw [List.getElem?_set_self hl] at h
    cases h
  · rw [List.getElem?_set_ne (fun e => hj e.symm)] at h
    exact ⟨hj, h⟩
theorem rel_blocks {b : Nat} (h : b ∈ blocks bx rv (rs.set k none)) : b ∈ blocks bx rv rs := by
  rcases mem_blocks.1 h with h1 | ⟨j, u, X, h1, h2, h3⟩
  · exact mem_blocks.2 (.inl h1)
  · exact mem_blocks.2 (.inr ⟨j, u, X, h1, (rel_get j X h2).2, h3⟩)
theorem rel_mono : ∀ b, b < w.heap.size → ¬ GG G0 bx rv rs b → w.heap[b]? = w.heap[b]? ∧ ¬ GG G0 bx rv (rs.set k none) b := fun _ _ hG => ⟨rfl, fun h => hG (h.imp id rel_blocks)⟩
theorem rel_rv (j : Nat) (u : Value) (hj : j ≠ k) (h : rvOf rv rs j = some u) : rvOf rv (rs.set k none) j = some u := by
  unfold rvOf at h ⊢
  rw [List.getElem?_set_ne (fun e => hj e.symm)]
  exact h
theorem rel_own (hm : Mem w0 G0 bs rs bx rv w) (hR : rs[k]? = some (some R)) (h : rvOf rv rs k = some v) : PT w (GG G0 bx rv (rs.set k none)) [v] [.sl R.es] := by
  have hv : rv[k]? = some v := by simpa [rvOf, hR] using h
  obtain ⟨xs, h1, h2, h3, _⟩ := hm.row k v R hv hR
  have h2' := h2.mono (G' := GG G0 bx rv (rs.set k none)) (Nat.le_refl _) rel_mono
  rcases h1.2 with ⟨rfl, hn⟩ | ⟨g, cap, cur, rfl, hb, hg, hn, hmx, hs, ht⟩
  · have : R.es = [] := List.eq_nil_of_length_eq_zero hn
    rw [this]
    exact nil_pt _ _
  · refine .sl g 0 cap _ xs R.es (Array.getElem?_eq_some_iff.1 hg).1 (fun hG => ?_) (fun j u hu => ?_) rfl hn (by unfold maxLen at hmx; omega) h2' .nil
    · rcases hG with hG | hG
      · have h7 := hm.g0 g hG
        rcases hm.ge g (mem_blocks.2 (.inr ⟨k, _, R, hv, hR, rfl⟩)) with h8 | h8
        · omega
        · exact h7.2.2 h8
      · rcases mem_blocks.1 hG with hG | ⟨j, u, X, a1, a2, a3⟩
        · exact hm.nodup.br k _ R g hv hR rfl hG
        · obtain ⟨hj, a2⟩ := rel_get j X a2
          exact hm.nodup.rr j k u _ X R g hj a1 a2 hv hR a3 rfl
    · have := h1.cells (g := g) rfl j u hu
      rw [Addr.add_mid] at this
      exact this
theorem ft_rel0 (hm : Mem w0 G0 bs rs bx rv w) (hR : rs[k]? = some (some R)) {u : Value} {t : Tree} (h : FT (en w G0 bx rv rs) [u] [t]) : FT (en w G0 bx rv (rs.set k none)) [u] [relT0 k R.es t] := by
  cases h with
  | pure h _ =>
    cases t <;> first
      | exact .pure (h.mono (Nat.le_refl _) rel_mono) .nil
      | (simp only [relT0]; exact .any _ .nil)
      | (cases h)
  | any => exact .any _ .nil
  | box b off g h _ => exact .box b off g h .nil
  | own j n c A hv _ =>
    simp only [relT0]
    split
    · next e => subst e; exact .pure (rel_own hm hR hv) .nil
    · next e => exact .own j n c A (rel_rv j _ e hv) .nil
  | elp j off g n c hv _ =>
    simp only [relT0]
    split
    · exact .any _ .nil
    · next e => exact .elp j off g n c (rel_rv j _ e hv) .nil
  | agg => exact .any _ .nil
  | tup => exact .any _ .nil
theorem ft_rel0s (hm : Mem w0 G0 bs rs bx rv w) (hR : rs[k]? = some (some R)) : ∀ {us : List Value} {ts : List Tree}, FT (en w G0 bx rv rs) us ts → FT (en w G0 bx rv (rs.set k none)) us (ts.map (relT0 k R.es))
  | [], [], _ => .nil
  | [], _ :: _, h => by cases h
  | _ :: _, [], h => by cases h
  | u :: us, t :: ts, h => FT.cons (ft_rel0 hm hR h.head) (ft_rel0s hm hR h.tail)
theorem ft_rel (hm : Mem w0 G0 bs rs bx rv w) (hR : rs[k]? = some (some R)) {u : Value} {t : Tree} (h : FT (en w G0 bx rv rs) [u] [t]) : FT (en w G0 bx rv (rs.set k none)) [u] [relT k R.es t] := by
  cases t with
  | agg cs =>
    obtain ⟨xs, rfl, hx⟩ := h.isAgg
    exact .agg xs _ (ft_rel0s hm hR hx) .nil
  | _ => exact ft_rel0 hm hR h
end
section
variable {w0 : World} {G0 : Bse} {ops : Array Oper} {rest : List Oper} {Q : Exit → St → Prop} {o : Oper} {n : Nat} {sl : List (Nat × Tree)} {bs : List (TypeId × List Tree)} {rs : List (Option Row)} {S : St}
theorem Sim.rel {a : Act} {w : World} {k : Nat} {R : Row} (h : Sim w0 G0 ⟨n, sl, bs, rs⟩ a w) (hR : rs[k]? = some (some R)) : Sim w0 G0 ⟨n, sl.map fun p => (p.1, relT k R.es p.2), bs.map fun p => (p.1, p.2.map (relT0 k R.es)), rs.set k none⟩ a w := by
  obtain ⟨bx, rv, hm, hn, hdf, hsl⟩ := h
  refine ⟨bx, rv, ⟨hm.below, hm.env0, hm.g0, by simp [hm.nb], by simp [hm.nr], fun i g hi => ?_, fun j u X h1 h2 => ?_, ⟨hm.nodup.bb, fun j u X b h1 h2 => hm.nodup.br j u X b h1 (rel_get j X h2).2, fun i j u v X Y b hij h1 h2 h3 h4 => hm.nodup.rr i j u v X Y b hij h1 (rel_get i X h2).2 h3 (rel_get j Y h4).2⟩, fun b hb => hm.ge b (rel_blocks hb), hm.pin⟩, hn, hdf, fun i => ?_⟩
  · obtain ⟨ty, cs, us, h1, h2, h3, h4⟩ := hm.box i g hi
    exact ⟨ty, cs.map (relT0 k R.es), us, by rw [List.getElem?_map, h1]; rfl, h2, ft_rel0s hm hR h3, h4⟩
  · obtain ⟨xs, h3, h4, h5, h6⟩ := hm.row j u X h1 (rel_get j X h2).2
    exact ⟨xs, h3, h4.mono (Nat.le_refl _) rel_mono, h5, h6⟩
  · show FT _ _ [look (sl.map fun p => (p.1, relT k R.es p.2)) i]
    rw [look_map (relT k R.es) rfl]
    exact ft_rel hm hR (hsl i)
theorem AWP.rel {c : Code} (k : Nat) {R : Row} {sl' : List (Nat × Tree)} {bs' : List (TypeId × List Tree)} {rs' : List (Option Row)} (hR : rs[k]? = some (some R)) (hsl : sl.map (fun p => (p.1, relT k R.es p.2)) = sl') (hbs : bs.map (fun p => (p.1, p.2.map (relT0 k R.es))) = bs') (hrs : rs.set k none = rs') (h : AWP w0 G0 c Q ⟨n, sl', bs', rs'⟩) : AWP w0 G0 c Q ⟨n, sl, bs, rs⟩ := by
  subst hsl hbs hrs
  exact fun a w hs => h a w (hs.rel hR)
theorem addRow_get {rs : List (Option Row)} {rv : List Value} {v : Value} {R : Row} (hl : rv.length = rs.length) (j : Nat) (u : Value) (X : Row) (h1 : (rv ++ [v])[j]? = some u) (h2 : (rs ++ [some R])[j]? = some (some X)) : (j = rs.length ∧ u = v ∧ X = R) ∨ (j < rs.length ∧ rv[j]? = some u ∧ rs[j]? = some (some X)) := by
  by_cases hj : j < rs.length
  · rw [List.getElem?_append_left (by omega)] at h1
    rw [List.getElem?_append_left hj] at h2
    exact .inr ⟨hj, h1, h2⟩
  · have := (List.getElem?_eq_some_iff.1 h2).1
    simp only [List.length_append, List.length_singleton] at this
    obtain rfl : j = rs.length := by omega
    rw [List.getElem?_append_right (by omega), show rs.length - rv.length = 0 by omega] at h1
    rw [List.getElem?_append_right (Nat.le_refl _), Nat.sub_self] at h2
    simp only [List.getElem?_cons_zero, Option.some.injEq] at h1 h2
    exact .inl ⟨rfl, h1.symm, h2.symm⟩
theorem AOps.nilE {d k e sz : Nat} (ho : o.op = .move (.const (.slice none 0 0)) ∨ o.op = .assign (.const (.slice none 0 0))) (hg : o.guard = none) (hd : o.dst = some d) (hn : Nat.blt d n = true) (hk : rs.length = k) {rs' : List (Option Row)} (hrs : rs ++ [some ⟨e, sz, [], false⟩] = rs') (K : AOps w0 G0 ops rest Q ⟨n, (d, .own k) :: sl, bs, rs'⟩) : AOps w0 G0 ops (o :: rest) Q ⟨n, sl, bs, rs⟩ := by
  subst hrs hk
  refine AOps.turn hg (S' := ⟨n, (d, .own rs.length) :: sl, bs, rs ++ [some ⟨e, sz, [], false⟩]⟩) ?_ K
  rintro a w ⟨bx, rv, hm, hsz, hdf, hsl⟩
  have hnr : rv.length = rs.length := hm.nr
  have hblk : ∀ b, b ∈ blocks bx (rv ++ [.slice none 0 0]) (rs ++ [some ⟨e, sz, [], false⟩]) → b ∈ blocks bx rv rs := fun b hb => by
    rcases mem_blocks.1 hb with h1 | ⟨j, u, X, h1, h2, h3⟩
    · exact mem_blocks.2 (.inl h1)
    · rcases addRow_get hnr j u X h1 h2 with ⟨_, rfl, _⟩ | ⟨_, h4, h5⟩
      · simp [Value.ownBlock] at h3
      · exact mem_blocks.2 (.inr ⟨j, u, X, h4, h5, h3⟩)
  have hmono : ∀ b, b < w.heap.size → ¬ GG G0 bx rv rs b → w.heap[b]? = w.heap[b]? ∧ ¬ GG G0 bx (rv ++ [.slice none 0 0]) (rs ++ [some ⟨e, sz, [], false⟩]) b := fun b _ hG => ⟨rfl, fun h => hG (h.imp id (hblk b))⟩
  have hrv : ∀ j u, rvOf rv rs j = some u → rvOf (rv ++ [.slice none 0 0]) (rs ++ [some ⟨e, sz, [], false⟩]) j = some u := fun j u h => by
    unfold rvOf at h ⊢
    cases hj : rs[j]? with
    | none => simp [hj] at h
    | some r =>
      have hl := (List.getElem?_eq_some_iff.1 hj).1
      rw [List.getElem?_append_left hl, List.getElem?_append_left (by omega)]
      exact h
  have hft : ∀ {us ts}, FT (en w G0 bx rv rs) us ts → FT (en w G0 bx (rv ++ [.slice none 0 0]) (rs ++ [some ⟨e, sz, [], false⟩])) us ts := fun h => h.mono (Nat.le_refl _) hmono (fun _ _ h => h) hrv
  refine OpRuns.of_ok (v := .slice none 0 0) (W' := w) ?_ ⟨bx, rv ++ [.slice none 0 0], ⟨hm.below, hm.env0, hm.g0, hm.nb, by simp [hnr], fun i g hi => ?_, fun j u X h1 h2 => ?_, ⟨hm.nodup.bb, fun j u X b h1 h2 h3 => ?_, fun i j u v X Y b hij h1 h2 h3 h4 h5 h6 => ?_⟩, fun b hb => hm.ge b (hblk b hb), hm.pin⟩, by rw [put_size]; exact hsz, by rw [put_defers, hdf], ?_⟩
  · rcases ho with ho | ho <;> simp [execOp, ho, evT]
  · obtain ⟨ty, cs, us, h1, h2, h3, h4⟩ := hm.box i g hi
    exact ⟨ty, cs, us, h1, h2, hft h3, h4⟩
  · rcases addRow_get hnr j u X h1 h2 with ⟨_, rfl, rfl⟩ | ⟨_, h4, h5⟩
    · exact ⟨[], World.ownsRow_nil _ _ _ _, .nil, ⟨(fun _ h => by cases h), fun h => by cases h⟩, (fun g hg => by cases hg)⟩
    · obtain ⟨xs, h6, h7, h8, h9⟩ := hm.row j u X h4 h5
      exact ⟨xs, h6, h7.mono (Nat.le_refl _) hmono, h8, h9⟩
  · rcases addRow_get hnr j u X h1 h2 with ⟨_, rfl, _⟩ | ⟨_, h4, h5⟩
    · simp [Value.ownBlock] at h3
    · exact hm.nodup.br j u X b h4 h5 h3
  · rcases addRow_get hnr i u X h1 h2 with ⟨_, rfl, _⟩ | ⟨_, a1, a2⟩
    · simp [Value.ownBlock] at h5
    · rcases addRow_get hnr j v Y h3 h4 with ⟨_, rfl, _⟩ | ⟨_, b1, b2⟩
      · simp [Value.ownBlock] at h6
      · exact hm.nodup.rr i j u v X Y b hij a1 a2 b1 b2 h5 h6
  · intro i
    rw [put_getD a o.dst _ n hsz (by rw [hd]; simpa [dstOk, Nat.blt_eq] using hn), hd]
    show FT _ _ [look ((d, .own rs.length) :: sl) i]
    rw [look_cons]
    simp only [Option.some.injEq]
    split
    · refine .own _ 0 0 none ?_ .nil
      show rvOf (rv ++ [.slice none 0 0]) (rs ++ [some ⟨e, sz, [], false⟩]) rs.length = _
      unfold rvOf
      rw [List.getElem?_append_right (Nat.le_refl _), Nat.sub_self, List.getElem?_append_right (by omega), show rs.length - rv.length = 0 by omega]
      rfl
    · exact hft (hsl i)
end
end Go.Proofs.YtpinhcdcnaaihaaGreatDoor
