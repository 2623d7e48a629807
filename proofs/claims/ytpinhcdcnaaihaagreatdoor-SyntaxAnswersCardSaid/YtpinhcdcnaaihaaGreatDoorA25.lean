import Derived.Test.YtpinhcdcnaaihaaGreatDoorA24
namespace Go.Proofs.YtpinhcdcnaaihaaGreatDoor
open Go.RowKit
theorem lset_same {α : Type} {l : List α} {b : Nat} {x : α} (h : l[b]? = some x) : l.set b x = l := by
  refine List.ext_getElem? fun i => ?_
  rw [List.getElem?_set]
  split
  · next e =>
    subst e
    rw [h, if_pos (List.getElem?_eq_some_iff.1 h).1]
  · rfl
theorem call_run1 {o : Oper} {x : Operand} {ats : Array TypeId} {f : FuncId} {fn : Func} {v : Value} (T : Operand → Value) (w : World) (ho : o.op = .call { callee := .value (.func f), args := #[x], argTypes := ats }) (hf : Tryz.prog.funcs[f]? = some fn) (hn : (fn.name == "runtime.NumGoroutine") = false) (hb : fn.body.isNone = false) (e1 : T x = v) (hT : T (.func f) = .func (.func f) #[] #[] := by rfl) : (execOp T o).run Tryz.prog w = .ok (.enter f #[v]) w := by
  have h1 : ¬ fn.name = "runtime.NumGoroutine" := by simpa using hn
  have h2 : ¬ fn.body = none := fun e => by rw [e] at hb; cases hb
  simp [execOp, ho, resolve, hT, e1, Deferred.ofValue, invoke, callFunc, hf, h1, h2]
section
variable {w0 : World} {G0 : Bse} {o : Oper} {S : St}
theorem do_cc {x : Operand} {ats : Array TypeId} {b : Nat} {c t : Tree} (ho : o.op = .call { callee := .value (.func 58), args := #[x], argTypes := ats }) (hd : dstOk S.n o.dst = true) (hx : S.ev x = .box b 0) (hb : S.bs[b]? = some (59, [c, t])) (hc : c = .sc (.pointer none) ∨ c = .box b 0) :
    OpDo w0 G0 o S ({ S with bs := S.bs.set b (59, [.box b 0, t]) }.put o.dst (.tup [])) := by
  rintro a w ⟨bx, rv, hm, hsz, hdf, hsl⟩
  have hp := ev_ft' (op := o.op) (T := fun s => a.tmps.getD s undef) (S := S) (fun s _ => hsl s) hx (by rw [ho]; simp [Op.operands, Call.operands])
  obtain ⟨g, us, hbx, e1, hbk, hf, hdg⟩ := box_of hm hb hp
  have hfl := hf.length
  match us, hfl with
  | [u0, u1], _ =>
  have hgm : g ∈ blocks bx rv S.rs := mem_blocks.2 (.inl (List.mem_of_getElem? hbx))
  have hcall : (execOp (evT fun s => a.tmps.getD s undef) o).run Tryz.prog w = .ok (.enter 58 #[.pointer (some ⟨g, 0, none⟩)]) w := call_run1 (evT fun s => a.tmps.getD s undef) w ho Tryz.func58 rfl rfl e1
  rcases hc with rfl | rfl
  · have e0 : u0 = .pointer none := hf.head.isSc
    subst e0
    refine OpRuns.of_call hcall ((Any.Builder_copyCheck_fresh l240 x72 g w (hbk.cell 0) (by unfold IsBlk at hbk; simp [World.shape?, hbk]; rfl) (hbk.free 0)).mono ?_)
    rintro y w' ⟨rfl, rfl⟩
    have hgr : w.grownBy (w.setCell ⟨g, 0, none⟩ (.pointer (some ⟨g, 0, none⟩))) (some g) := ⟨rfl, rfl, rfl, by simp [World.setCell], fun k _ hk => Below.heap_setCell _ _ _ _ (fun e => hk (by simp [e]))⟩
    have hput := hbk.put 0 (.pointer (some ⟨g, 0, none⟩))
    refine ⟨_, rfl, bx, rv, ?_, by rw [put_size, St.put_n]; exact hsz, by rw [put_defers, hdf], ?_⟩
    · rw [St.put_bs, St.put_rs]
      refine hm.setBox (us := [.pointer (some ⟨g, 0, none⟩), u1]) hbx hgr (by simpa using hput) ?_ (by simpa [noDigV] using hdg)
      exact .box b 0 g hbx (ft_write hgm hgr hf.tail)
    · rw [St.put_rs]
      exact slots_put (S := { S with bs := _ }) hsz hd (fun _ _ h => ft_write hgm hgr h) hsl (.tup [] [] .nil .nil)
  · obtain ⟨g', hb', e0⟩ := hf.head.isBox
    have hb' : bx[b]? = some g' := hb'
    rw [hbx] at hb'; cases hb'
    subst e0
    refine OpRuns.of_call hcall ((Any.Builder_copyCheck_used l240 x72 g w (hbk.cell 0)).mono ?_)
    rintro y w' ⟨rfl, rfl⟩
    refine ⟨_, rfl, bx, rv, ?_, by rw [put_size, St.put_n]; exact hsz, by rw [put_defers, hdf], ?_⟩
    · rw [St.put_bs, St.put_rs, lset_same hb]
      exact hm
    · rw [St.put_rs]
      exact slots_put (S := { S with bs := _ }) hsz hd (fun _ _ h => h) hsl (.tup [] [] .nil .nil)
theorem AOps.cc {ops : Array Oper} {rest : List Oper} {Q : Exit → St → Prop} {n d b : Nat} {sl : List (Nat × Tree)} {bs bs' : List (TypeId × List Tree)} {rs : List (Option Row)} {x : Operand} {ats : Array TypeId} {c t : Tree} (ho : o.op = .call { callee := .value (.func 58), args := #[x], argTypes := ats }) (hg : o.guard = none) (hd : o.dst = some d) (hn : Nat.blt d n = true) (hx : St.ev ⟨n, sl, bs, rs⟩ x = .box b 0) (hb : bs[b]? = some (59, [c, t])) (hc : c = .sc (.pointer none) ∨ c = .box b 0) (hbs : bs.set b (59, [.box b 0, t]) = bs') (K : AOps w0 G0 ops rest Q ⟨n, (d, .tup []) :: sl, bs', rs⟩) : AOps w0 G0 ops (o :: rest) Q ⟨n, sl, bs, rs⟩ := by
  subst hbs
  refine AOps.turn hg (do_cc (S := ⟨n, sl, bs, rs⟩) ho (by rw [hd]; simpa [dstOk, Nat.blt_eq] using hn) hx hb hc) ?_
  rw [hd]; exact K
theorem do_bstr {n d b k : Nat} {sl : List (Nat × Tree)} {bs : List (TypeId × List Tree)} {rs : List (Option Row)} {x : Operand} {ats : Array TypeId} {c : Tree} {l : List UInt8} {tt : Bool} {G : Nat → Prop} (ho : o.op = .call { callee := .value (.func 25), args := #[x], argTypes := ats }) (hd : o.dst = some d) (hn : Nat.blt d n = true) (hx : St.ev ⟨n, sl, bs, rs⟩ x = .box b 0) (hb : bs[b]? = some (59, [c, .own k])) (hc : c = .sc (.pointer none) ∨ c = .box b 0) (hr : rs[k]? = some (some ⟨5, 1, bytesT l, tt⟩)) :
    OpDo w0 (pln G) o ⟨n, sl, bs, rs⟩ ⟨n, [(d, .sc (.string ⟨l.toArray⟩))], [], []⟩ := by
  rintro a w ⟨bx, rv, hm, hsz, hdf, hsl⟩
  have hp := ev_ft' (op := o.op) (T := fun s => a.tmps.getD s undef) (S := ⟨n, sl, bs, rs⟩) (fun s _ => hsl s) hx (by rw [ho]; simp [Op.operands, Call.operands])
  obtain ⟨g, us, hbx, e1, hbk, hf, hdg⟩ := box_of hm hb hp
  have hfl := hf.length
  match us, hfl with
  | [u0, u1], _ =>
  obtain ⟨hrv, xs, hown, hpt, _, _⟩ := FT.own_row hm hr hf.tail
  have hne : u1.ownBlock ≠ some g := fun e => hm.nodup.br k u1 _ g hrv hr e (List.mem_of_getElem? hbx)
  have hge := fun bb hbb => (hm.ge bb hbb).resolve_right (fun h : False => h)
  have hgb : w0.heap.size ≤ g := hge g (mem_blocks.2 (.inl (List.mem_of_getElem? hbx)))
  have hxs : xs = Lib.byteCells l := by
    have hpt : PT w _ xs (flat (bytesT l)) := hpt
    rw [flat_bytes] at hpt
    rw [byteT_cells hpt]; rfl
  have hown2 : w.ownsRow w0.heap.size 5 1 u1 (Lib.byteCells l).length (Lib.byteCells l) := by
    rw [hxs] at hown
    have e : (Lib.byteCells l).length = (bytesT l).length := by simp [Lib.byteCells, bytesT]
    rw [e]
    obtain ⟨q1, q2⟩ := hown
    refine ⟨q1, q2.imp id ?_⟩
    rintro ⟨gg, cap, cur, rfl, _, q⟩
    exact ⟨gg, cap, cur, rfl, hge gg (mem_blocks.2 (.inr ⟨k, _, _, hrv, hr, rfl⟩)), q⟩
  have hB : Lib.IsBuilder 59 5 w0.heap.size g (Lib.byteCells l) w := by
    rcases hc with rfl | rfl
    · have e0 : u0 = .pointer none := hf.head.isSc
      subst e0
      exact .inl ⟨hgb, u1, hbk, hown2, hne⟩
    · obtain ⟨g', hb', e0⟩ := hf.head.isBox
      have hb' : bx[b]? = some g' := hb'
      rw [hbx] at hb'; cases hb'
      subst e0
      exact .inr ⟨hgb, u1, hbk, hown2, hne⟩
  have hcall : (execOp (evT fun s => a.tmps.getD s undef) o).run Tryz.prog w = .ok (.enter 25 #[.pointer (some ⟨g, 0, none⟩)]) w := call_run1 (evT fun s => a.tmps.getD s undef) w ho Tryz.func25 rfl rfl e1
  refine OpRuns.of_call hcall ((Tryz.Builder_String_any w0.heap.size g l w hB hm.below.size).mono ?_)
  rintro y w' ⟨rfl, hbw⟩
  have hbe : Below w0.heap.size w0 w' := hm.below.below.trans hbw
  refine ⟨_, rfl, [], [], (mem_pln hm.env0.env0 fun g hg => ⟨(hm.g0 g hg).1, (hm.g0 g hg).2.1⟩).later hbe, by rw [put_size]; exact hsz, by rw [put_defers, hdf], fun i => ?_⟩
  rw [put_getD a o.dst _ n hsz (by rw [hd]; simpa [dstOk, Nat.blt_eq] using hn), hd]
  show FT _ _ [look _ i]
  rw [look_cons]
  by_cases h : d = i
  · subst h
    rw [if_pos rfl, if_pos rfl]
    exact .pure (.sc _ .nil) .nil
  · rw [if_neg (by simpa using h), if_neg h]
    exact .any _ .nil
theorem AOps.bstr {ops : Array Oper} {rest : List Oper} {Q : Exit → St → Prop} {n d b k : Nat} {sl : List (Nat × Tree)} {bs : List (TypeId × List Tree)} {rs : List (Option Row)} {x : Operand} {ats : Array TypeId} {c : Tree} {l : List UInt8} {tt : Bool} {G : Nat → Prop} (ho : o.op = .call { callee := .value (.func 25), args := #[x], argTypes := ats }) (hg : o.guard = none) (hd : o.dst = some d) (hn : Nat.blt d n = true) (hx : St.ev ⟨n, sl, bs, rs⟩ x = .box b 0) (hb : bs[b]? = some (59, [c, .own k])) (hc : c = .sc (.pointer none) ∨ c = .box b 0) (hr : rs[k]? = some (some ⟨5, 1, bytesT l, tt⟩)) (K : AOps w0 (pln G) ops rest Q ⟨n, [(d, .sc (.string ⟨l.toArray⟩))], [], []⟩) : AOps w0 (pln G) ops (o :: rest) Q ⟨n, sl, bs, rs⟩ :=
  AOps.turn hg (do_bstr ho hd hn hx hb hc hr) K
end
end Go.Proofs.YtpinhcdcnaaihaaGreatDoor
namespace Go.Proofs.YtpinhcdcnaaihaaGreatDoor
open Go.RowKit
theorem lay_fld_59_1 : fldT Tryz.prog 59 1 = some 1 := by kernel_rfl
theorem lay_one_49 : oneT Tryz.prog 49 = true := by kernel_rfl
theorem lay_siz_49 : (Tryz.prog.info? 49).map (·.size) = some 1 := by kernel_rfl
theorem lay_und_9 : Tryz.prog.underlying 9 = some .string := by kernel_rfl
theorem lay_zv_5 : (Tryz.prog.info? 5).bind (·.zero) = some (.int .u8 0) := by kernel_rfl
set_option maxRecDepth 100000 in
set_option maxHeartbeats 4000000 in
theorem wr_ct (c : Tree) (s : ByteArray) (l : List UInt8) (hc : c = .sc (.pointer none) ∨ c = .box 0 0) (hl : l.length + s.size ≤ 1073741824) : CtL 22 [.box 0 0, .sc (.string s)] [(59, [c, .own 0])] [some ⟨5, 1, bytesT l, false⟩] [(59, [.box 0 0, .own 0])] [some ⟨5, 1, bytesT (l ++ s.data.toList), false⟩] (.tup [.sc (.int .i64 ((s.size : Nat) : Int)), .sc .nilIface]) := by
  refine CtL.of (n := 19) Tryz.func22 rfl rfl rfl rfl rfl rfl rfl fun w0 G X P => ?_
  refine AWP.seq ?_
  refine AWP.region ?_
  refine AOps.e (t := .sc (.int .i64 0)) rfl rfl rfl (ok_assign rfl rfl) ?_
  refine AOps.e (t := .sc (.nilIface)) rfl rfl rfl (ok_assign rfl rfl) ?_
  refine AOps.nil ?_
  refine AWP.seq ?_
  refine AWP.region ?_
  refine AOps.e (t := .box 0 0) rfl rfl rfl (ok_move rfl rfl) ?_
  refine AOps.cc (bs' := [(59, [.box 0 0, .own 0])]) rfl rfl rfl rfl rfl rfl hc rfl ?_
  refine AOps.nil ?_
  refine AWP.seq ?_
  refine AWP.region ?_
  refine AOps.e (t := .box 0 0) rfl rfl rfl (ok_move rfl rfl) ?_
  refine AOps.e (t := .box 0 0) rfl rfl rfl (ok_move rfl rfl) ?_
  refine AOps.e (t := .box 0 0) rfl rfl rfl (ok_nilc_box rfl rfl) ?_
  refine AOps.e (t := .box 0 1) rfl rfl rfl (ok_field_box rfl rfl lay_fld_59_1 rfl) ?_
  refine AOps.e (t := .own 0) rfl rfl rfl (ok_load_box1 rfl rfl rfl lay_one_49 rfl) ?_
  refine AOps.e (t := .sc (.string s)) rfl rfl rfl (ok_move rfl rfl) ?_
  refine AOps.appendSE (bs' := [(59, [.box 0 0, .any])]) (rs' := [some ⟨5, 1, bytesT (l ++ s.data.toList), false⟩]) rfl rfl rfl rfl lay_app_49 lay_zv_5 lay_und_9 rfl rfl rfl rfl (by rw [bytes_length]; omega) rfl rfl (by simp only [bytesT, List.map_append]; rfl) ?_
  refine AOps.e (t := .box 0 0) rfl rfl rfl (ok_nilc_box rfl rfl) ?_
  refine AOps.e (t := .box 0 1) rfl rfl rfl (ok_field_box rfl rfl lay_fld_59_1 rfl) ?_
  refine AOps.storeE (bs' := [(59, [.box 0 0, .own 0])]) rfl rfl rfl rfl rfl rfl rfl rfl rfl lay_siz_49 rfl rfl rfl ?_
  refine AOps.nil ?_
  refine AWP.seq ?_
  refine AWP.region ?_
  refine AOps.e (t := .sc (.string s)) rfl rfl rfl (ok_move rfl rfl) ?_
  refine AOps.e (t := .sc (.int .i64 ((s.size : Nat) : Int))) rfl rfl rfl (ok_lenS rfl lay_und_9 rfl) ?_
  refine AOps.e (t := .sc (.int .i64 ((s.size : Nat) : Int))) rfl rfl rfl (ok_assign rfl rfl) ?_
  refine AOps.e (t := .sc (.nilIface)) rfl rfl rfl (ok_assign rfl rfl) ?_
  refine AOps.nil ?_
  refine AWP.ret ?_
  exact ⟨⟨.inr rfl, _, .cons rfl (.cons rfl .nil), rfl, rfl⟩, rfl, rfl, rfl⟩
end Go.Proofs.YtpinhcdcnaaihaaGreatDoor
namespace Go.Proofs.YtpinhcdcnaaihaaGreatDoor
open Go.RowKit
theorem lay_agg_31 : aggT Tryz.prog 31 = some 4 := by kernel_rfl
theorem lay_agg_34 : aggT Tryz.prog 34 = some 3 := by kernel_rfl
theorem lay_elm_23 : elmT Tryz.prog 23 = some (31, 4) := by kernel_rfl
theorem lay_elm_29 : elmT Tryz.prog 29 = some (34, 3) := by kernel_rfl
theorem lay_fld_31_0 : fldT Tryz.prog 31 0 = some 0 := by kernel_rfl
theorem lay_fld_31_1 : fldT Tryz.prog 31 1 = some 1 := by kernel_rfl
theorem lay_one_29 : oneT Tryz.prog 29 = true := by kernel_rfl
theorem lay_siz_31 : (Tryz.prog.info? 31).map (·.size) = some 4 := by kernel_rfl
theorem lay_siz_34 : (Tryz.prog.info? 34).map (·.size) = some 3 := by kernel_rfl
theorem lay_zer_31 : zerT Tryz.prog 31 = some [.slice none 0 0, .bool false, .slice none 0 0, .slice none 0 0] := by kernel_rfl
theorem lay_zer_34 : zerT Tryz.prog 34 = some [.int .i64 0, .int .i64 0, .string (⟨#[]⟩)] := by kernel_rfl
theorem lay_zer_59 : zerT Tryz.prog 59 = some [.pointer none, .slice none 0 0] := by kernel_rfl
set_option maxRecDepth 100000 in
set_option maxHeartbeats 4000000 in
theorem fmtAns_ct (al : List An) (hl : al.length ≤ 20) (hok : ∀ a ∈ al, AnOK a) : Ct 9 [.sl (al.map An.tree)] (.sc (.string (bb (al.flatMap ansTx)))) := by
  refine Ct.of (n := 38) Tryz.func9 rfl rfl rfl rfl rfl fun w0 G0 => ?_
  refine AWP.seq ?_
  refine AWP.region ?_
  refine AOps.e (t := .sc (.string (⟨#[]⟩))) rfl rfl rfl (ok_assign rfl rfl) ?_
  refine AOps.nil ?_
  refine AWP.seq ?_
  refine AWP.region ?_
  refine AOps.allocNE (cs := [.sc (.pointer none), .sc (.slice none 0 0)]) (b := 0) (bs' := [(59, [.sc (.pointer none), .sc (.slice none 0 0)])]) rfl rfl rfl rfl lay_zer_59 rfl rfl rfl rfl ?_
  refine AOps.nil ?_
  refine AWP.seq ?_
  refine AWP.seq ?_
  refine AWP.region ?_
  refine AOps.e (t := .sl (al.map An.tree)) rfl rfl rfl (ok_move rfl rfl) ?_
  refine AOps.e (t := .sc (.int .i64 ((al.length : Nat) : Int))) rfl rfl rfl (OpOK.cast (ok_len rfl lay_elm_23 rfl) (by simp only [List.length_map])) ?_
  refine AOps.e (t := .sc (.int .i64 0)) rfl rfl rfl (ok_move rfl rfl) ?_
  refine AOps.nil ?_
  refine AWP.block ?_
  refine AWP.begin 0 1 5 1 (bs' := [(59, [.sc (.pointer none), .own 0])]) (rs' := [some ⟨5, 1, bytesT [], false⟩]) rfl rfl rfl rfl ?_
  refine AWP.loopL (fun n_ S_ => ∃ (i : Nat) (acc : List UInt8) (c : Tree), (i ≤ al.length ∧ acc.length ≤ i * 4000 ∧ acc ++ (al.drop i).flatMap ansTx = al.flatMap ansTx ∧ (c = .sc (.pointer none) ∨ c = .box 0 0)) ∧ n_ = al.length - i ∧ S_ = ⟨38, [(3, .box 0 0), (8, .sl (al.map An.tree)), (9, .sc (.int .i64 ((al.length : Nat) : Int))), (10, .sc (.int .i64 ((i : Nat) : Int)))], [(59, [c, .own 0])], [some ⟨5, 1, bytesT acc, false⟩]⟩) 1 1 ⟨0, [], .sc (.pointer none), ⟨by omega, by simp, rfl, .inl rfl⟩, rfl, rfl⟩ ⟨rfl, rfl, rfl, .cons rfl rfl (.cons rfl rfl (.cons rfl rfl (.cons rfl rfl .nil))), rfl⟩ ?_
  rintro n_ S_ ⟨i, acc, c, ⟨hi, hacc, hinv, hcc⟩, rfl, rfl⟩
  refine AWP.seq ?_
  refine AWP.region ?_
  refine AOps.e (t := .sc (.bool (decide (i < al.length)))) rfl rfl rfl (OpOK.cast (ok_bin rfl rfl rfl (fun _ => rfl)) (boolT (ltN (i) (al.length)))) ?_
  refine AOps.nil ?_
  refine AWP.seq ?_
  refine AWP.cond (b := decide (i < al.length)) rfl (fun hc1 => ?_) (fun hc1 => ?_)
  ·
    replace hc1 := of_decide_eq_true hc1
    obtain ⟨a, hai⟩ : ∃ a, al[i]? = some a := ⟨_, List.getElem?_eq_getElem hc1⟩
    have hao := hok a (List.mem_of_getElem? hai)
    have hal := hao.len
    have hfl := fmtR_ln hao
    have hfs := fmtR_le hao
    rw [ans_step hai] at hinv
    refine AWP.skip ?_
    refine AWP.seq ?_
    refine AWP.block ?_
    refine AWP.seq ?_
    refine AWP.region ?_
    refine AOps.e (t := .ref [.sl (a.vals.map V.tree), .sc (.bool (decide (a.q.num < 0))), natT a.q.num.natAbs, natT a.q.den]) rfl rfl rfl (ok_index (An.tree a) rfl lay_elm_23 rfl rfl rfl (map_get (f := An.tree) hai) (An.sized _) rfl) ?_
    refine AOps.e (t := .agg [.sl (a.vals.map V.tree), .sc (.bool (decide (a.q.num < 0))), natT a.q.num.natAbs, natT a.q.den]) rfl rfl rfl (ok_load_ref rfl rfl lay_agg_31 rfl rfl) ?_
    refine AOps.allocE (b := 1) (bs' := [(59, [c, .own 0]), (31, [.sl [], .sc (.bool false), .sl [], .sl []])]) rfl rfl rfl rfl lay_zer_31 rfl rfl rfl rfl ?_
    refine AOps.storeE (bs' := [(59, [c, .own 0]), (31, [.sl (a.vals.map V.tree), .sc (.bool (decide (a.q.num < 0))), natT a.q.num.natAbs, natT a.q.den])]) rfl rfl rfl rfl rfl rfl rfl rfl rfl lay_siz_31 rfl rfl rfl ?_
    refine AOps.nil ?_
    refine AWP.seq ?_
    refine AWP.region ?_
    refine AOps.callL (bs' := [(59, [.box 0 0, .own 0]), (31, [.sl (a.vals.map V.tree), .sc (.bool (decide (a.q.num < 0))), natT a.q.num.natAbs, natT a.q.den])]) (rs' := [some ⟨5, 1, bytesT (acc ++ [40]), false⟩]) (r := .tup [.sc (.int .i64 (((⟨#[40]⟩ : ByteArray).size : Nat) : Int)), .sc (.nilIface)]) 1 1 rfl rfl rfl rfl rfl rfl rfl rfl (by rcases hcc with rfl | rfl <;> rfl) (wr_ct c (⟨#[40]⟩ : ByteArray) acc (hcc) (by first | (simp only [List.length_append, List.length_cons, List.length_nil]; show _ + 1 ≤ _; omega) | (show _ + 1 ≤ _; omega))) rfl rfl rfl rfl rfl ?_
    refine AOps.nil ?_
    refine AWP.seq ?_
    refine AWP.seq ?_
    refine AWP.region ?_
    refine AOps.e (t := .box 1 0) rfl rfl rfl (ok_field_box rfl rfl lay_fld_31_0 rfl) ?_
    refine AOps.e (t := .sl (a.vals.map V.tree)) rfl rfl rfl (ok_load_box1 rfl rfl rfl lay_one_29 rfl) ?_
    refine AOps.e (t := .sc (.int .i64 ((a.vals.length : Nat) : Int))) rfl rfl rfl (OpOK.cast (ok_len rfl lay_elm_29 rfl) (by simp only [List.length_map])) ?_
    refine AOps.e (t := .sc (.int .i64 0)) rfl rfl rfl (ok_move rfl rfl) ?_
    refine AOps.nil ?_
    refine AWP.block ?_
    refine AWP.loopL (fun n_ S_ => ∃ (j : Nat) (ac : List UInt8), (j ≤ a.vals.length ∧ ac.length ≤ acc.length + 1 + j * 202 ∧ ac ++ sepA j (a.vals.drop j) = acc ++ [40] ++ sepA 0 a.vals) ∧ n_ = a.vals.length - j ∧ S_ = ⟨38, [(3, .box 0 0), (5, .box 1 0), (8, .sl (al.map An.tree)), (9, .sc (.int .i64 ((al.length : Nat) : Int))), (10, .sc (.int .i64 ((i : Nat) : Int))), (16, .sl (a.vals.map V.tree)), (17, .sc (.int .i64 ((a.vals.length : Nat) : Int))), (18, .sc (.int .i64 ((j : Nat) : Int)))], [(59, [.box 0 0, .own 0]), (31, [.sl (a.vals.map V.tree), .sc (.bool (decide (a.q.num < 0))), natT a.q.num.natAbs, natT a.q.den])], [some ⟨5, 1, bytesT ac, false⟩]⟩) 2 1 ⟨0, acc ++ [40], ⟨by omega, by simp, rfl⟩, rfl, rfl⟩ ⟨rfl, rfl, rfl, .cons rfl rfl (.cons rfl rfl (.cons rfl rfl (.cons rfl rfl (.cons rfl rfl (.cons rfl rfl (.cons rfl rfl (.cons rfl rfl .nil))))))), rfl⟩ ?_
    rintro n_ S_ ⟨j, ac, ⟨hj, hac, hj2⟩, rfl, rfl⟩
    refine AWP.seq ?_
    refine AWP.region ?_
    refine AOps.e (t := .sc (.bool (decide (j < a.vals.length)))) rfl rfl rfl (OpOK.cast (ok_bin rfl rfl rfl (fun _ => rfl)) (boolT (ltN (j) (a.vals.length)))) ?_
    refine AOps.nil ?_
    refine AWP.seq ?_
    refine AWP.cond (b := decide (j < a.vals.length)) rfl (fun hc2 => ?_) (fun hc2 => ?_)
    ·
      replace hc2 := of_decide_eq_true hc2
      obtain ⟨v, hvj⟩ : ∃ v, a.vals[j]? = some v := ⟨_, List.getElem?_eq_getElem hc2⟩
      obtain ⟨hvr, hvl, _⟩ := hao.rng v (List.mem_of_getElem? hvj)
      have hvs : (⟨v.fmt.toArray⟩ : ByteArray).size ≤ 200 := by have := bb_size v.fmt; unfold bb at this; omega
      rw [sepA_step hvj] at hj2
      refine AWP.skip ?_
      refine AWP.seq ?_
      refine AWP.block ?_
      refine AWP.seq ?_
      refine AWP.region ?_
      refine AOps.e (t := .sc (.int .i64 ((j : Nat) : Int))) rfl rfl rfl (ok_move rfl rfl) ?_
      refine AOps.e (t := .ref [.sc (.int .i64 v.t), .sc (.int .i64 v.n), .sc (.string v.s)]) rfl rfl rfl (ok_index (V.tree v) rfl lay_elm_29 rfl rfl rfl (map_get (f := V.tree) hvj) (V.sized _) rfl) ?_
      refine AOps.e (t := .agg [.sc (.int .i64 v.t), .sc (.int .i64 v.n), .sc (.string v.s)]) rfl rfl rfl (ok_load_ref rfl rfl lay_agg_34 rfl rfl) ?_
      refine AOps.allocE (b := 2) (bs' := [(59, [.box 0 0, .own 0]), (31, [.sl (a.vals.map V.tree), .sc (.bool (decide (a.q.num < 0))), natT a.q.num.natAbs, natT a.q.den]), (34, [.sc (.int .i64 0), .sc (.int .i64 0), .sc (.string (⟨#[]⟩))])]) rfl rfl rfl rfl lay_zer_34 rfl rfl rfl rfl ?_
      refine AOps.e (t := .sc (.int .i64 ((j : Nat) : Int))) rfl rfl rfl (ok_assign rfl rfl) ?_
      refine AOps.storeE (bs' := [(59, [.box 0 0, .own 0]), (31, [.sl (a.vals.map V.tree), .sc (.bool (decide (a.q.num < 0))), natT a.q.num.natAbs, natT a.q.den]), (34, [.sc (.int .i64 v.t), .sc (.int .i64 v.n), .sc (.string v.s)])]) rfl rfl rfl rfl rfl rfl rfl rfl rfl lay_siz_34 rfl rfl rfl ?_
      refine AOps.nil ?_
      refine AWP.seq ?_
      refine AWP.seq ?_
      refine AWP.region ?_
      refine AOps.e (t := .sc (.int .i64 ((j : Nat) : Int))) rfl rfl rfl (ok_move rfl rfl) ?_
      refine AOps.e (t := .sc (.bool (decide (0 < j)))) rfl rfl rfl (OpOK.cast (ok_bin rfl rfl rfl (fun _ => rfl)) (boolT (gtN (j) (0)))) ?_
      refine AOps.nil ?_
      refine AWP.cond (b := decide (0 < j)) rfl (fun hc3 => ?_) (fun hc3 => ?_)
      ·
        replace hc3 := of_decide_eq_true hc3
        rw [if_pos hc3] at hj2
        refine AWP.region ?_
        refine AOps.callL (bs' := [(59, [.box 0 0, .own 0]), (31, [.sl (a.vals.map V.tree), .sc (.bool (decide (a.q.num < 0))), natT a.q.num.natAbs, natT a.q.den]), (34, [.sc (.int .i64 v.t), .sc (.int .i64 v.n), .sc (.string v.s)])]) (rs' := [some ⟨5, 1, bytesT (ac ++ [44, 32]), false⟩]) (r := .tup [.sc (.int .i64 (((⟨#[44, 32]⟩ : ByteArray).size : Nat) : Int)), .sc (.nilIface)]) 1 1 rfl rfl rfl rfl rfl rfl rfl rfl rfl (wr_ct (.box 0 0) (⟨#[44, 32]⟩ : ByteArray) ac (.inr rfl) (by first | (simp only [List.length_append, List.length_cons, List.length_nil]; show _ + 2 ≤ _; omega) | (show _ + 2 ≤ _; omega))) rfl rfl rfl rfl rfl ?_
        refine AOps.nil ?_
        refine AWP.region ?_
        refine AOps.e (t := .agg [.sc (.int .i64 v.t), .sc (.int .i64 v.n), .sc (.string v.s)]) rfl rfl rfl (ok_load_box rfl rfl rfl lay_agg_34 rfl rfl) ?_
        refine AOps.e (t := .sc (.string (⟨v.fmt.toArray⟩ : ByteArray))) rfl rfl rfl (ok_call rfl (vfmt_ct v hvr) rfl rfl) ?_
        refine AOps.callL (bs' := [(59, [.box 0 0, .own 0]), (31, [.sl (a.vals.map V.tree), .sc (.bool (decide (a.q.num < 0))), natT a.q.num.natAbs, natT a.q.den]), (34, [.sc (.int .i64 v.t), .sc (.int .i64 v.n), .sc (.string v.s)])]) (rs' := [some ⟨5, 1, bytesT ((ac ++ [44, 32]) ++ v.fmt), false⟩]) (r := .tup [.sc (.int .i64 (((⟨v.fmt.toArray⟩ : ByteArray).size : Nat) : Int)), .sc (.nilIface)]) 1 1 rfl rfl rfl rfl rfl rfl rfl rfl rfl (wr_ct (.box 0 0) (⟨v.fmt.toArray⟩ : ByteArray) (ac ++ [44, 32]) (.inr rfl) (by first | (simp only [List.length_append, List.length_cons, List.length_nil]; show _ + (⟨v.fmt.toArray⟩ : ByteArray).size ≤ _; omega) | (show _ + (⟨v.fmt.toArray⟩ : ByteArray).size ≤ _; omega))) rfl rfl rfl rfl rfl ?_
        refine AOps.nil ?_
        refine AWP.region ?_
        refine AOps.e (t := .sc (.int .i64 ((j + 1 : Nat) : Int))) rfl rfl rfl (OpOK.cast (ok_bin rfl rfl rfl (fun _ => rfl)) (wrapN (by omega) (by omega))) ?_
        refine AOps.e (t := .sc (.int .i64 ((j + 1 : Nat) : Int))) rfl rfl rfl (ok_move rfl rfl) ?_
        refine AOps.nil ?_
        refine ⟨_, _, ?_, ⟨j + 1, ((ac ++ [44, 32]) ++ v.fmt), ?_, rfl, rfl⟩, ⟨rfl, rfl, rfl, .cons rfl rfl (.cons rfl rfl (.cons rfl rfl (.cons rfl rfl (.cons rfl rfl (.cons rfl rfl (.cons rfl rfl (.cons rfl rfl .nil))))))), rfl⟩⟩
        · omega
        · refine ⟨by omega, ?_, ?_⟩
          · simp only [List.length_append, List.length_cons, List.length_nil]; omega
          · rw [← hj2]; simp
      ·
        replace hc3 := of_decide_eq_false hc3
        rw [if_neg hc3, List.nil_append] at hj2
        refine AWP.skip ?_
        refine AWP.region ?_
        refine AOps.e (t := .agg [.sc (.int .i64 v.t), .sc (.int .i64 v.n), .sc (.string v.s)]) rfl rfl rfl (ok_load_box rfl rfl rfl lay_agg_34 rfl rfl) ?_
        refine AOps.e (t := .sc (.string (⟨v.fmt.toArray⟩ : ByteArray))) rfl rfl rfl (ok_call rfl (vfmt_ct v hvr) rfl rfl) ?_
        refine AOps.callL (bs' := [(59, [.box 0 0, .own 0]), (31, [.sl (a.vals.map V.tree), .sc (.bool (decide (a.q.num < 0))), natT a.q.num.natAbs, natT a.q.den]), (34, [.sc (.int .i64 v.t), .sc (.int .i64 v.n), .sc (.string v.s)])]) (rs' := [some ⟨5, 1, bytesT (ac ++ v.fmt), false⟩]) (r := .tup [.sc (.int .i64 (((⟨v.fmt.toArray⟩ : ByteArray).size : Nat) : Int)), .sc (.nilIface)]) 1 1 rfl rfl rfl rfl rfl rfl rfl rfl rfl (wr_ct (.box 0 0) (⟨v.fmt.toArray⟩ : ByteArray) ac (.inr rfl) (by first | (simp only [List.length_append, List.length_cons, List.length_nil]; show _ + (⟨v.fmt.toArray⟩ : ByteArray).size ≤ _; omega) | (show _ + (⟨v.fmt.toArray⟩ : ByteArray).size ≤ _; omega))) rfl rfl rfl rfl rfl ?_
        refine AOps.nil ?_
        refine AWP.region ?_
        refine AOps.e (t := .sc (.int .i64 ((j + 1 : Nat) : Int))) rfl rfl rfl (OpOK.cast (ok_bin rfl rfl rfl (fun _ => rfl)) (wrapN (by omega) (by omega))) ?_
        refine AOps.e (t := .sc (.int .i64 ((j + 1 : Nat) : Int))) rfl rfl rfl (ok_move rfl rfl) ?_
        refine AOps.nil ?_
        refine ⟨_, _, ?_, ⟨j + 1, (ac ++ v.fmt), ?_, rfl, rfl⟩, ⟨rfl, rfl, rfl, .cons rfl rfl (.cons rfl rfl (.cons rfl rfl (.cons rfl rfl (.cons rfl rfl (.cons rfl rfl (.cons rfl rfl (.cons rfl rfl .nil))))))), rfl⟩⟩
        · omega
        · refine ⟨by omega, ?_, ?_⟩
          · simp only [List.length_append, List.length_cons, List.length_nil]; omega
          · rw [← hj2]; simp
    ·
      replace hc2 := of_decide_eq_false hc2
      rw [sepA_end (by omega), List.append_nil] at hj2
      have hacl := congrArg List.length hj2
      have hsl := sepA_le a.vals 0 fun v hv => (hao.rng v hv).2.1
      simp only [List.length_append, List.length_cons, List.length_nil] at hacl
      refine AWP.exit ?_
      refine AWP.seq ?_
      refine AWP.region ?_
      refine AOps.callL (bs' := [(59, [.box 0 0, .own 0]), (31, [.sl (a.vals.map V.tree), .sc (.bool (decide (a.q.num < 0))), natT a.q.num.natAbs, natT a.q.den])]) (rs' := [some ⟨5, 1, bytesT (ac ++ [41, 58, 32]), false⟩]) (r := .tup [.sc (.int .i64 (((⟨#[41, 58, 32]⟩ : ByteArray).size : Nat) : Int)), .sc (.nilIface)]) 1 1 rfl rfl rfl rfl rfl rfl rfl rfl rfl (wr_ct (.box 0 0) (⟨#[41, 58, 32]⟩ : ByteArray) ac (.inr rfl) (by first | (simp only [List.length_append, List.length_cons, List.length_nil]; show _ + 3 ≤ _; omega) | (show _ + 3 ≤ _; omega))) rfl rfl rfl rfl rfl ?_
      refine AOps.nil ?_
      refine AWP.seq ?_
      refine AWP.region ?_
      refine AOps.e (t := .box 1 1) rfl rfl rfl (ok_field_box rfl rfl lay_fld_31_1 rfl) ?_
      refine AOps.e (t := .agg [.sc (.bool (decide (a.q.num < 0))), natT a.q.num.natAbs, natT a.q.den]) rfl rfl rfl (ok_load_box rfl rfl rfl lay_agg_27 rfl rfl) ?_
      refine AOps.e (t := .sc (.string (fmtR a.q))) rfl rfl rfl (ok_call rfl (format_ct a.q hao.fit (by have := hao.num; omega) (by have := hao.den; omega)) rfl rfl) ?_
      refine AOps.callL (bs' := [(59, [.box 0 0, .own 0]), (31, [.sl (a.vals.map V.tree), .sc (.bool (decide (a.q.num < 0))), natT a.q.num.natAbs, natT a.q.den])]) (rs' := [some ⟨5, 1, bytesT ((ac ++ [41, 58, 32]) ++ (fmtR a.q).data.toList), false⟩]) (r := .tup [.sc (.int .i64 (((fmtR a.q).size : Nat) : Int)), .sc (.nilIface)]) 1 1 rfl rfl rfl rfl rfl rfl rfl rfl rfl (wr_ct (.box 0 0) (fmtR a.q) (ac ++ [41, 58, 32]) (.inr rfl) (by first | (simp only [List.length_append, List.length_cons, List.length_nil]; show _ + (fmtR a.q).size ≤ _; omega) | (show _ + (fmtR a.q).size ≤ _; omega))) rfl rfl rfl rfl rfl ?_
      refine AOps.nil ?_
      refine AWP.region ?_
      refine AOps.callL (bs' := [(59, [.box 0 0, .own 0]), (31, [.sl (a.vals.map V.tree), .sc (.bool (decide (a.q.num < 0))), natT a.q.num.natAbs, natT a.q.den])]) (rs' := [some ⟨5, 1, bytesT (((ac ++ [41, 58, 32]) ++ (fmtR a.q).data.toList) ++ [10]), false⟩]) (r := .tup [.sc (.int .i64 (((⟨#[10]⟩ : ByteArray).size : Nat) : Int)), .sc (.nilIface)]) 1 1 rfl rfl rfl rfl rfl rfl rfl rfl rfl (wr_ct (.box 0 0) (⟨#[10]⟩ : ByteArray) ((ac ++ [41, 58, 32]) ++ (fmtR a.q).data.toList) (.inr rfl) (by first | (simp only [List.length_append, List.length_cons, List.length_nil]; show _ + 1 ≤ _; omega) | (show _ + 1 ≤ _; omega))) rfl rfl rfl rfl rfl ?_
      refine AOps.nil ?_
      refine AWP.region ?_
      refine AOps.e (t := .sc (.int .i64 ((i + 1 : Nat) : Int))) rfl rfl rfl (OpOK.cast (ok_bin rfl rfl rfl (fun _ => rfl)) (wrapN (by omega) (by omega))) ?_
      refine AOps.e (t := .sc (.int .i64 ((i + 1 : Nat) : Int))) rfl rfl rfl (ok_move rfl rfl) ?_
      refine AOps.nil ?_
      refine ⟨_, _, ?_, ⟨i + 1, (((ac ++ [41, 58, 32]) ++ (fmtR a.q).data.toList) ++ [10]), .box 0 0, ?_, rfl, rfl⟩, ⟨rfl, rfl, rfl, .cons rfl rfl (.cons rfl rfl (.cons rfl rfl (.cons rfl rfl .nil))), rfl⟩⟩
      · omega
      · refine ⟨by omega, ?_, ?_, .inr rfl⟩
        · simp only [List.length_append, List.length_cons, List.length_nil]; omega
        · rw [← hinv, hj2]; unfold ansTx; simp
  ·
    replace hc1 := of_decide_eq_false hc1
    refine AWP.exit ?_
    refine AWP.seq ?_
    refine AWP.region ?_
    refine AOps.bstr rfl rfl rfl rfl rfl rfl hcc rfl ?_
    refine AOps.e (t := .sc (.string (bb acc))) rfl rfl rfl (ok_assign rfl rfl) ?_
    refine AOps.nil ?_
    refine AWP.ret ?_
    exact ⟨.inr rfl, _, .cons rfl .nil, strTr (by rw [← hinv, List.drop_of_length_le (by omega), List.flatMap_nil, List.append_nil]), rfl⟩
end Go.Proofs.YtpinhcdcnaaihaaGreatDoor
