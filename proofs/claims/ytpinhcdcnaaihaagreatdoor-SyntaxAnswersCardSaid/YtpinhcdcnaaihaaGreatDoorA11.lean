import Derived.Test.YtpinhcdcnaaihaaGreatDoorA10
namespace Go.Proofs.YtpinhcdcnaaihaaGreatDoor
open Go.RowKit
def nval : List Nat → Nat
  | [] => 0
  | d :: l => d + 4294967296 * nval l
def Digs (l : List Nat) : Prop := ∀ d ∈ l, d < 4294967296
def digsF : Nat → Nat → List Nat
  | 0, _ => []
  | k + 1, n => if n = 0 then [] else (n % 4294967296) :: digsF k (n / 4294967296)
def digs (n : Nat) : List Nat := digsF n n
theorem digsF_enough : ∀ (k m n : Nat), n ≤ k → n ≤ m → digsF k n = digsF m n
  | 0, m, n, hk, _ => by
    obtain rfl : n = 0 := by omega
    cases m <;> simp [digsF]
  | k + 1, 0, n, _, hm => by
    obtain rfl : n = 0 := by omega
    simp [digsF]
  | k + 1, m + 1, n, hk, hm => by
    simp only [digsF]
    split
    · rfl
    · rw [digsF_enough k m (n / 4294967296) (by omega) (by omega)]
theorem digs_zero : digs 0 = [] := rfl
theorem digs_step {n : Nat} (h : n ≠ 0) : digs n = (n % 4294967296) :: digs (n / 4294967296) := by
  unfold digs
  obtain ⟨k, rfl⟩ : ∃ k, n = k + 1 := ⟨n - 1, by omega⟩
  rw [digsF, if_neg h, digsF_enough k ((k + 1) / 4294967296) _ (by omega) (Nat.le_refl _)]
theorem nval_digs (n : Nat) : nval (digs n) = n := by
  induction n using Nat.strongRecOn with
  | ind n ih =>
    by_cases h : n = 0
    · subst h; rfl
    · rw [digs_step h, nval, ih (n / 4294967296) (by omega)]; omega
theorem digs_lt (n : Nat) : Digs (digs n) := by
  induction n using Nat.strongRecOn with
  | ind n ih =>
    by_cases h : n = 0
    · subst h; intro d hd; simp [digs_zero] at hd
    · rw [digs_step h]
      intro d hd
      rcases List.mem_cons.1 hd with rfl | hd
      · omega
      · exact ih (n / 4294967296) (by omega) d hd
theorem digs_nil {n : Nat} : digs n = [] ↔ n = 0 := by
  constructor
  · intro h
    have := nval_digs n
    rw [h] at this
    exact this.symm
  · rintro rfl; rfl
theorem digs_len0 {n : Nat} : (digs n).length = 0 ↔ n = 0 := by rw [List.length_eq_zero_iff, digs_nil]
theorem digs_of : ∀ (l : List Nat), Digs l → (∀ h : l ≠ [], l.getLast h ≠ 0) → l = digs (nval l)
  | [], _, _ => rfl
  | d :: l, hd, hl => by
    have hd0 : d < 4294967296 := hd d (List.mem_cons_self ..)
    cases l with
    | nil =>
      have h0 : d ≠ 0 := hl (by simp)
      simp only [nval, Nat.mul_zero, Nat.add_zero]
      rw [digs_step h0, Nat.mod_eq_of_lt hd0, Nat.div_eq_of_lt hd0, digs_zero]
    | cons c l =>
      have ih := digs_of (c :: l) (fun x hx => hd x (List.mem_cons_of_mem _ hx)) (fun h => by have := hl (by simp); rwa [List.getLast_cons h] at this)
      have hn : nval (c :: l) ≠ 0 := fun e => by rw [e, digs_zero] at ih; cases ih
      generalize c :: l = m at *
      simp only [nval]
      rw [digs_step (by omega), show (d + 4294967296 * nval m) % 4294967296 = d by omega, show (d + 4294967296 * nval m) / 4294967296 = nval m by omega, ← ih]
theorem nval_append : ∀ (a b : List Nat), nval (a ++ b) = nval a + 4294967296 ^ a.length * nval b
  | [], b => by simp [nval]
  | d :: a, b => by
    have := nval_append a b
    simp only [List.cons_append, nval, this, List.length_cons, Nat.pow_succ, Nat.mul_add]
    rw [Nat.mul_comm (4294967296 ^ a.length) 4294967296, Nat.mul_assoc]
    omega
theorem nval_zeros : ∀ (l : List Nat), (∀ d ∈ l, d = 0) → nval l = 0
  | [], _ => rfl
  | d :: l, h => by
    have h1 := h d (List.mem_cons_self ..)
    have h2 := nval_zeros l (fun x hx => h x (List.mem_cons_of_mem _ hx))
    simp [nval, h1, h2]
theorem digs_take (ds : List Nat) (k : Nat) (hk : k ≤ ds.length) (hd : Digs ds) (h0 : ∀ (j : Nat) (hj : j < ds.length), k ≤ j → ds[j] = 0) (hl : k = 0 ∨ ∃ h : k - 1 < ds.length, ds[k - 1] ≠ 0) : ds.take k = digs (nval ds) := by
  have e : nval ds = nval (ds.take k) := by
    rw [← List.take_append_drop k ds, nval_append, nval_zeros (ds.drop k), List.take_append_drop]
    · simp
    · intro d hd'
      obtain ⟨j, hj, rfl⟩ := List.getElem_of_mem hd'
      rw [List.getElem_drop]
      exact h0 _ _ (by omega)
  rw [e]
  refine digs_of _ (fun d hd' => hd d (List.mem_of_mem_take hd')) fun h => ?_
  rcases hl with rfl | ⟨hlt, hne⟩
  · simp at h
  · have hk0 : k ≠ 0 := fun e => by subst e; simp at h
    rw [List.getLast_eq_getElem]
    have hlen : (ds.take k).length = k := by rw [List.length_take]; omega
    simp only [List.getElem_take, hlen]
    exact hne
theorem nval_lt : ∀ (l : List Nat), Digs l → nval l < 4294967296 ^ l.length
  | [], _ => by simp [nval]
  | d :: l, h => by
    have h1 := h d (List.mem_cons_self ..)
    have h2 := nval_lt l (fun x hx => h x (List.mem_cons_of_mem _ hx))
    simp only [nval, List.length_cons, Nat.pow_succ]
    omega
theorem digs_length_le {n k : Nat} (h : n < 4294967296 ^ k) : (digs n).length ≤ k := by
  induction k generalizing n with
  | zero =>
    obtain rfl : n = 0 := by simpa using h
    simp [digs_zero]
  | succ k ih =>
    by_cases h0 : n = 0
    · subst h0; simp [digs_zero]
    · rw [digs_step h0]
      rw [Nat.pow_succ] at h
      have := ih (n := n / 4294967296) (by rw [Nat.div_lt_iff_lt_mul (by decide)]; exact h)
      simp; omega
theorem digs_length_mono {m n : Nat} (h : m ≤ n) : (digs m).length ≤ (digs n).length := by
  refine digs_length_le ?_
  have := nval_lt (digs n) (digs_lt n)
  rw [nval_digs] at this
  omega
def cellsN (l : List Nat) : List Value := l.map fun (d : Nat) => .int .u32 (d : Int)
theorem cellsN_length (l : List Nat) : (cellsN l).length = l.length := by simp [cellsN]
theorem cellsN_append (a b : List Nat) : cellsN (a ++ b) = cellsN a ++ cellsN b := by simp [cellsN]
theorem cellsN_one (l : List Nat) : ∀ u ∈ cellsN l, u.oneCell' = true := by
  intro u hu
  simp only [cellsN, List.mem_map] at hu
  obtain ⟨c, _, rfl⟩ := hu
  rfl
theorem u32_info : (Tryz.prog.info? 114).map (fun i => (i.zero, i.size, i.bytes)) = some (some (.int .u32 0), 1, 4) := by kernel_rfl
def OwnN (w : World) (base : Nat) (v : Value) (l : List Nat) : Prop := w.ownsRow base 114 1 v l.length (cellsN l)
theorem OwnN.nil (w : World) (base : Nat) : OwnN w base (.slice none 0 0) [] := World.ownsRow_nil _ _ _ _
theorem OwnN.below {w w' : World} {base : Nat} {v : Value} {l : List Nat} (h : OwnN w base v l) (hb : Below w.heap.size w w') : OwnN w' base v l := own_below h hb
theorem OwnN.empty (w : World) (base : Nat) (hb : base ≤ w.heap.size) : OwnN (w.alloc (.cells #[] 114)) base (.slice (some ⟨w.heap.size, 0, none⟩) 0 0) [] := by
  have := World.ownsRow_lit (base := base) (e := 114) (size := 1) w #[] 0 hb (by simp [maxLen]) (by simp)
  exact this
structure IsN (W : World) (A : Option Addr) (c : Nat) (l : List Nat) : Prop where
  at_ : At W W.heap.size A (cellsN l)
  nil : A = none → l.length = 0 ∧ c = 0
  cap : l.length ≤ c
  max : c ≤ 9223372036854775807
  ok : Digs l
theorem IsN.below {W W' : World} {A : Option Addr} {c : Nat} {l : List Nat} (h : IsN W A c l) (hb : Below W.heap.size W W') : IsN W' A c l := ⟨(h.at_.below hb).more hb.size, h.nil, h.cap, h.max, h.ok⟩
theorem OwnN.is {w : World} {base : Nat} {v : Value} {l : List Nat} (h : OwnN w base v l) (hd : Digs l) : ∃ A c, v = .slice A l.length c ∧ IsN w A c l := by
  rcases h.2 with ⟨rfl, hn⟩ | ⟨g, cap, cur, rfl, hb, hg, hn, hm, hs, ht⟩
  · exact ⟨none, 0, by rw [hn], by
      have : l = [] := List.eq_nil_of_length_eq_zero hn
      subst this
      exact At.nil _ _ _, fun _ => ⟨hn, rfl⟩, by omega, by omega, hd⟩
  · exact ⟨_, cap, rfl, At.of_own h, fun e => (by cases e), hn, by unfold maxLen at hm; omega, hd⟩
theorem IsN.digit {W : World} {A : Option Addr} {c i : Nat} {l : List Nat} (h : IsN W A c l) (hi : i < l.length) :
    ∃ b off, A = some ⟨b, off, none⟩ ∧ b < W.heap.size ∧ ∀ (j : Nat) (hj : j < l.length), W.cell? ⟨b, off + j, none⟩ = some (.int .u32 ((l[j] : Nat) : Int)) := by
  obtain ⟨b, off, e, hb, hc⟩ := h.at_ (by rw [cellsN_length]; omega)
  exact ⟨b, off, e, hb, fun j hj => hc j _ (by simp [cellsN, List.getElem?_eq_getElem hj])⟩
theorem At.takeN {w : World} {B : Nat} {A : Option Addr} {l : List Nat} (h : At w B A (cellsN l)) (m : Nat) : At w B A (cellsN (l.take m)) := fun hp => by
  rw [cellsN_length, List.length_take] at hp
  obtain ⟨b, off, e, hb, hc⟩ := h (by rw [cellsN_length]; omega)
  refine ⟨b, off, e, hb, fun j u hu => hc j u ?_⟩
  simp only [cellsN, List.map_take] at hu ⊢
  rw [List.getElem?_take] at hu
  split at hu
  · exact hu
  · cases hu
theorem app_nats {ops : Array Oper} {rest : List Oper} {o : Oper} {a : Act} {Q : Exit → Act → World → Prop} {w : World} (base : Nat) (v : Value) (l m : List Nat) (A : Option Addr) (c : Nat)
    (s x : Operand) (ho : o.op = .call { callee := .builtin .append, args := #[s, x], argTypes := #[25, 25] }) (hw : Region.wanted o (yielded ops a.tmps) = true)
    (hs : a.eval s = v) (hx : a.eval x = .slice A m.length c) (hown : OwnN w base v l) (hat : At w w.heap.size A (cellsN m)) (hnil : A = none → m.length = 0 ∧ c = 0) (hl : l.length + m.length ≤ 1073741824) (hbase : base ≤ w.heap.size)
    (h : ∀ v' w', OwnN w' base v' (l ++ m) → Grew w w' base v v' → wpList Tryz.prog ops Q rest (a.put o.dst v') w') : wpList Tryz.prog ops Q (o :: rest) a w := by
  obtain ⟨i0, hi0, hz0, hz1, hz2⟩ := info_parts u32_info
  refine app_gen s x _ 114 i0 (.int .u32 0) 1 4 ho hw Tryz.underlying25 hi0 hz0 hz1 hz2 rfl (by decide) base v l.length (cellsN l) hs hown A m.length c (cellsN m) hx hat (by rw [cellsN_length]; omega) hnil (cellsN_one _) (by simp only [maxLen]; omega) (by omega) hbase ?_
  intro v' w' h2 h3
  refine h v' w' ?_ h3
  unfold OwnN
  rw [cellsN_append, List.length_append]
  exact h2
theorem app_digit {ops : Array Oper} {rest : List Oper} {o : Oper} {a : Act} {Q : Exit → Act → World → Prop} {w : World} (base : Nat) (v : Value) (l : List Nat) (c : Int) (d : Nat)
    (s x : Operand) (hgd : o.guard = none) (ho : o.op = .call { callee := .builtin .append, args := #[s, x], argTypes := #[25, 25] })
    (hs : a.eval s = v) (hx : a.eval x = .slice (some ⟨w.heap.size, 0, none⟩) 1 1) (hown : OwnN w base v l) (hc : c = d) (hl : l.length ≤ 1073741823) (hbase : base ≤ w.heap.size)
    (h : ∀ v' w', OwnN w' base v' (l ++ [d]) → Grew w w' base v v' → wpList Tryz.prog ops Q rest (a.put o.dst v') w') :
    wpList Tryz.prog ops Q (o :: rest) a (w.alloc (.cells #[.int .u32 c] 114)) := by
  obtain ⟨i0, hi0, hz0, hz1, hz2⟩ := info_parts u32_info
  refine wpList_append_own_at _ hgd s x _ ho base 114 i0 (.int .u32 0) 1 4 Tryz.underlying25 hi0 hz0 hz1 hz2 rfl (by decide) v l.length (cellsN l) hs (World.ownsRow.alloc hown _)
    ⟨w.heap.size, 0, none⟩ 1 1 [.int .u32 c] hx rfl (cell_one_new _ _ _) (by simp [Value.oneCell']) (by simp only [maxLen]; omega) (by omega) (by simp; omega) ?_
  intro v' w' hown' hgr _ hat
  refine h v' w' ?_ (grew_own hown ⟨_, .inl rfl⟩ hgr hat hbase)
  subst hc
  unfold OwnN
  rw [cellsN_append]
  simpa [cellsN] using hown'
def NatPost (n : Nat) (w : World) (e : Ending) (w' : World) : Prop := ∃ v, e = .returned v ∧ OwnN w' w.heap.size v (digs n) ∧ Below w.heap.size w w'
theorem NatPost.open_ {n : Nat} {w : World} {e : Ending} {w' : World} (h : NatPost n w e w') : ∃ A c, e = .returned (.slice A (digs n).length c) ∧ IsN w' A c (digs n) ∧ Below w.heap.size w w' := by
  obtain ⟨v, he, ho, hb⟩ := h
  obtain ⟨A, c, rfl, hi⟩ := ho.is (digs_lt n)
  exact ⟨A, c, he, hi, hb⟩
end Go.Proofs.YtpinhcdcnaaihaaGreatDoor
namespace Go.Proofs.YtpinhcdcnaaihaaGreatDoor
open Go.RowKit
set_option maxRecDepth 100000 in
set_option maxHeartbeats 1000000 in
theorem norm_any (A : Option Addr) (c : Nat) (ds : List Nat) (w : World) (h : IsN w A c ds) (hl : ds.length ≤ 1073741823) :
    Calls Tryz.prog 57 #[.slice A ds.length c] w (NatPost (nval ds) w) := by
  have HI := Lib.hid h
  have hcap := h.cap
  have hmax := h.max
  clear h
  go_enter Tryz.func57, Tryz.ntmps57
  go_wp2
  go_loop [3] (fun i => ∃ k : Nat, k ≤ ds.length ∧ i = .int .i64 k ∧ (∀ (j : Nat) (hj : j < ds.length), k ≤ j → ds[j] = 0)) (fun i => (intOf i).toNat)
  case atStart => exact ⟨ds.length, Nat.le_refl _, rfl, fun j hj h => by omega⟩
  case round =>
    obtain ⟨k, hk, rfl, hz⟩ := hrel
    have HZ := Lib.hid hz
    clear hz
    have EXIT : (k = 0 ∨ ∃ h : k - 1 < ds.length, ds[k - 1] ≠ 0) → ds.take k = digs (nval ds) := fun hl' => digs_take ds k hk HI.out.ok HZ.out hl'
    have HX := Lib.hid EXIT
    clear EXIT
    by_cases h0 : 0 < k
    · obtain ⟨b, off, rfl, hb, hc⟩ := HI.out.digit (i := k - 1) (by omega)
      have hce := hc (k - 1) (by omega)
      have HDK := Lib.hid (show ∃ h : k - 1 < ds.length, ds[k - 1] = ds[k - 1] from ⟨by omega, rfl⟩)
      obtain ⟨d, hd⟩ : ∃ d, ds[k - 1]'(by omega) = d := ⟨_, rfl⟩
      rw [hd] at hce
      have HD := Lib.hid hd
      clear hc hd HDK
      by_cases hd0 : d = 0
      · subst hd0
        go_wp2
        go_round
        case rel =>
          refine ⟨k - 1, by omega, by go_num, fun j hj h => ?_⟩
          by_cases e : j = k - 1
          · subst e; exact HD.out
          · exact HZ.out j hj (by omega)
        case measure => simp [intOf]; omega
      · have HT := Lib.hid (HX.out (.inr ⟨by omega, by rw [HD.out]; exact hd0⟩))
        have hd' : ((d : Int) == 0) = false := by simpa using hd0
        have hlen : (digs (nval ds)).length = k := by rw [← HT.out, List.length_take]; omega
        have HAT := Lib.hid (HI.out.at_.takeN k)
        rw [HT.out] at HAT
        have HLN := Lib.hid hlen
        clear hlen
        obtain ⟨W, hW, hbW, _, hzW⟩ := blk1 w 114 #[]
        have HO := Lib.hid (OwnN.empty w w.heap.size (Nat.le_refl _))
        rw [hW] at HO
        have HW := Lib.hid hW
        have HB := Lib.hid hbW
        have hsW := hbW.size
        clear hW hbW hzW
        go_wp2_with (at_builtin; rw [HW.out]; refine app_nats w.heap.size _ [] (digs (nval ds)) (some ⟨b, off, none⟩) c (.tmp 18) (.tmp 21) rfl rfl rfl (by rw [HLN.out]; rfl) HO.out ((HAT.out.below HB.out).more hsW) (fun h => by cases h) (by have := HLN.out; simp only [List.length_nil]; omega) hsW ?_; intro v2 w2 hown2 hgr2; have HO2 := Lib.hid hown2; have HR2 := Lib.hid hgr2; clear hown2 hgr2)
        go_ret
        exact ⟨v2, rfl, by simpa using HO2.out, HB.out.trans HR2.out.below⟩
    · obtain rfl : k = 0 := by omega
      have HT := Lib.hid (HX.out (.inl rfl))
      have hlen : (digs (nval ds)).length = 0 := by rw [← HT.out, List.length_take]; omega
      have HAT := Lib.hid (HI.out.at_.takeN 0)
      rw [HT.out] at HAT
      have HLN := Lib.hid hlen
      clear hlen
      obtain ⟨W, hW, hbW, _, hzW⟩ := blk1 w 114 #[]
      have HO := Lib.hid (OwnN.empty w w.heap.size (Nat.le_refl _))
      rw [hW] at HO
      have HW := Lib.hid hW
      have HB := Lib.hid hbW
      have hsW := hbW.size
      clear hW hbW hzW
      cases A with
      | none =>
        obtain ⟨hl0, rfl⟩ := HI.out.nil rfl
        go_wp2_with (at_builtin; rw [HW.out]; refine app_nats w.heap.size _ [] (digs (nval ds)) none 0 (.tmp 18) (.tmp 21) rfl rfl rfl (by rw [HLN.out]; rfl) HO.out ((HAT.out.below HB.out).more hsW) (fun _ => ⟨HLN.out, rfl⟩) (by have := HLN.out; simp only [List.length_nil]; omega) hsW ?_; intro v2 w2 hown2 hgr2; have HO2 := Lib.hid hown2; have HR2 := Lib.hid hgr2; clear hown2 hgr2)
        go_ret
        exact ⟨v2, rfl, by simpa using HO2.out, HB.out.trans HR2.out.below⟩
      | some a =>
        go_wp2_with (at_builtin; rw [HW.out]; refine app_nats w.heap.size _ [] (digs (nval ds)) (some a) c (.tmp 18) (.tmp 21) rfl rfl rfl (by rw [HLN.out]; rfl) HO.out ((HAT.out.below HB.out).more hsW) (fun h => by cases h) (by have := HLN.out; simp only [List.length_nil]; omega) hsW ?_; intro v2 w2 hown2 hgr2; have HO2 := Lib.hid hown2; have HR2 := Lib.hid hgr2; clear hown2 hgr2)
        go_ret
        exact ⟨v2, rfl, by simpa using HO2.out, HB.out.trans HR2.out.below⟩
end Go.Proofs.YtpinhcdcnaaihaaGreatDoor
namespace Go.Proofs.YtpinhcdcnaaihaaGreatDoor
open Go.RowKit
theorem digs_short {m n : Nat} (h : (digs m).length < (digs n).length) : m < n := by
  rcases Nat.lt_or_ge m n with h' | h'
  · exact h'
  · have := digs_length_mono h'; omega
theorem nval_split (a : List Nat) (k : Nat) (hk : k < a.length) : nval a = nval (a.take k) + 4294967296 ^ k * (a[k] + 4294967296 * nval (a.drop (k + 1))) := by
  have h : a = a.take k ++ a[k] :: a.drop (k + 1) := by rw [← List.drop_eq_getElem_cons hk, List.take_append_drop]
  have hl : (a.take k).length = k := by rw [List.length_take]; omega
  conv => lhs; rw [h]
  rw [nval_append, hl, nval]
theorem top_lt (a b : List Nat) (k : Nat) (ha : Digs a) (hl : a.length = b.length) (hk : k < a.length) (he : ∀ (j : Nat) (h1 : j < a.length) (h2 : j < b.length), k < j → a[j] = b[j]) (hlt : a[k] < b[k]'(by omega)) : nval a < nval b := by
  have hd : a.drop (k + 1) = b.drop (k + 1) := by
    apply List.ext_getElem
    · simp [hl]
    · intro j h1 h2
      simp only [List.getElem_drop]
      exact he _ _ _ (by omega)
  rw [nval_split a k hk, nval_split b k (by omega), hd]
  have h1 := nval_lt (a.take k) (fun d hd' => ha d (List.mem_of_mem_take hd'))
  have h2 : (a.take k).length = k := by rw [List.length_take]; omega
  rw [h2] at h1
  have h3 := Nat.mul_le_mul_left (4294967296 ^ k) (show a[k] + 4294967296 * nval (b.drop (k + 1)) + 1 ≤ b[k]'(by omega) + 4294967296 * nval (b.drop (k + 1)) by omega)
  rw [Nat.mul_add] at h3
  omega
theorem all_same (a b : List Nat) (hl : a.length = b.length) (he : ∀ (j : Nat) (h1 : j < a.length) (h2 : j < b.length), a[j] = b[j]) : a = b := List.ext_getElem hl fun j h1 h2 => he j h1 h2
theorem below_drewN {B n : Nat} {w W : World} (h : Below B w W) : Below B w (W.drewN n) := ⟨h.os, h.tape, h.output, h.size, h.block⟩
def CmpPost (x y : Nat) (w : World) (e : Ending) (w' : World) : Prop := e = .returned (.int .i64 (cmpI x y)) ∧ Below w.heap.size w w'
theorem cmpN_lt {x y : Nat} (h : x < y) : cmpI (x : Int) (y : Int) = -1 := cmpI_lt (by omega)
theorem cmpN_gt {x y : Nat} (h : y < x) : cmpI (x : Int) (y : Int) = 1 := cmpI_gt (by omega)
theorem cmpN_eq {x y : Nat} (h : x = y) : cmpI (x : Int) (y : Int) = 0 := cmpI_eq (by omega) (by omega)
set_option maxRecDepth 100000 in
set_option maxHeartbeats 2000000 in
theorem cmp_any (A B : Option Addr) (ca cb : Nat) (x y : List Nat) (w : World) (hA : IsN w A ca x) (hB : IsN w B cb y) (hlx : x.length ≤ 1073741823) (hly : y.length ≤ 1073741823) :
    Calls Tryz.prog 68 #[.slice A x.length ca, .slice B y.length cb] w (CmpPost (nval x) (nval y) w) := by
  have HA := Lib.hid hA
  have HB := Lib.hid hB
  clear hA hB
  have hdx : (digs (nval x)).length ≤ x.length := digs_length_le (nval_lt x HA.out.ok)
  have hdy : (digs (nval y)).length ≤ y.length := digs_length_le (nval_lt y HB.out.ok)
  go_enter Tryz.func68, Tryz.ntmps68
  go_wp2_with fail
  refine (norm_any A ca x _ HA.out hlx).mono ?_
  intro e w1 h1
  obtain ⟨A1, c1, rfl, hi1, hb1⟩ := h1.open_
  have HI1 := Lib.hid hi1
  have HB1 := Lib.hid hb1
  have hs1 := hb1.size
  clear h1 hi1 hb1
  go_wp2_with fail
  refine (norm_any B cb y _ (HB.out.below HB1.out) hly).mono ?_
  intro e w2 h2
  obtain ⟨A2, c2, rfl, hi2, hb2⟩ := h2.open_
  have HI2 := Lib.hid hi2
  have HI1 := Lib.hid (HI1.out.below hb2)
  have HB2 := Lib.hid (below_then HB1.out hb2 hs1)
  have hs2 : w.heap.size ≤ w2.heap.size := Nat.le_trans hs1 hb2.size
  clear h2 hi2 hb2
  generalize hX : nval x = X at HI1 hdx ⊢
  generalize hY : nval y = Y at HI2 hdy ⊢
  have HXE := Lib.hid hX
  have HYE := Lib.hid hY
  clear hX hY
  obtain ⟨a, ha⟩ : ∃ a, digs X = a := ⟨_, rfl⟩
  obtain ⟨b, hb⟩ : ∃ b, digs Y = b := ⟨_, rfl⟩
  have HVA : Hid (nval a = X) := by rw [← ha]; exact nval_digs X
  have HVB : Hid (nval b = Y) := by rw [← hb]; exact nval_digs Y
  have HSH := Lib.hid (@digs_short X Y)
  have HSH2 := Lib.hid (@digs_short Y X)
  rw [ha, hb] at HSH HSH2
  rw [ha] at HI1 hdx ⊢
  rw [hb] at HI2 hdy ⊢
  clear ha hb
  by_cases hne : a.length = b.length
  · have HNE := Lib.hid hne
    have g1 : ((a.length : Int) == (b.length : Int)) = true := by rw [beq_iff_eq]; omega
    have g2 : ((a.length : Int) != (b.length : Int)) = false := by rw [bne_eq_false_iff_eq]; omega
    clear hne
    go_wp2
    go_loopw [7] (fun i wr => ∃ k : Nat, k ≤ a.length ∧ i = .int .i64 ((k : Int) - 1) ∧ (∀ (j : Nat) (h1 : j < a.length) (h2 : j < b.length), k ≤ j → a[j] = b[j]) ∧ Below w2.heap.size w2 wr) (fun i _ => (intOf i + 1).toNat)
    case atStart => exact ⟨a.length, Nat.le_refl _, rfl, fun j h1 h2 h => by omega, Below.refl _ _⟩
    case round =>
      obtain ⟨k, hk, rfl, he, hbw⟩ := hrel
      have HEQ := Lib.hid he
      have HBW := Lib.hid hbw
      have HF := Lib.hid (below_then HB2.out hbw hs2)
      clear he hbw
      cases k with
      | zero =>
        have HXY := Lib.hid (show X = Y by rw [← HVA.out, ← HVB.out, all_same a b HNE.out (fun j h1 h2 => HEQ.out j h1 h2 (by omega))])
        go_wp2
        go_ret
        exact ⟨by rw [HXE.out, HYE.out, cmpN_eq HXY.out]; rfl, HF.out⟩
      | succ k =>
        rw [show ((k + 1 : Nat) : Int) - 1 = (k : Int) by omega]
        obtain ⟨b1, o1, rfl, hb1, hc1⟩ := (HI1.out.below HBW.out).digit (i := k) (by omega)
        obtain ⟨b2, o2, rfl, hb2, hc2⟩ := (HI2.out.below HBW.out).digit (i := k) (by have := HNE.out; omega)
        have c1 := hc1 k (by omega)
        have c2 := hc2 k (by have := HNE.out; omega)
        have hkb : k < b.length := by have := HNE.out; omega
        have hka : k < a.length := by omega
        have HLT : Hid (a[k]'hka < b[k]'hkb → nval a < nval b) := (fun h => top_lt a b k HI1.out.ok HNE.out (by omega) (fun j h1 h2 h' => HEQ.out j h1 h2 (by omega)) h)
        have HGT : Hid (b[k]'hkb < a[k]'hka → nval b < nval a) := (fun h => top_lt b a k HI2.out.ok HNE.out.symm hkb (fun j h1 h2 h' => (HEQ.out j h2 h1 (by omega)).symm) h)
        rw [HVA.out, HVB.out] at HLT HGT
        obtain ⟨p, hp⟩ : ∃ p, a[k]'(by omega) = p := ⟨_, rfl⟩
        obtain ⟨q, hq⟩ : ∃ q, b[k] = q := ⟨_, rfl⟩
        have HP := Lib.hid hp
        have HQ := Lib.hid hq
        rw [hp] at c1
        rw [hq] at c2
        clear hc1 hc2 hp hq
        have k0 : (0 : Int) ≤ (k : Int) := by omega
        have k1 : (k : Int) < (a.length : Int) := by omega
        have k2 : (k : Int) < (b.length : Int) := by omega
        rcases Nat.lt_trichotomy p q with hpq | hpq | hpq
        · have HR := Lib.hid (HLT.out (by rw [HP.out, HQ.out]; exact hpq))
          have t1 : decide ((p : Int) < (q : Int)) = true := by simp; omega
          go_wp2
          go_quiet (fail)
          go_wp2
          go_ret
          exact ⟨by rw [HXE.out, HYE.out, cmpN_lt HR.out]; rfl, below_drewN HF.out⟩
        · subst hpq
          go_wp2
          go_quiet (fail)
          go_wp2
          go_quiet (fail)
          go_wp2
          go_roundw
          case rel =>
            refine ⟨k, by omega, by go_num, fun j h1 h2 h => ?_, by first | exact below_drewN (below_drewN HBW.out) | exact below_drewN HBW.out⟩
            by_cases e : j = k
            · subst e; rw [HP.out, HQ.out]
            · exact HEQ.out j h1 h2 (by omega)
          case measure => simp [intOf]
        · have HR := Lib.hid (HGT.out (by rw [HP.out, HQ.out]; exact hpq))
          have t1 : decide ((p : Int) < (q : Int)) = false := by simp; omega
          have t2 : decide ((q : Int) < (p : Int)) = true := by simp; omega
          go_wp2
          go_quiet (fail)
          go_wp2
          go_quiet (fail)
          go_wp2
          go_ret
          exact ⟨by rw [HXE.out, HYE.out, cmpN_gt HR.out]; rfl, by first | exact below_drewN (below_drewN HF.out) | exact below_drewN HF.out⟩
  · have g1 : ((a.length : Int) == (b.length : Int)) = false := by rw [beq_eq_false_iff_ne]; omega
    have g2 : ((a.length : Int) != (b.length : Int)) = true := by rw [bne_iff_ne]; omega
    rcases Nat.lt_or_ge a.length b.length with hlt | hge
    · have HR := Lib.hid (HSH.out hlt)
      go_wp2
      go_ret
      exact ⟨by rw [HXE.out, HYE.out, cmpN_lt HR.out]; rfl, HB2.out⟩
    · have hgt : b.length < a.length := by omega
      have HR := Lib.hid (HSH2.out hgt)
      go_wp2
      go_ret
      exact ⟨by rw [HXE.out, HYE.out, cmpN_gt HR.out]; rfl, HB2.out⟩
end Go.Proofs.YtpinhcdcnaaihaaGreatDoor
