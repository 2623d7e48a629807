/-
  Natural numbers as lists of digits (base 2^32, the lowest first), in plain words; rows of digits in memory.
-/
import Derived.Test.YtpjfkhbdhdolfaaDoorAppo
import Derived.Test.YtpjfkhbdhdolfaaDoorIsb
namespace Go.Proofs.YtpjfkhbdhdolfaaDoor
open Go.RowKit

def nval : List Nat → Nat
  | [] => 0
  | d :: l => d + 4294967296 * nval l
/-- Every digit is one. -/
def Digs (l : List Nat) : Prop := ∀ d ∈ l, d < 4294967296
def digsF : Nat → Nat → List Nat
  | 0, _ => []
  | k + 1, n => if n = 0 then [] else (n % 4294967296) :: digsF k (n / 4294967296)
/-- The digits of a number, without leading zeros. -/
def digs (n : Nat) : List Nat := digsF n n
theorem digsF_enough : ∀ (k m n : Nat), n ≤ k → n ≤ m → digsF k n = digsF m n
  | 0, m, n, hk, _ => by
    obtain rfl : n = 0 := by omega
    cases m <;> simp [digsF]
  | k + 1, 0, n, _, hm => by
    obtain rfl : n = 0 := by omega
    simp [digsF]
  | k + 1, m + 1, n, hk, hm => by
    simp only [digsF]
    split
    · rfl
    · rw [digsF_enough k m (n / 4294967296) (by omega) (by omega)]
theorem digs_zero : digs 0 = [] := rfl
theorem digs_step {n : Nat} (h : n ≠ 0) : digs n = (n % 4294967296) :: digs (n / 4294967296) := by
  unfold digs
  obtain ⟨k, rfl⟩ : ∃ k, n = k + 1 := ⟨n - 1, by omega⟩
  rw [digsF, if_neg h, digsF_enough k ((k + 1) / 4294967296) _ (by omega) (Nat.le_refl _)]
theorem nval_digs (n : Nat) : nval (digs n) = n := by
  induction n using Nat.strongRecOn with
  | ind n ih =>
    by_cases h : n = 0
    · subst h; rfl
    · rw [digs_step h, nval, ih (n / 4294967296) (by omega)]; omega
theorem digs_lt (n : Nat) : Digs (digs n) := by
  induction n using Nat.strongRecOn with
  | ind n ih =>
    by_cases h : n = 0
    · subst h; intro d hd; simp [digs_zero] at hd
    · rw [digs_step h]
      intro d hd
      rcases List.mem_cons.1 hd with rfl | hd
      · omega
      · exact ih (n / 4294967296) (by omega) d hd
theorem digs_nil {n : Nat} : digs n = [] ↔ n = 0 := by
  constructor
  · intro h
    have := nval_digs n
    rw [h] at this
    exact this.symm
  · rintro rfl; rfl
theorem digs_len0 {n : Nat} : (digs n).length = 0 ↔ n = 0 := by rw [List.length_eq_zero_iff, digs_nil]
/-- A list whose last digit is not 0 is the digits of its number. -/
theorem digs_of : ∀ (l : List Nat), Digs l → (∀ h : l ≠ [], l.getLast h ≠ 0) → l = digs (nval l)
  | [], _, _ => rfl
  | d :: l, hd, hl => by
    have hd0 : d < 4294967296 := hd d (List.mem_cons_self ..)
    cases l with
    | nil =>
      have h0 : d ≠ 0 := hl (by simp)
      simp only [nval, Nat.mul_zero, Nat.add_zero]
      rw [digs_step h0, Nat.mod_eq_of_lt hd0, Nat.div_eq_of_lt hd0, digs_zero]
    | cons c l =>
      have ih := digs_of (c :: l) (fun x hx => hd x (List.mem_cons_of_mem _ hx)) (fun h => by have := hl (by simp); rwa [List.getLast_cons h] at this)
      have hn : nval (c :: l) ≠ 0 := fun e => by rw [e, digs_zero] at ih; cases ih
      generalize c :: l = m at *
      simp only [nval]
      rw [digs_step (by omega), show (d + 4294967296 * nval m) % 4294967296 = d by omega, show (d + 4294967296 * nval m) / 4294967296 = nval m by omega, ← ih]
theorem nval_append : ∀ (a b : List Nat), nval (a ++ b) = nval a + 4294967296 ^ a.length * nval b
  | [], b => by simp [nval]
  | d :: a, b => by
    have := nval_append a b
    simp only [List.cons_append, nval, this, List.length_cons, Nat.pow_succ, Nat.mul_add]
    rw [Nat.mul_comm (4294967296 ^ a.length) 4294967296, Nat.mul_assoc]
    omega
theorem nval_zeros : ∀ (l : List Nat), (∀ d ∈ l, d = 0) → nval l = 0
  | [], _ => rfl
  | d :: l, h => by
    have h1 := h d (List.mem_cons_self ..)
    have h2 := nval_zeros l (fun x hx => h x (List.mem_cons_of_mem _ hx))
    simp [nval, h1, h2]
/-- The digits ahead of the zeros on top. -/
theorem digs_take (ds : List Nat) (k : Nat) (hk : k ≤ ds.length) (hd : Digs ds) (h0 : ∀ (j : Nat) (hj : j < ds.length), k ≤ j → ds[j] = 0) (hl : k = 0 ∨ ∃ h : k - 1 < ds.length, ds[k - 1] ≠ 0) : ds.take k = digs (nval ds) := by
  have e : nval ds = nval (ds.take k) := by
    rw [← List.take_append_drop k ds, nval_append, nval_zeros (ds.drop k), List.take_append_drop]
    · simp
    · intro d hd'
      obtain ⟨j, hj, rfl⟩ := List.getElem_of_mem hd'
      rw [List.getElem_drop]
      exact h0 _ _ (by omega)
  rw [e]
  refine digs_of _ (fun d hd' => hd d (List.mem_of_mem_take hd')) fun h => ?_
  rcases hl with rfl | ⟨hlt, hne⟩
  · simp at h
  · have hk0 : k ≠ 0 := fun e => by subst e; simp at h
    rw [List.getLast_eq_getElem]
    have hlen : (ds.take k).length = k := by rw [List.length_take]; omega
    simp only [List.getElem_take, hlen]
    exact hne
theorem nval_lt : ∀ (l : List Nat), Digs l → nval l < 4294967296 ^ l.length
  | [], _ => by simp [nval]
  | d :: l, h => by
    have h1 := h d (List.mem_cons_self ..)
    have h2 := nval_lt l (fun x hx => h x (List.mem_cons_of_mem _ hx))
    simp only [nval, List.length_cons, Nat.pow_succ]
    omega
theorem digs_length_le {n k : Nat} (h : n < 4294967296 ^ k) : (digs n).length ≤ k := by
  induction k generalizing n with
  | zero =>
    obtain rfl : n = 0 := by simpa using h
    simp [digs_zero]
  | succ k ih =>
    by_cases h0 : n = 0
    · subst h0; simp [digs_zero]
    · rw [digs_step h0]
      rw [Nat.pow_succ] at h
      have := ih (n := n / 4294967296) (by rw [Nat.div_lt_iff_lt_mul (by decide)]; exact h)
      simp; omega
theorem digs_length_mono {m n : Nat} (h : m ≤ n) : (digs m).length ≤ (digs n).length := by
  refine digs_length_le ?_
  have := nval_lt (digs n) (digs_lt n)
  rw [nval_digs] at this
  omega

/-- Digits as cells. -/
def cellsN (l : List Nat) : List Value := l.map fun (d : Nat) => .int .u32 (d : Int)
theorem cellsN_length (l : List Nat) : (cellsN l).length = l.length := by simp [cellsN]
theorem cellsN_append (a b : List Nat) : cellsN (a ++ b) = cellsN a ++ cellsN b := by simp [cellsN]
theorem cellsN_one (l : List Nat) : ∀ u ∈ cellsN l, u.oneCell' = true := by
  intro u hu
  simp only [cellsN, List.mem_map] at hu
  obtain ⟨c, _, rfl⟩ := hu
  rfl
theorem u32_info : (Tryd.prog.info? 89).map (fun i => (i.zero, i.size, i.bytes)) = some (some (.int .u32 0), 1, 4) := by kernel_rfl
/-- A row of digits of the call's own. -/
def OwnN (w : World) (base : Nat) (v : Value) (l : List Nat) : Prop := w.ownsRow base 89 1 v l.length (cellsN l)
theorem OwnN.nil (w : World) (base : Nat) : OwnN w base (.slice none 0 0) [] := World.ownsRow_nil _ _ _ _
theorem OwnN.below {w w' : World} {base : Nat} {v : Value} {l : List Nat} (h : OwnN w base v l) (hb : Below w.heap.size w w') : OwnN w' base v l := own_below h hb
theorem OwnN.empty (w : World) (base : Nat) (hb : base ≤ w.heap.size) : OwnN (w.alloc (.cells #[] 89)) base (.slice (some ⟨w.heap.size, 0, none⟩) 0 0) [] := by
  have := World.ownsRow_lit (base := base) (e := 89) (size := 1) w #[] 0 hb (by simp [maxLen]) (by simp)
  exact this
/-- A slice that reads as these digits. -/
structure IsN (W : World) (A : Option Addr) (c : Nat) (l : List Nat) : Prop where
  at_ : At W W.heap.size A (cellsN l)
  nil : A = none → l.length = 0 ∧ c = 0
  cap : l.length ≤ c
  max : c ≤ 9223372036854775807
  ok : Digs l
theorem IsN.below {W W' : World} {A : Option Addr} {c : Nat} {l : List Nat} (h : IsN W A c l) (hb : Below W.heap.size W W') : IsN W' A c l := ⟨(h.at_.below hb).more hb.size, h.nil, h.cap, h.max, h.ok⟩
theorem OwnN.is {w : World} {base : Nat} {v : Value} {l : List Nat} (h : OwnN w base v l) (hd : Digs l) : ∃ A c, v = .slice A l.length c ∧ IsN w A c l := by
  rcases h.2 with ⟨rfl, hn⟩ | ⟨g, cap, cur, rfl, hb, hg, hn, hm, hs, ht⟩
  · exact ⟨none, 0, by rw [hn], by
      have : l = [] := List.eq_nil_of_length_eq_zero hn
      subst this
      exact At.nil _ _ _, fun _ => ⟨hn, rfl⟩, by omega, by omega, hd⟩
  · exact ⟨_, cap, rfl, At.of_own h, fun e => (by cases e), hn, by unfold maxLen at hm; omega, hd⟩
theorem IsN.digit {W : World} {A : Option Addr} {c i : Nat} {l : List Nat} (h : IsN W A c l) (hi : i < l.length) :
    ∃ b off, A = some ⟨b, off, none⟩ ∧ b < W.heap.size ∧ ∀ (j : Nat) (hj : j < l.length), W.cell? ⟨b, off + j, none⟩ = some (.int .u32 ((l[j] : Nat) : Int)) := by
  obtain ⟨b, off, e, hb, hc⟩ := h.at_ (by rw [cellsN_length]; omega)
  exact ⟨b, off, e, hb, fun j hj => hc j _ (by simp [cellsN, List.getElem?_eq_getElem hj])⟩
theorem At.takeN {w : World} {B : Nat} {A : Option Addr} {l : List Nat} (h : At w B A (cellsN l)) (m : Nat) : At w B A (cellsN (l.take m)) := fun hp => by
  rw [cellsN_length, List.length_take] at hp
  obtain ⟨b, off, e, hb, hc⟩ := h (by rw [cellsN_length]; omega)
  refine ⟨b, off, e, hb, fun j u hu => hc j u ?_⟩
  simp only [cellsN, List.map_take] at hu ⊢
  rw [List.getElem?_take] at hu
  split at hu
  · exact hu
  · cases hu
/-- append(x, y...) of digits. -/
theorem app_nats {ops : Array Oper} {rest : List Oper} {o : Oper} {a : Act} {Q : Exit → Act → World → Prop} {w : World} (base : Nat) (v : Value) (l m : List Nat) (A : Option Addr) (c : Nat)
    (s x : Operand) (ho : o.op = .call { callee := .builtin .append, args := #[s, x], argTypes := #[55, 55] }) (hw : Region.wanted o (yielded ops a.tmps) = true)
    (hs : a.eval s = v) (hx : a.eval x = .slice A m.length c) (hown : OwnN w base v l) (hat : At w w.heap.size A (cellsN m)) (hnil : A = none → m.length = 0 ∧ c = 0) (hl : l.length + m.length ≤ 1073741824) (hbase : base ≤ w.heap.size)
    (h : ∀ v' w', OwnN w' base v' (l ++ m) → Grew w w' base v v' → wpList Tryd.prog ops Q rest (a.put o.dst v') w') : wpList Tryd.prog ops Q (o :: rest) a w := by
  obtain ⟨i0, hi0, hz0, hz1, hz2⟩ := info_parts u32_info
  refine app_gen s x _ 89 i0 (.int .u32 0) 1 4 ho hw Tryd.underlying55 hi0 hz0 hz1 hz2 rfl (by decide) base v l.length (cellsN l) hs hown A m.length c (cellsN m) hx hat (by rw [cellsN_length]; omega) hnil (cellsN_one _) (by simp only [maxLen]; omega) (by omega) hbase ?_
  intro v' w' h2 h3
  refine h v' w' ?_ h3
  unfold OwnN
  rw [cellsN_append, List.length_append]
  exact h2
/-- append(x, d) of one digit. -/
theorem app_digit {ops : Array Oper} {rest : List Oper} {o : Oper} {a : Act} {Q : Exit → Act → World → Prop} {w : World} (base : Nat) (v : Value) (l : List Nat) (c : Int) (d : Nat)
    (s x : Operand) (hgd : o.guard = none) (ho : o.op = .call { callee := .builtin .append, args := #[s, x], argTypes := #[55, 55] })
    (hs : a.eval s = v) (hx : a.eval x = .slice (some ⟨w.heap.size, 0, none⟩) 1 1) (hown : OwnN w base v l) (hc : c = d) (hl : l.length ≤ 1073741823) (hbase : base ≤ w.heap.size)
    (h : ∀ v' w', OwnN w' base v' (l ++ [d]) → Grew w w' base v v' → wpList Tryd.prog ops Q rest (a.put o.dst v') w') :
    wpList Tryd.prog ops Q (o :: rest) a (w.alloc (.cells #[.int .u32 c] 89)) := by
  obtain ⟨i0, hi0, hz0, hz1, hz2⟩ := info_parts u32_info
  refine wpList_append_own_at _ hgd s x _ ho base 89 i0 (.int .u32 0) 1 4 Tryd.underlying55 hi0 hz0 hz1 hz2 rfl (by decide) v l.length (cellsN l) hs (World.ownsRow.alloc hown _)
    ⟨w.heap.size, 0, none⟩ 1 1 [.int .u32 c] hx rfl (cell_one_new _ _ _) (by simp [Value.oneCell']) (by simp only [maxLen]; omega) (by omega) (by simp; omega) ?_
  intro v' w' hown' hgr _ hat
  refine h v' w' ?_ (grew_own hown ⟨_, .inl rfl⟩ hgr hat hbase)
  subst hc
  unfold OwnN
  rw [cellsN_append]
  simpa [cellsN] using hown'
/-- What a function returns that returns a number: a new row of its digits. -/
def NatPost (n : Nat) (w : World) (e : Ending) (w' : World) : Prop := ∃ v, e = .returned v ∧ OwnN w' w.heap.size v (digs n) ∧ Below w.heap.size w w'
theorem NatPost.open_ {n : Nat} {w : World} {e : Ending} {w' : World} (h : NatPost n w e w') : ∃ A c, e = .returned (.slice A (digs n).length c) ∧ IsN w' A c (digs n) ∧ Below w.heap.size w w' := by
  obtain ⟨v, he, ho, hb⟩ := h
  obtain ⟨A, c, rfl, hi⟩ := ho.is (digs_lt n)
  exact ⟨A, c, he, hi, hb⟩
end Go.Proofs.YtpjfkhbdhdolfaaDoor
