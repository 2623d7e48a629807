import Derived.Test.YtpinhcdcnaaihaaGreatDoorA01
import Derived.Deep.AppendLies
import Derived.Laws.AppendOwnNone
namespace Go.Proofs.YtpinhcdcnaaihaaGreatDoor
open Go.RowKit
inductive Tree where
  | any
  | sc (v : Value)
  | sl (es : List Tree)
  | tl (es : List Tree)
  | agg (cs : List Tree)
  | tup (ts : List Tree)
  | ref (cs : List Tree)
  | box (b off : Nat)
  | own (k : Nat)
  | elp (k off : Nat)
def Tree.cells : Tree → List Tree
  | .agg cs => cs
  | t => [t]
def flat (es : List Tree) : List Tree := es.flatMap Tree.cells
theorem flat_cons (e : Tree) (es : List Tree) : flat (e :: es) = e.cells ++ flat es := rfl
theorem flat_append (a b : List Tree) : flat (a ++ b) = flat a ++ flat b := by simp [flat]
def Sized (n : Nat) (es : List Tree) : Prop := ∀ e ∈ es, e.cells.length = n
theorem Sized.tail {n : Nat} {e : Tree} {es : List Tree} (h : Sized n (e :: es)) : Sized n es := fun x hx => h x (List.mem_cons_of_mem _ hx)
theorem Sized.flat {n : Nat} : ∀ {es : List Tree}, Sized n es → (flat es).length = es.length * n
  | [], _ => by simp [Go.Proofs.YtpinhcdcnaaihaaGreatDoor.flat]
  | e :: es, h => by rw [flat_cons, List.length_append, h e (List.mem_cons_self ..), Sized.flat h.tail, List.length_cons, Nat.add_mul]; omega
theorem Sized.append {n : Nat} {a b : List Tree} (h : Sized n a) (h' : Sized n b) : Sized n (a ++ b) := fun x hx => by
  rcases List.mem_append.1 hx with h1 | h1
  · exact h x h1
  · exact h' x h1
theorem Sized.map {n : Nat} {α : Type} (f : α → Tree) (l : List α) (h : ∀ a, (f a).cells.length = n) : Sized n (l.map f) := fun x hx => by
  obtain ⟨a, _, rfl⟩ := List.mem_map.1 hx
  exact h a
theorem flat_at {n : Nat} : ∀ {es : List Tree}, Sized n es → ∀ (i : Nat) (h : i < es.length) (j : Nat), j < n → (flat es)[i * n + j]? = es[i].cells[j]?
  | e :: es, hs, 0, _, j, hj => by
    rw [flat_cons, Nat.zero_mul, Nat.zero_add, List.getElem?_append_left (by rw [hs e (List.mem_cons_self ..)]; exact hj)]
    rfl
  | e :: es, hs, i + 1, h, j, hj => by
    have := flat_at hs.tail i (by simpa using h) j hj
    rw [flat_cons, List.getElem?_append_right (by rw [hs e (List.mem_cons_self ..), Nat.add_mul]; omega), hs e (List.mem_cons_self ..), show (i + 1) * n + j - n = i * n + j by rw [Nat.add_mul]; omega, this]
    rfl
theorem flat_take {n : Nat} : ∀ {es : List Tree}, Sized n es → ∀ k, flat (es.take k) = (flat es).take (k * n)
  | [], _, k => by simp [flat]
  | e :: es, hs, 0 => by simp [flat]
  | e :: es, hs, k + 1 => by
    have he : e.cells.length = n := hs e (List.mem_cons_self ..)
    rw [List.take_succ_cons, flat_cons, flat_cons, flat_take hs.tail k, List.take_append, he]
    rw [List.take_of_length_le (l := e.cells) (by rw [he, Nat.add_mul]; omega), show (k + 1) * n - n = k * n by rw [Nat.add_mul]; omega]
theorem flat_drop {n : Nat} : ∀ {es : List Tree}, Sized n es → ∀ k, flat (es.drop k) = (flat es).drop (k * n)
  | [], _, k => by simp [flat]
  | e :: es, hs, 0 => by simp
  | e :: es, hs, k + 1 => by
    have he : e.cells.length = n := hs e (List.mem_cons_self ..)
    rw [List.drop_succ_cons, flat_cons, flat_drop hs.tail k, List.drop_append, he]
    rw [List.drop_of_length_le (l := e.cells) (by rw [he, Nat.add_mul]; omega), show (k + 1) * n - n = k * n by rw [Nat.add_mul]; omega, List.nil_append]
inductive PT (W : World) (G : Nat → Prop) : List Value → List Tree → Prop
  | nil : PT W G [] []
  | sc {us : List Value} {ts : List Tree} (v : Value) (h : PT W G us ts) : PT W G (v :: us) (.sc v :: ts)
  | sl0 {us : List Value} {ts : List Tree} (A : Option Addr) (c : Nat) (hA : A = none → c = 0) (hm : c ≤ 9223372036854775807) (h : PT W G us ts) : PT W G (.slice A 0 c :: us) (.sl [] :: ts)
  | sl {us : List Value} {ts : List Tree} (b off c n : Nat) (xs : List Value) (es : List Tree) (hb : b < W.heap.size) (hG : ¬ G b) (hc : ∀ (j : Nat) u, xs[j]? = some u → W.cell? ⟨b, off + j, none⟩ = some u) (hl : n = es.length) (hn : es.length ≤ c) (hm : c ≤ 9223372036854775807) (hx : PT W G xs (flat es)) (h : PT W G us ts) : PT W G (.slice (some ⟨b, off, none⟩) n c :: us) (.sl es :: ts)
  | tl {us : List Value} {ts : List Tree} (A : Option Addr) (n : Nat) (es : List Tree) (hl : n = es.length) (hs : PT W G [.slice A n n] [.sl es]) (h : PT W G us ts) : PT W G (.slice A n n :: us) (.tl es :: ts)
  | agg {us : List Value} {ts : List Tree} (xs : List Value) (cs : List Tree) (hx : PT W G xs cs) (h : PT W G us ts) : PT W G (.agg xs.toArray :: us) (.agg cs :: ts)
  | tup {us : List Value} {ts : List Tree} (xs : List Value) (cs : List Tree) (hx : PT W G xs cs) (h : PT W G us ts) : PT W G (.tuple xs.toArray :: us) (.tup cs :: ts)
  | ref {us : List Value} {ts : List Tree} (b off : Nat) (xs : List Value) (cs : List Tree) (hb : b < W.heap.size) (hG : ¬ G b) (hc : ∀ (j : Nat) u, xs[j]? = some u → W.cell? ⟨b, off + j, none⟩ = some u) (hx : PT W G xs cs) (h : PT W G us ts) : PT W G (.pointer (some ⟨b, off, none⟩) :: us) (.ref cs :: ts)
section
variable {W W' : World} {G G' : Nat → Prop} {us : List Value} {ts : List Tree}
theorem PT.mono (h : PT W G us ts) (hs : W.heap.size ≤ W'.heap.size) (hk : ∀ b, b < W.heap.size → ¬ G b → W'.heap[b]? = W.heap[b]? ∧ ¬ G' b) : PT W' G' us ts := by
  induction h with
  | nil => exact .nil
  | sc v _ ih => exact .sc v ih
  | sl0 A c hA hm _ ih => exact .sl0 A c hA hm ih
  | sl b off c n xs es hb hG hc hl hn hm _ _ ih1 ih2 => exact .sl b off c n xs es (by omega) (hk b hb hG).2 (fun j u hu => by rw [← hc j u hu]; exact World.cell?_of_block (hk b hb hG).1) hl hn hm ih1 ih2
  | tl A n es hl _ _ ih1 ih2 => exact .tl A n es hl ih1 ih2
  | agg xs cs _ _ ih1 ih2 => exact .agg xs cs ih1 ih2
  | tup xs cs _ _ ih1 ih2 => exact .tup xs cs ih1 ih2
  | ref b off xs cs hb hG hc _ _ ih1 ih2 => exact .ref b off xs cs (by omega) (hk b hb hG).2 (fun j u hu => by rw [← hc j u hu]; exact World.cell?_of_block (hk b hb hG).1) ih1 ih2
theorem PT.later (h : PT W G us ts) (hb : Below W.heap.size W W') : PT W' G us ts := h.mono hb.size fun b hlt hG => ⟨hb.block b hlt, hG⟩
theorem PT.length (h : PT W G us ts) : us.length = ts.length := by induction h <;> simp_all
theorem PT.head {u : Value} {t : Tree} (h : PT W G (u :: us) (t :: ts)) : PT W G [u] [t] := by
  cases h with
  | sc => exact .sc _ .nil
  | sl0 A c hA hm _ => exact .sl0 A c hA hm .nil
  | sl b off c n xs es hb hG hc hl hn hm hx _ => exact .sl b off c n xs es hb hG hc hl hn hm hx .nil
  | tl A n es hl hs _ => exact .tl A n es hl hs .nil
  | agg xs cs hx _ => exact .agg xs cs hx .nil
  | tup xs cs hx _ => exact .tup xs cs hx .nil
  | ref b off xs cs hb hG hc hx _ => exact .ref b off xs cs hb hG hc hx .nil
theorem PT.tail {u : Value} {t : Tree} (h : PT W G (u :: us) (t :: ts)) : PT W G us ts := by
  cases h <;> assumption
theorem PT.cons {u : Value} {t : Tree} (h : PT W G [u] [t]) (h' : PT W G us ts) : PT W G (u :: us) (t :: ts) := by
  cases h with
  | sc => exact .sc _ h'
  | sl0 A c hA hm _ => exact .sl0 A c hA hm h'
  | sl b off c n xs es hb hG hc hl hn hm hx _ => exact .sl b off c n xs es hb hG hc hl hn hm hx h'
  | tl A n es hl hs _ => exact .tl A n es hl hs h'
  | agg xs cs hx _ => exact .agg xs cs hx h'
  | tup xs cs hx _ => exact .tup xs cs hx h'
  | ref b off xs cs hb hG hc hx _ => exact .ref b off xs cs hb hG hc hx h'
end
theorem PT.append {W : World} {G : Nat → Prop} : ∀ {us vs : List Value} {ts ss : List Tree}, PT W G us ts → PT W G vs ss → PT W G (us ++ vs) (ts ++ ss)
  | [], _, [], _, _, h' => h'
  | [], _, t :: ts, _, h, _ => by cases h
  | u :: us, _, [], _, h, _ => by cases h
  | u :: us, _, t :: ts, _, h, h' => h.head.cons (PT.append h.tail h')
theorem PT.take {W : World} {G : Nat → Prop} : ∀ {us : List Value} {ts : List Tree} (k : Nat), PT W G us ts → PT W G (us.take k) (ts.take k)
  | [], [], k, _ => by simpa using .nil
  | [], t :: ts, _, h => by cases h
  | u :: us, [], _, h => by cases h
  | u :: us, t :: ts, 0, _ => .nil
  | u :: us, t :: ts, k + 1, h => h.head.cons (PT.take k h.tail)
theorem PT.drop {W : World} {G : Nat → Prop} : ∀ {us : List Value} {ts : List Tree} (k : Nat), PT W G us ts → PT W G (us.drop k) (ts.drop k)
  | [], [], k, _ => by simpa using .nil
  | [], t :: ts, _, h => by cases h
  | u :: us, [], _, h => by cases h
  | u :: us, t :: ts, 0, h => h
  | u :: us, t :: ts, k + 1, h => PT.drop k h.tail
theorem PT.get {W : World} {G : Nat → Prop} : ∀ {us : List Value} {ts : List Tree}, PT W G us ts → ∀ (i : Nat) (t : Tree), ts[i]? = some t → ∃ u, us[i]? = some u ∧ PT W G [u] [t]
  | [], [], _, i, t, h => by simp at h
  | [], _ :: _, h, _, _, _ => by cases h
  | _ :: _, [], h, _, _, _ => by cases h
  | u :: us, t :: ts, h, 0, s, e => by
    simp only [List.getElem?_cons_zero, Option.some.injEq] at e
    subst e
    exact ⟨u, rfl, h.head⟩
  | u :: us, t :: ts, h, i + 1, s, e => by
    obtain ⟨v, h1, h2⟩ := h.tail.get i s (by simpa using e)
    exact ⟨v, by simpa using h1, h2⟩
theorem PT.slice {W : World} {G : Nat → Prop} {v : Value} {es : List Tree} (h : PT W G [v] [.sl es]) : ∃ A c, v = .slice A es.length c ∧ es.length ≤ c ∧ c ≤ 9223372036854775807 ∧ (A = none → c = 0) ∧ (0 < es.length → ∃ b off xs, A = some ⟨b, off, none⟩ ∧ b < W.heap.size ∧ ¬ G b ∧ (∀ (j : Nat) u, xs[j]? = some u → W.cell? ⟨b, off + j, none⟩ = some u) ∧ PT W G xs (flat es)) := by
  cases h with
  | sl0 A c hA hm _ => exact ⟨A, c, rfl, by simp, hm, hA, fun h => by simp at h⟩
  | sl b off c n xs es hb hG hc hl hn hm hx _ => subst hl; exact ⟨_, c, rfl, hn, hm, (fun e => by cases e), fun _ => ⟨b, off, xs, rfl, hb, hG, hc, hx⟩⟩
structure En where
  W : World
  G : Nat → Prop
  bx : Nat → Option Nat
  rv : Nat → Option Value
inductive FT (E : En) : List Value → List Tree → Prop
  | nil : FT E [] []
  | pure {us : List Value} {ts : List Tree} {v : Value} {t : Tree} (h : PT E.W E.G [v] [t]) (hs : FT E us ts) : FT E (v :: us) (t :: ts)
  | any {us : List Value} {ts : List Tree} (v : Value) (hs : FT E us ts) : FT E (v :: us) (.any :: ts)
  | box {us : List Value} {ts : List Tree} (b off g : Nat) (hb : E.bx b = some g) (hs : FT E us ts) : FT E (.pointer (some ⟨g, off, none⟩) :: us) (.box b off :: ts)
  | own {us : List Value} {ts : List Tree} (k n c : Nat) (A : Option Addr) (hv : E.rv k = some (.slice A n c)) (hs : FT E us ts) : FT E (.slice A n c :: us) (.own k :: ts)
  | elp {us : List Value} {ts : List Tree} (k off g n c : Nat) (hv : E.rv k = some (.slice (some ⟨g, 0, none⟩) n c)) (hs : FT E us ts) : FT E (.pointer (some ⟨g, off, none⟩) :: us) (.elp k off :: ts)
  | agg {us : List Value} {ts : List Tree} (xs : List Value) (cs : List Tree) (hx : FT E xs cs) (hs : FT E us ts) : FT E (.agg xs.toArray :: us) (.agg cs :: ts)
  | tup {us : List Value} {ts : List Tree} (xs : List Value) (cs : List Tree) (hx : FT E xs cs) (hs : FT E us ts) : FT E (.tuple xs.toArray :: us) (.tup cs :: ts)
section
variable {E E' : En} {us : List Value} {ts : List Tree}
theorem FT.mono (h : FT E us ts) (hs : E.W.heap.size ≤ E'.W.heap.size) (hk : ∀ b, b < E.W.heap.size → ¬ E.G b → E'.W.heap[b]? = E.W.heap[b]? ∧ ¬ E'.G b) (hb : ∀ b g, E.bx b = some g → E'.bx b = some g) (hr : ∀ k v, E.rv k = some v → E'.rv k = some v) : FT E' us ts := by
  induction h with
  | nil => exact .nil
  | pure h _ ih => exact .pure (h.mono hs hk) ih
  | any v _ ih => exact .any v ih
  | box b off g h _ ih => exact .box b off g (hb b g h) ih
  | own k n c A h _ ih => exact .own k n c A (hr k _ h) ih
  | elp k off g n c h _ ih => exact .elp k off g n c (hr k _ h) ih
  | agg xs cs _ _ ih1 ih2 => exact .agg xs cs ih1 ih2
  | tup xs cs _ _ ih1 ih2 => exact .tup xs cs ih1 ih2
theorem FT.length (h : FT E us ts) : us.length = ts.length := by induction h <;> simp_all
theorem FT.head {u : Value} {t : Tree} (h : FT E (u :: us) (t :: ts)) : FT E [u] [t] := by
  cases h with
  | pure h _ => exact .pure h .nil
  | any => exact .any _ .nil
  | box b off g h _ => exact .box b off g h .nil
  | own k n c A h _ => exact .own k n c A h .nil
  | elp k off g n c h _ => exact .elp k off g n c h .nil
  | agg xs cs hx _ => exact .agg xs cs hx .nil
  | tup xs cs hx _ => exact .tup xs cs hx .nil
theorem FT.tail {u : Value} {t : Tree} (h : FT E (u :: us) (t :: ts)) : FT E us ts := by cases h <;> assumption
theorem FT.cons {u : Value} {t : Tree} (h : FT E [u] [t]) (h' : FT E us ts) : FT E (u :: us) (t :: ts) := by
  cases h with
  | pure h _ => exact .pure h h'
  | any => exact .any _ h'
  | box b off g h _ => exact .box b off g h h'
  | own k n c A h _ => exact .own k n c A h h'
  | elp k off g n c h _ => exact .elp k off g n c h h'
  | agg xs cs hx _ => exact .agg xs cs hx h'
  | tup xs cs hx _ => exact .tup xs cs hx h'
end
theorem FT.of : ∀ {E : En} {us : List Value} {ts : List Tree}, PT E.W E.G us ts → FT E us ts
  | _, [], [], _ => .nil
  | _, [], _ :: _, h => by cases h
  | _, _ :: _, [], h => by cases h
  | _, u :: us, t :: ts, h => .pure h.head (FT.of h.tail)
theorem FT.get {E : En} : ∀ {us : List Value} {ts : List Tree}, FT E us ts → ∀ (i : Nat) (t : Tree), ts[i]? = some t → ∃ u, us[i]? = some u ∧ FT E [u] [t]
  | [], [], _, i, t, h => by simp at h
  | [], _ :: _, h, _, _, _ => by cases h
  | _ :: _, [], h, _, _, _ => by cases h
  | u :: us, t :: ts, h, 0, s, e => by
    simp only [List.getElem?_cons_zero, Option.some.injEq] at e
    subst e
    exact ⟨u, rfl, h.head⟩
  | u :: us, t :: ts, h, i + 1, s, e => by
    obtain ⟨v, h1, h2⟩ := h.tail.get i s (by simpa using e)
    exact ⟨v, by simpa using h1, h2⟩
theorem FT.take {E : En} : ∀ {us : List Value} {ts : List Tree} (k : Nat), FT E us ts → FT E (us.take k) (ts.take k)
  | [], [], k, _ => by simpa using .nil
  | [], t :: ts, _, h => by cases h
  | u :: us, [], _, h => by cases h
  | u :: us, t :: ts, 0, _ => .nil
  | u :: us, t :: ts, k + 1, h => h.head.cons (FT.take k h.tail)
theorem FT.drop {E : En} : ∀ {us : List Value} {ts : List Tree} (k : Nat), FT E us ts → FT E (us.drop k) (ts.drop k)
  | [], [], k, _ => by simpa using .nil
  | [], t :: ts, _, h => by cases h
  | u :: us, [], _, h => by cases h
  | u :: us, t :: ts, 0, h => h
  | u :: us, t :: ts, k + 1, h => FT.drop k h.tail
theorem FT.append {E : En} : ∀ {us vs : List Value} {ts ss : List Tree}, FT E us ts → FT E vs ss → FT E (us ++ vs) (ts ++ ss)
  | [], _, [], _, _, h' => h'
  | [], _, t :: ts, _, h, _ => by cases h
  | u :: us, _, [], _, h, _ => by cases h
  | u :: us, _, t :: ts, _, h, h' => h.head.cons (FT.append h.tail h')
section
variable {E : En} {v : Value}
theorem FT.isSc {x : Value} (h : FT E [v] [.sc x]) : v = x := by
  cases h with
  | pure h _ => cases h; rfl
theorem FT.isSl {es : List Tree} (h : FT E [v] [.sl es]) : PT E.W E.G [v] [.sl es] := by
  cases h with
  | pure h _ => exact h
theorem FT.isRef {cs : List Tree} (h : FT E [v] [.ref cs]) : ∃ b off xs, v = .pointer (some ⟨b, off, none⟩) ∧ b < E.W.heap.size ∧ ¬ E.G b ∧ (∀ (j : Nat) u, xs[j]? = some u → E.W.cell? ⟨b, off + j, none⟩ = some u) ∧ PT E.W E.G xs cs := by
  cases h with
  | pure h _ =>
    cases h with
    | ref b off xs cs hb hG hc hx _ => exact ⟨b, off, xs, rfl, hb, hG, hc, hx⟩
theorem FT.isAgg {cs : List Tree} (h : FT E [v] [.agg cs]) : ∃ xs, v = .agg xs.toArray ∧ FT E xs cs := by
  cases h with
  | pure h _ =>
    cases h with
    | agg xs cs hx _ => exact ⟨xs, rfl, .of hx⟩
  | agg xs cs hx _ => exact ⟨xs, rfl, hx⟩
theorem FT.isTup {cs : List Tree} (h : FT E [v] [.tup cs]) : ∃ xs, v = .tuple xs.toArray ∧ FT E xs cs := by
  cases h with
  | pure h _ =>
    cases h with
    | tup xs cs hx _ => exact ⟨xs, rfl, .of hx⟩
  | tup xs cs hx _ => exact ⟨xs, rfl, hx⟩
theorem FT.isBox {b off : Nat} (h : FT E [v] [.box b off]) : ∃ g, E.bx b = some g ∧ v = .pointer (some ⟨g, off, none⟩) := by
  cases h with
  | pure h _ => cases h
  | box b off g hb _ => exact ⟨g, hb, rfl⟩
theorem FT.isOwn {k : Nat} (h : FT E [v] [.own k]) : E.rv k = some v ∧ ∃ A n c, v = .slice A n c := by
  cases h with
  | pure h _ => cases h
  | own k n c A hv _ => exact ⟨hv, A, n, c, rfl⟩
theorem FT.isElp {k off : Nat} (h : FT E [v] [.elp k off]) : ∃ g n c, E.rv k = some (.slice (some ⟨g, 0, none⟩) n c) ∧ v = .pointer (some ⟨g, off, none⟩) := by
  cases h with
  | pure h _ => cases h
  | elp k off g n c hv _ => exact ⟨g, n, c, hv, rfl⟩
end
def Tree.plain0 : Tree → Bool
  | .sc _ | .sl _ | .tl _ | .ref _ => true
  | _ => false
def Tree.plain : Tree → Bool
  | .sc _ | .sl _ | .tl _ | .ref _ => true
  | .agg cs => cs.all Tree.plain0
  | .tup cs => cs.all fun t => match t with
    | .agg ds => ds.all Tree.plain0
    | t => t.plain0
  | _ => false
def Tree.one : Tree → Bool
  | .sc v => v.oneCell'
  | .sl _ | .tl _ | .ref _ | .box _ _ | .own _ | .elp _ _ => true
  | _ => false
theorem FT.one {E : En} {v : Value} {t : Tree} (h : FT E [v] [t]) (ho : t.one = true) : v.oneCell' = true := by
  cases h with
  | pure h _ =>
    cases h with
    | sc => exact ho
    | sl0 => rfl
    | sl => rfl
    | tl => rfl
    | agg => simp [Tree.one] at ho
    | tup => simp [Tree.one] at ho
    | ref => rfl
  | any => simp [Tree.one] at ho
  | box => rfl
  | own => rfl
  | elp => rfl
  | agg => simp [Tree.one] at ho
  | tup => simp [Tree.one] at ho
theorem FT.ones {E : En} : ∀ {us : List Value} {ts : List Tree}, FT E us ts → ts.all Tree.one = true → ∀ u ∈ us, u.oneCell' = true
  | [], [], _, _, u, hu => by simp at hu
  | [], _ :: _, h, _, _, _ => by cases h
  | _ :: _, [], h, _, _, _ => by cases h
  | x :: us, t :: ts, h, hp, u, hu => by
    simp only [List.all_cons, Bool.and_eq_true] at hp
    rcases List.mem_cons.1 hu with rfl | hu
    · exact h.head.one hp.1
    · exact FT.ones h.tail hp.2 u hu
theorem FT.plain0 {E : En} {v : Value} {t : Tree} (h : FT E [v] [t]) (hp : t.plain0 = true) : PT E.W E.G [v] [t] := by
  cases t <;> simp only [Tree.plain0, Bool.false_eq_true] at hp <;> cases h <;> assumption
theorem FT.plain0s {E : En} : ∀ {us : List Value} {ts : List Tree}, FT E us ts → ts.all Tree.plain0 = true → PT E.W E.G us ts
  | [], [], _, _ => .nil
  | [], _ :: _, h, _ => by cases h
  | _ :: _, [], h, _ => by cases h
  | u :: us, t :: ts, h, hp => by
    simp only [List.all_cons, Bool.and_eq_true] at hp
    exact (h.head.plain0 hp.1).cons (FT.plain0s h.tail hp.2)
theorem FT.plain1 {E : En} {v : Value} {cs : List Tree} (h : FT E [v] [.agg cs]) (hp : cs.all Tree.plain0 = true) : PT E.W E.G [v] [.agg cs] := by
  obtain ⟨xs, rfl, hx⟩ := h.isAgg
  exact .agg xs cs (hx.plain0s hp) .nil
theorem FT.plain {E : En} {v : Value} {t : Tree} (h : FT E [v] [t]) (hp : t.plain = true) : PT E.W E.G [v] [t] := by
  cases t with
  | sc _ => exact h.plain0 rfl
  | sl _ => exact h.plain0 rfl
  | tl _ => exact h.plain0 rfl
  | ref _ => exact h.plain0 rfl
  | agg cs => exact h.plain1 hp
  | tup cs =>
    obtain ⟨xs, rfl, hx⟩ := h.isTup
    refine .tup xs cs ?_ .nil
    clear h
    simp only [Tree.plain] at hp
    induction cs generalizing xs with
    | nil => cases hx; exact .nil
    | cons c cs ih =>
      cases xs with
      | nil => cases hx
      | cons x xs =>
        simp only [List.all_cons, Bool.and_eq_true] at hp
        refine PT.cons ?_ (ih hp.2 xs hx.tail)
        have h1 := hx.head
        cases c with
        | agg ds => exact h1.plain1 hp.1
        | _ => exact h1.plain0 hp.1
  | _ => simp [Tree.plain] at hp
theorem FT.plains {E : En} : ∀ {us : List Value} {ts : List Tree}, FT E us ts → ts.all Tree.plain = true → PT E.W E.G us ts
  | [], [], _, _ => .nil
  | [], _ :: _, h, _ => by cases h
  | _ :: _, [], h, _ => by cases h
  | u :: us, t :: ts, h, hp => by
    simp only [List.all_cons, Bool.and_eq_true] at hp
    exact (h.head.plain hp.1).cons (FT.plains h.tail hp.2)
end Go.Proofs.YtpinhcdcnaaihaaGreatDoor
namespace Go.Proofs.YtpinhcdcnaaihaaGreatDoor
open Go.RowKit
theorem own_below {w w' : World} {base : Nat} {e : TypeId} {size n : Nat} {v : Value} {xs : List Value} (h : w.ownsRow base e size v n xs) (hb : Below w.heap.size w w') : w'.ownsRow base e size v n xs :=
  h.kept (row := none) ⟨hb.os, hb.tape, hb.output, hb.size, fun i hi _ => hb.block i hi⟩ (by cases v.ownBlock <;> simp)
def Far (v : Value) (k : Nat) : Prop := v.ownBlock ≠ some k
structure Grew (w w' : World) (base : Nat) (v v' : Value) : Prop where
  size : w.heap.size ≤ w'.heap.size
  kept : ∀ k, k < w.heap.size → Far v k → w'.heap[k]? = w.heap[k]?
  far : ∀ k, k < w.heap.size → Far v k → Far v' k
  below : Below base w w'
theorem own_other {w w' : World} {base : Nat} {e : TypeId} {size n g : Nat} {v : Value} {xs : List Value} (h : w.ownsRow base e size v n xs) (hf : v.ownBlock ≠ some g) (hk : ∀ k, k ≠ g → w'.heap[k]? = w.heap[k]?) : w'.ownsRow base e size v n xs := by
  refine ⟨h.1, ?_⟩
  rcases h.2 with h2 | ⟨g', cap, cur, rfl, hb, hg, h3⟩
  · exact .inl h2
  · refine .inr ⟨g', cap, cur, rfl, hb, ?_, h3⟩
    rw [hk g' (fun e => hf (by rw [e]; rfl))]; exact hg
end Go.Proofs.YtpinhcdcnaaihaaGreatDoor
namespace Go.Proofs.YtpinhcdcnaaihaaGreatDoor
open Go.RowKit
theorem grew_own {w w1 w' : World} {base : Nat} {v v' : Value} {e : TypeId} {size n : Nat} {xs : List Value} (hown : w.ownsRow base e size v n xs) (hw : ∃ o, w1 = w.alloc o ∨ w1 = w) (hgr : w1.grownBy w' v.ownBlock) (hat : v'.ownBlock = v.ownBlock ∨ v'.ownBlock = some w1.heap.size) (hbase : base ≤ w.heap.size) : Grew w w' base v v' := by
  have hz : w.heap.size ≤ w1.heap.size := by rcases hw with ⟨o, rfl | rfl⟩ <;> simp
  have hk : ∀ k, k < w.heap.size → w1.heap[k]? = w.heap[k]? := fun k hk => by
    rcases hw with ⟨o, rfl | rfl⟩
    · exact Below.heap_alloc w o k hk
    · rfl
  have hb : Below w.heap.size w w1 := by
    rcases hw with ⟨o, rfl | rfl⟩
    · exact (Below.refl _ _).alloc (Nat.le_refl _) _
    · exact Below.refl _ _
  refine ⟨Nat.le_trans hz hgr.size, fun k h1 h2 => (hgr.block k (by omega) (fun e => h2 e.symm)).trans (hk k h1), fun k h1 h2 e => ?_, (hb.mono hbase).grown hgr (by omega) (fun k e => (hown.lt k e).1)⟩
  rcases hat with h | h <;> rw [h] at e
  · exact h2 e
  · injection e with e; omega
end Go.Proofs.YtpinhcdcnaaihaaGreatDoor
namespace Go.Proofs.YtpinhcdcnaaihaaGreatDoor
open Go.RowKit
theorem wpList_wanted {P : Program} {ops : Array Oper} {rest : List Oper} {o : Oper} {a : Act} {w : World} {Q : Exit → Act → World → Prop} (hw : Region.wanted o (yielded ops a.tmps) = true)
    (h : ∀ K : Act → World → Prop, (∀ a' w', wpList P ops Q rest a' w' → K a' w') → o.wp P a w K Q) : wpList P ops Q (o :: rest) a w := by
  unfold wpList
  rw [if_pos hw]
  exact .inl (h _ fun _ _ h => h)
theorem At.news {w : World} {B : Nat} {ad : Addr} {xs : List Value} (h : At w B (some ad) xs) : ∀ j u, xs[j]? = some u → w.cell? (ad.add j) = some u := fun j u hu => by
  have hp : 0 < xs.length := by have := (List.getElem?_eq_some_iff.1 hu).1; omega
  obtain ⟨b, off, e, _, hc⟩ := h hp
  injection e with e
  subst e
  rw [show (⟨b, off, none⟩ : Addr).add j = ⟨b, off + j, none⟩ from by unfold Addr.add; split <;> simp_all]
  exact hc j u hu
theorem app_gen {ops : Array Oper} {rest : List Oper} {o : Oper} {a : Act} {Q : Exit → Act → World → Prop} {w : World} (s x : Operand) (t e : TypeId) (i : TypeInfo) (z : Value) (size bytes : Nat)
    (ho : o.op = .call { callee := .builtin .append, args := #[s, x], argTypes := #[t, t] }) (hw : Region.wanted o (yielded ops a.tmps) = true)
    (ht : Tryz.prog.underlying t = some (.slice e)) (hi : Tryz.prog.info? e = some i) (hz : i.zero = some z) (hsize : i.size = size) (hby : i.bytes = bytes) (hzs : z.cells.size = size) (hsz : 0 < size)
    (base : Nat) (v : Value) (n : Nat) (xs : List Value) (hs : a.eval s = v) (hown : w.ownsRow base e size v n xs) (A : Option Addr) (m c : Nat) (news : List Value) (hx : a.eval x = .slice A m c) (hat : At w w.heap.size A news)
    (hl : news.length = m * size) (hnil : A = none → m = 0 ∧ c = 0) (h1 : ∀ u ∈ news, u.oneCell' = true) (h63 : n + m ≤ maxLen) (hbytes : (n + m) * bytes ≤ 140737488355328) (hbase : base ≤ w.heap.size)
    (h : ∀ v' w', w'.ownsRow base e size v' (n + m) (xs ++ news) → Grew w w' base v v' → wpList Tryz.prog ops Q rest (a.put o.dst v') w') : wpList Tryz.prog ops Q (o :: rest) a w := by
  refine wpList_wanted hw fun K hK => ?_
  cases A with
  | none =>
    obtain ⟨rfl, rfl⟩ := hnil rfl
    have hn : news = [] := List.eq_nil_of_length_eq_zero (by simpa using hl)
    subst hn
    have hrun := run_append_owned_none (P := Tryz.prog) (w := w) base t o.type e i size ht hi v n xs hown
    unfold Oper.wp
    simp only [execOp, ho, resolve, invoke, builtin, Sem.run_bind, Sem.run_pure, Result.andThen_ok, List.map_toArray, List.map_cons, List.map_nil, hs, hx, hrun]
    exact hK _ _ (h v w (by simpa using hown) ⟨Nat.le_refl _, fun _ _ _ => rfl, fun _ _ h => h, Below.refl _ _⟩)
  | some ad =>
    obtain ⟨v', w', hr, h2, h3, _, h5⟩ := run_append_own_at (P := Tryz.prog) w base t o.type e i z size bytes ht hi hz hsize hby hzs hsz v n xs hown ad m c news hl hat.news h1 h63 hbytes hbase
    unfold Oper.wp execOp
    simp only [ho, resolve, invoke, builtin, Sem.run_bind, Sem.run_pure, Result.andThen_ok, List.map_toArray, List.map_cons, List.map_nil, hs, hx, hr]
    exact hK _ _ (h v' w' h2 (grew_own hown ⟨.cells #[] 0, .inr rfl⟩ h3 h5 hbase))
end Go.Proofs.YtpinhcdcnaaihaaGreatDoor
