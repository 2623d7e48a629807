import Derived.Test.YtpinhcdcnaaihaaGreatDoorA33
import Derived.Lib.ConvBytes
import Derived.Laws.Strings
namespace Go.Proofs.YtpinhcdcnaaihaaGreatDoor
noncomputable def pureRun (P : Program) {α : Type} : Sem α → Option α
  | .pure a => some a
  | .program k => pureRun P (k P)
  | .mark _ k => pureRun P k
  | _ => none
theorem pureRun_of {P : Program} {α : Type} {s : Sem α} {a : α} (w : World) (h : pureRun P s = some a) : s.run P w = .ok a w := by
  induction s with
  | pure b =>
    simp only [pureRun, Option.some.injEq] at h
    subst h
    rfl
  | program k ih =>
    simp only [pureRun] at h
    exact ih P h
  | mark m k ih =>
    simp only [pureRun] at h
    exact ih h
  | _ => simp [pureRun] at h
noncomputable def cln (n : Nat) : Value → Bool := Nat.rec (fun _ => false) (fun _ ih v => match v with | .agg cs => List.rec true (fun a _ r => cond (ih a) r false) cs.toList | v => scV v) n
theorem VL.clean {P : Program} {E : EE} : ∀ (n : Nat) {u v : Value}, VL P E [u] [v] → cln n v = true → u = v
  | 0, _, _, _, h => by cases h
  | n + 1, u, v, hv, h => by
    have sc : scV v = true → u = v := fun hs => by
      cases hv with
      | sc => rfl
      | any => cases hs
      | fn f xs cs xs' cs' hx hx' _ =>
        simp only [scV, Bool.and_eq_true] at hs
        have e1 : cs.length = 0 := Nat.eq_of_beq_eq_true hs.1
        have e2 : cs'.length = 0 := Nat.eq_of_beq_eq_true hs.2
        have l1 := hx.length
        have l2 := hx'.length
        have : cs = [] := List.eq_nil_of_length_eq_zero e1
        subst this
        have : cs' = [] := List.eq_nil_of_length_eq_zero e2
        subst this
        have : xs = [] := List.eq_nil_of_length_eq_zero l1
        subst this
        have : xs' = [] := List.eq_nil_of_length_eq_zero l2
        subst this
        rfl
      | _ => cases hs
    cases v with
    | agg cs =>
      obtain ⟨xs, rfl, hx⟩ := hv.aggr
      have key : ∀ (l m : List Value), VL P E m l → (List.rec (motive := fun _ => Bool) true (fun a _ r => cond (cln n a) r false) l) = true → m = l := fun l => by
        induction l with
        | nil => intro m hm _; cases m with
          | nil => rfl
          | cons _ _ => cases hm
        | cons a l ih =>
          intro m hm hc
          have hc : cond (cln n a) _ false = true := hc
          cases hca : cln n a with
          | false => rw [hca] at hc; cases hc
          | true =>
            rw [hca] at hc
            cases m with
            | nil => cases hm
            | cons b m =>
              rw [VL.clean n hm.head hca, ih m hm.tail hc]
      have := key cs.toList xs.toList hx h
      rw [Array.ext' this]
    | _ => exact sc h
noncomputable def forceV (v : Value) (A : AH) : Rs :=
  match v with
  | .int k (.ofNat n) => forceN n fun n => some (.int k (.ofNat n), A)
  | .int k (.negSucc n) => forceN n fun n => some (.int k (.negSucc n), A)
  | .bool b => cond b (some (.bool true, A)) (some (.bool false, A))
  | v => cond (scV v) (some (v, A)) none
theorem forceV_of {v v' : Value} {A A' : AH} (h : forceV v A = some (v', A')) : v' = v ∧ A' = A ∧ scV v = true := by
  unfold forceV at h
  split at h
  · rw [forceN_eq] at h; cases h; exact ⟨rfl, rfl, rfl⟩
  · rw [forceN_eq] at h; cases h; exact ⟨rfl, rfl, rfl⟩
  · next b => cases b <;> cases h <;> exact ⟨rfl, rfl, rfl⟩
  · obtain ⟨h1, h2⟩ := cond_of h
    cases h2
    exact ⟨rfl, rfl, h1⟩
section
variable {P : Program} {base : Nat} {sl : Slo} {A : AH} {o : Oper}
noncomputable def evPB (P : Program) (A : AH) (op : BinOp) (t : TypeId) (x y : Operand) (a b : Value) : Rs := cond (cln 4 a && cln 4 b) (bnd (pureRun P (do eqGuard op t x y a b; binOp op t a b)) fun v => forceV v A) none
noncomputable def limK : IntKind → Nat
  | .i8 => 128 | .i16 => 32768 | .i32 => 2147483648 | .i64 => 9223372036854775808 | .u8 => 256 | .u16 => 65536 | .u32 => 4294967296 | .u64 => 18446744073709551616
theorem wrap_lim {k : IntKind} {n : Nat} (h : n < limK k) : k.wrap (n : Int) = n := by
  cases k <;> simp only [limK] at h <;> simp only [IntKind.wrap, IntKind.bits, IntKind.signed] <;> simp <;> omega
noncomputable def bV (b : Bool) (A : AH) : Rs := cond b (some (.bool true, A)) (some (.bool false, A))
theorem bV_of {b : Bool} {A A' : AH} {v : Value} (h : bV b A = some (v, A')) : v = .bool b ∧ A' = A := by cases b <;> cases h <;> exact ⟨rfl, rfl⟩
noncomputable def kEq (a b : IntKind) : Bool := Nat.beq (limK a) (limK b)
theorem kEq_of {a b : IntKind} (h : kEq a b = true) : a = b := by
  have := Nat.eq_of_beq_eq_true h
  cases a <;> cases b <;> first | rfl | (simp [limK] at this)
noncomputable def natOp (op : BinOp) (k : IntKind) (a b : Nat) (A : AH) (e : Rs) : Rs :=
  match op with
  | .add => forceN (a + b) fun c => cond (Nat.blt c (limK k)) (some (.int k (.ofNat c), A)) e
  | .sub => cond (Nat.ble b a && Nat.blt a (limK k)) (forceN (a - b) fun c => some (.int k (.ofNat c), A)) e
  | .mul => forceN (a * b) fun c => cond (Nat.blt c (limK k)) (some (.int k (.ofNat c), A)) e
  | .eql => bV (Nat.beq a b) A
  | .neq => bV (!Nat.beq a b) A
  | .lss => bV (Nat.blt a b) A
  | .leq => bV (Nat.ble a b) A
  | .gtr => bV (Nat.blt b a) A
  | .geq => bV (Nat.ble b a) A
  | _ => e
noncomputable def bEq (l : List UInt8) : List UInt8 → Bool := List.rec (fun m => List.rec true (fun _ _ _ => false) m) (fun a _ ih m => List.rec false (fun b m _ => cond (Nat.beq a.toNat b.toNat) (ih m) false) m) l
theorem bEq_eq : ∀ l m : List UInt8, bEq l m = (l == m)
  | [], [] => rfl
  | [], _ :: _ => rfl
  | _ :: _, [] => rfl
  | a :: l, b :: m => by
    show cond (Nat.beq a.toNat b.toNat) (bEq l m) false = _
    rw [bEq_eq l m, List.cons_beq_cons]
    cases h : Nat.beq a.toNat b.toNat with
    | true =>
      have : a = b := UInt8.toNat_inj.1 (Nat.eq_of_beq_eq_true h)
      subst this
      simp
    | false =>
      have : (a == b) = false := by
        cases h2 : a == b with
        | false => rfl
        | true =>
          have := eq_of_beq h2
          subst this
          simp at h
      rw [this]; rfl
theorem bytes_eq {a b : ByteArray} (h : a.data.toList = b.data.toList) : a = b := by
  cases a
  cases b
  congr 1
  exact Array.ext' h
noncomputable def strOp (op : BinOp) (a b : ByteArray) (A : AH) (e : Rs) : Rs :=
  match op with
  | .add => cond (Nat.ble (lenR a.data.toList + lenR b.data.toList) 1099511627776) (forceL (appR a.data.toList b.data.toList) fun l => some (.string ⟨⟨l⟩⟩, A)) none
  | .eql => bV (bEq a.data.toList b.data.toList) A
  | .neq => bV (!bEq a.data.toList b.data.toList) A
  | _ => e
noncomputable def evBin (P : Program) (sl : Slo) (A : AH) (op : BinOp) (t : TypeId) (x y : Operand) : Rs :=
  match evO P sl x, evO P sl y with
  | .int k (.ofNat a), .int k' (.ofNat b) => cond (kEq k k') (natOp op k a b A (evPB P A op t x y (.int k (.ofNat a)) (.int k' (.ofNat b)))) (evPB P A op t x y (.int k (.ofNat a)) (.int k' (.ofNat b)))
  | .string a, .string b => strOp op a b A (evPB P A op t x y (.string a) (.string b))
  | .slice a _ _, .slice none 0 0 => match P.underlying t with
    | some (.slice _) => match op with
      | .eql => bV a.isNone A
      | .neq => bV a.isSome A
      | _ => none
    | _ => none
  | .pointer a, .pointer none => match P.underlying t with
    | some (.pointer _) => match op with
      | .eql => bV a.isNone A
      | .neq => bV a.isSome A
      | _ => none
    | _ => none
  | a, b => evPB P A op t x y a b
theorem pb_good {op : BinOp} {t yt : TypeId} {x y : Operand} {a b : Value} {E : EE} {w : World} {T : Nat → Value} {v : Value} {A' : AH} (ho : o.op = .binOp op t x y yt) (hx : VL P E [evF T x] [a]) (hy : VL P E [evF T y] [b]) (hR : RelA P E A base w) (he : evPB P A op t x y a b = some (v, A')) : OpY P o T w (Aft P E A' base w v) := by
  unfold evPB at he
  obtain ⟨h1, he⟩ := cond_of he
  simp only [Bool.and_eq_true] at h1
  obtain ⟨u, h2, he⟩ := bnd_of he
  obtain ⟨rfl, rfl, h3⟩ := forceV_of he
  have e1 := hx.clean 4 h1.1
  have e2 := hy.clean 4 h1.2
  have h4 := pureRun_of w h2
  refine .of_ok (v := v) (W' := w) ?_ (.here hR (.sc _ h3 .nil))
  simp only [execOp, ho, e1, e2]
  rw [Sem.run_bind, h4]
  rfl
theorem nat_beq (a b : Nat) : ((a : Int) == (b : Int)) = Nat.beq a b := by
  cases h : Nat.beq a b with
  | true =>
    have := Nat.eq_of_beq_eq_true h
    subst this
    simp
  | false =>
    have hne : a ≠ b := fun e => by subst e; simp at h
    simp
    omega
theorem nat_good {op : BinOp} {t yt : TypeId} {x y : Operand} {k : IntKind} {a b : Nat} {E : EE} {w : World} {T : Nat → Value} {v : Value} {A' : AH} {e : Rs} (ho : o.op = .binOp op t x y yt) (hx : evF T x = .int k a) (hy : evF T y = .int k b) (hR : RelA P E A base w) (hf : e = some (v, A') → OpY P o T w (Aft P E A' base w v)) (he : natOp op k a b A e = some (v, A')) : OpY P o T w (Aft P E A' base w v) := by
  have bool : ∀ c : Bool, bV c A = some (v, A') → (execOp (evF T) o).run P w = .ok (.value (.bool c)) w → OpY P o T w (Aft P E A' base w v) := fun c hc hr => by
    obtain ⟨rfl, rfl⟩ := bV_of hc
    exact .of_ok hr (.here hR (.sc _ rfl .nil))
  have num : ∀ c : Nat, c < limK k → some (Value.int k (.ofNat c), A) = some (v, A') → (execOp (evF T) o).run P w = .ok (.value (.int k (k.wrap (c : Int)))) w → OpY P o T w (Aft P E A' base w v) := fun c hc h hr => by
    cases h
    rw [wrap_lim hc] at hr
    exact .of_ok hr (.here hR (.sc _ rfl .nil))
  unfold natOp at he
  split at he
  · rw [forceN_eq] at he
    cases hc : Nat.blt (a + b) (limK k) with
    | true =>
      rw [hc] at he
      refine num _ (blt_of hc) he ?_
      simp [execOp, ho, hx, hy, eqGuard, binOp, Op.intArith]
    | false => rw [hc] at he; exact hf he
  · cases hc : (Nat.ble b a && Nat.blt a (limK k)) with
    | true =>
      rw [hc] at he
      simp only [Bool.and_eq_true, Nat.ble_eq] at hc
      have hlt := blt_of hc.2
      rw [forceN_eq] at he
      refine num (a - b) (by omega) he ?_
      have : ((a : Int) - (b : Int)) = ((a - b : Nat) : Int) := by omega
      simp [execOp, ho, hx, hy, eqGuard, binOp, Op.intArith, this]
    | false => rw [hc] at he; exact hf he
  · rw [forceN_eq] at he
    cases hc : Nat.blt (a * b) (limK k) with
    | true =>
      rw [hc] at he
      refine num _ (blt_of hc) he ?_
      simp [execOp, ho, hx, hy, eqGuard, binOp, Op.intArith]
    | false => rw [hc] at he; exact hf he
  · refine bool _ he ?_
    simp [execOp, ho, hx, hy, eqGuard, binOp, Op.intCmp, ← nat_beq]
  · refine bool _ he ?_
    simp [execOp, ho, hx, hy, eqGuard, binOp, Op.intCmp, ← nat_beq, bne]
  · refine bool _ he ?_
    have : decide ((a : Int) < (b : Int)) = Nat.blt a b := by rw [Bool.eq_iff_iff, Nat.blt_eq]; simp
    simp only [execOp, ho, hx, hy, eqGuard, binOp, Op.intCmp, this]
    simp
  · refine bool _ he ?_
    have : decide ((a : Int) ≤ (b : Int)) = Nat.ble a b := by rw [Bool.eq_iff_iff, Nat.ble_eq]; simp
    simp only [execOp, ho, hx, hy, eqGuard, binOp, Op.intCmp, this]
    simp
  · refine bool _ he ?_
    have : decide ((b : Int) < (a : Int)) = Nat.blt b a := by rw [Bool.eq_iff_iff, Nat.blt_eq]; simp
    simp only [execOp, ho, hx, hy, eqGuard, binOp, Op.intCmp, gt_iff_lt, this]
    simp
  · refine bool _ he ?_
    have : decide ((b : Int) ≤ (a : Int)) = Nat.ble b a := by rw [Bool.eq_iff_iff, Nat.ble_eq]; simp
    simp only [execOp, ho, hx, hy, eqGuard, binOp, Op.intCmp, ge_iff_le, this]
    simp
  · exact hf he
theorem good_bin {op : BinOp} {t yt : TypeId} {x y : Operand} (ho : o.op = .binOp op t x y yt) : Good P base sl A o (evBin P sl A op t x y) := by
  intro v A' he E w T hR hS
  have hx := hS.at x
  have hy := hS.at y
  unfold evBin at he
  split at he
  · next k a k' b h1 h2 =>
    rw [h1] at hx
    rw [h2] at hy
    cases hk : kEq k k' with
    | true =>
      rw [hk] at he
      have := kEq_of hk
      subst this
      exact nat_good ho hx.int hy.int hR (fun he => pb_good ho hx hy hR he) he
    | false => rw [hk] at he; exact pb_good ho hx hy hR he
  · next a b h1 h2 =>
    rw [h1] at hx
    rw [h2] at hy
    have e1 := hx.string
    have e2 := hy.string
    unfold strOp at he
    simp only [lenR_eq, appR_eq, forceL_eq] at he
    split at he
    · obtain ⟨hc, he⟩ := cond_of he
      cases he
      have hc : a.data.toList.length + b.data.toList.length ≤ 1099511627776 := by simpa using hc
      have hsz : a.size = a.data.toList.length := rfl
      have hsz' : b.size = b.data.toList.length := rfl
      have happ : a ++ b = ⟨⟨a.data.toList ++ b.data.toList⟩⟩ := by
        have : (a ++ b).data = a.data ++ b.data := ByteArray.data_append ..
        cases hab : a ++ b with
        | mk d =>
          rw [hab] at this
          simp only at this
          rw [this]
          congr 1
          exact Array.ext' (by simp)
      refine .of_ok (v := .string (a ++ b)) (W' := w) ?_ (.here hR (by rw [happ]; exact .sc _ rfl .nil))
      simp [execOp, ho, e1, e2, eqGuard, binOp, Op.stringOp]
      omega
    · obtain ⟨rfl, rfl⟩ := bV_of he
      rw [bEq_eq]
      refine .of_ok (W' := w) ?_ (.here hR (.sc _ rfl .nil))
      simp [execOp, ho, e1, e2, eqGuard, binOp, Op.stringOp, ByteArray.toList_eq]
    · obtain ⟨rfl, rfl⟩ := bV_of he
      rw [bEq_eq]
      refine .of_ok (W' := w) ?_ (.here hR (.sc _ rfl .nil))
      simp [execOp, ho, e1, e2, eqGuard, binOp, Op.stringOp, ByteArray.toList_eq]
    · exact pb_good ho hx hy hR he
  · next a m c h1 h2 =>
    rw [h1] at hx
    rw [h2] at hy
    obtain ⟨e2, _⟩ := hy.nilSlice
    have e1 : ∃ a' c', evF T x = .slice a' m c' ∧ a'.isNone = a.isNone := by
      cases a with
      | none => exact ⟨none, c, hx.nilSlice.1, rfl⟩
      | some a =>
        generalize evF T x = u at hx
        cases hx with
        | sc v h _ => cases h
        | slc => exact ⟨_, _, rfl, rfl⟩
    obtain ⟨a', c', e1, e3⟩ := e1
    split at he
    · next e hu =>
      have heq : (Op.equal t (.slice a' m c') (.slice none 0 0)).run P w = .ok a'.isNone w := by
        have : ∀ d : Nat, (Op.equalIn (d + 1) t (.slice a' m c') (.slice none 0 0)).run P w = .ok a'.isNone w := fun d => by
          cases a' <;> simp [Op.equalIn, run_underlying hu]
        exact this 9999
      split at he
      · obtain ⟨rfl, rfl⟩ := bV_of he
        refine .of_ok (v := .bool a.isNone) (W' := w) ?_ (.here hR (.sc _ rfl .nil))
        simp [execOp, ho, e1, e2, eqGuard, binOp, heq, e3]
      · obtain ⟨rfl, rfl⟩ := bV_of he
        refine .of_ok (v := .bool a.isSome) (W' := w) ?_ (.here hR (.sc _ rfl .nil))
        have : (!a'.isNone) = a.isSome := by rw [e3]; cases a <;> rfl
        simp only [execOp, ho, e1, e2, eqGuard, binOp]
        simp
        rw [heq]
        simp only [Result.andThen_ok, this]
      · cases he
    · cases he
  · next a h1 h2 =>
    rw [h1] at hx
    rw [h2] at hy
    have e2 : evF T y = .pointer none := by
      generalize evF T y = u at hy
      cases hy
      rfl
    have e1 : ∃ a', evF T x = .pointer a' ∧ a'.isNone = a.isNone := by
      generalize evF T x = u at hx
      cases hx with
      | sc v h _ => exact ⟨_, rfl, rfl⟩
      | ptr => exact ⟨_, rfl, rfl⟩
      | tpt => exact ⟨_, rfl, rfl⟩
    obtain ⟨a', e1, e3⟩ := e1
    split at he
    · next e hu =>
      have heq : (Op.equal t (.pointer a') (.pointer none)).run P w = .ok a'.isNone w := by
        have : ∀ d : Nat, (Op.equalIn (d + 1) t (.pointer a') (.pointer none)).run P w = .ok a'.isNone w := fun d => by
          cases a' <;> simp [Op.equalIn, run_underlying hu]
        exact this 9999
      split at he
      · obtain ⟨rfl, rfl⟩ := bV_of he
        refine .of_ok (v := .bool a.isNone) (W' := w) ?_ (.here hR (.sc _ rfl .nil))
        simp [execOp, ho, e1, e2, eqGuard, binOp, heq, e3]
      · obtain ⟨rfl, rfl⟩ := bV_of he
        refine .of_ok (v := .bool a.isSome) (W' := w) ?_ (.here hR (.sc _ rfl .nil))
        have : (!a'.isNone) = a.isSome := by rw [e3]; cases a <;> rfl
        simp only [execOp, ho, e1, e2, eqGuard, binOp]
        simp
        rw [heq]
        simp only [Result.andThen_ok, this]
      · cases he
    · cases he
  · exact pb_good ho hx hy hR he
noncomputable def evUn (P : Program) (sl : Slo) (A : AH) (op : UnOp) (x : Operand) : Rs := cond (cln 1 (evO P sl x)) (bnd (pureRun P (Op.unary op (evO P sl x))) fun v => forceV v A) none
theorem good_un {op : UnOp} {t : TypeId} {x : Operand} (ho : o.op = .unOp op t x) : Good P base sl A o (evUn P sl A op x) := by
  intro v A' he E w T hR hS
  unfold evUn at he
  obtain ⟨h1, he⟩ := cond_of he
  obtain ⟨u, h2, he⟩ := bnd_of he
  obtain ⟨rfl, rfl, h3⟩ := forceV_of he
  have e1 := (hS.at x).clean 1 h1
  have h4 := pureRun_of w h2
  refine .of_ok (v := v) (W' := w) ?_ (.here hR (.sc _ h3 .nil))
  simp only [execOp, ho, e1]
  rw [Sem.run_bind, h4]
  rfl
noncomputable def evS2B (P : Program) (A : AH) (s d : TypeId) (b : ByteArray) : Rs := match P.underlying s, P.underlying d with
  | some .string, some (.slice e) => match P.underlying e with
    | some (.int .u8) => bnd (P.info? e) fun i => cond (Nat.beq i.size 1 && Nat.ble (lenR b.data.toList) 1099511627776) (evNew A (mapR (fun b => .int .u8 (.ofNat b.toNat)) b.data.toList) fun k A => some (.slice (some ⟨k, 0, none⟩) (lenR b.data.toList) e, A)) none
    | _ => none
  | _, _ => none
noncomputable def byteB (v : Value) (r : Option (List UInt8)) : Option (List UInt8) := match v with | .int .u8 (.ofNat m) => cond (Nat.blt m 256) (bnd r fun l => some (UInt8.ofNat m :: l)) none | _ => none
noncomputable def bytesOf (l : List Value) : Option (List UInt8) := List.rec (some []) (fun v _ ih => byteB v ih) l
theorem bytesOf_eq : ∀ {l : List Value} {bs : List UInt8}, bytesOf l = some bs → l = bs.map fun b => .int .u8 (b.toNat : Int)
  | [], bs, h => by cases h; rfl
  | v :: l, bs, h => by
    have h : byteB v (bytesOf l) = some bs := h
    unfold byteB at h
    split at h
    · rename_i m _
      obtain ⟨h1, h⟩ := cond_of h
      obtain ⟨bs', h2, h⟩ := bnd_of h
      cases h
      rw [bytesOf_eq h2, List.map_cons]
      congr 2
      have := blt_of h1
      rw [UInt8.toNat_ofNat']
      show Int.ofNat m = _
      congr 1
      rw [Nat.mod_eq_of_lt (by omega)]
    · cases h
theorem bytesVL {E : EE} : ∀ {l : List UInt8} {us : List Value}, VL P E us (l.map fun b => .int .u8 (b.toNat : Int)) → us = l.map fun b => .int .u8 (b.toNat : Int)
  | [], us, h => by cases h; rfl
  | b :: l, [], h => by cases h
  | b :: l, u :: us, h => by
    have := h.head.int
    rw [this, List.map_cons, bytesVL h.tail]
noncomputable def evB2S (P : Program) (A : AH) (s d : TypeId) (n c len : Nat) : Rs := match P.underlying s, P.underlying d with
  | some (.slice e), some .string => match P.underlying e with
    | some (.int .u8) => bnd (A.get n) fun r => cond (Nat.ble (c + len) (lenR r.cs)) (bnd (bytesOf (takeR len (dropR c r.cs))) fun l => forceL l fun l => some (.string ⟨⟨l⟩⟩, A)) none
    | _ => none
  | _, _ => none
theorem good_s2b {s d : TypeId} {x : Operand} {b : ByteArray} (ho : o.op = .convert s d x) (hx : evO P sl x = .string b) : Good P base sl A o (evS2B P A s d b) := by
  intro v A' he E w T hR hS
  unfold evS2B at he
  simp only [lenR_eq, mapR_eq] at he
  split at he
  · next e hs hd =>
    split at he
    · next hu =>
      obtain ⟨i, hi, he⟩ := bnd_of he
      obtain ⟨hc, he⟩ := cond_of he
      simp only [Bool.and_eq_true, Nat.ble_eq] at hc
      obtain ⟨hc1, hc2⟩ := hc
      have hc1 := Nat.eq_of_beq_eq_true hc1
      obtain ⟨hnx, he⟩ := evNew_of he
      cases he
      have h1 := hS.at x
      rw [hx] at h1
      have h1 := h1.string
      have hsz : b.data.toList.length = b.size := rfl
      rw [hsz] at hc2 ⊢
      have hge := grownCap_ge w b.size 0 e
      have hcap := grownCap_le_maxLen w b.size 0 e (by unfold maxLen; omega)
      unfold maxLen at hcap
      have hrun := Lib.run_convert_string_bytes (P := P) w s d e b hs hd hu
      have hbs : (Lib.bytesCells w e b).size = grownCap w b.size 0 e := by
        simp [Lib.bytesCells, grownCap] at hge ⊢
        omega
      obtain ⟨E', f1, f2, f3, f4⟩ := hR.fresh (w' := Lib.bytesWorld w e b) (cs := b.data.toList.map fun b => .int .u8 (.ofNat b.toNat)) (f := A.nx) (l := []) (arr := Lib.bytesCells w e b) (e := e) (fz := ((Lib.bytesCells w e b).size, (Lib.bytesCells w e b).size + 1)) hnx (by
          refine Array.ext_getElem? fun j => ?_
          rcases Nat.lt_trichotomy j w.heap.size with hj | hj | hj
          · rw [Lib.bytesWorld_at_old w e b j hj, Array.getElem?_push, if_neg (by omega)]
          · subst hj
            rw [Lib.bytesWorld_at_new]
            simp
          · have hsz : (Lib.bytesWorld w e b).heap.size = w.heap.size + 1 := by simp [Lib.bytesWorld, World.freeze, World.alloc, World.drew, -World.alloc_eq, -World.drew_eq]
            rw [Array.getElem?_eq_none (by omega), Array.getElem?_eq_none (by simp; omega)]) rfl rfl rfl (.inr (Nat.le_refl _)) (by rw [List.length_map, hsz, hbs]; exact hge) (by
        rw [List.length_map]
        have : (Lib.bytesCells w e b).toList.take b.data.toList.length = b.data.toList.map fun b => .int .u8 (.ofNat b.toNat) := by
          simp only [Lib.bytesCells, Array.toList_append, Array.toList_map]
          exact List.take_left' (by simp)
        rw [this]
        generalize b.data.toList = l
        induction l with
        | nil => exact .nil
        | cons a l ih => exact .sc _ rfl ih) (.inl ⟨rfl, rfl⟩)
      refine .of_ok (v := .slice (some ⟨w.heap.size, 0, none⟩) b.size (grownCap w b.size 0 e)) (W' := Lib.bytesWorld w e b) (by simp only [execOp, ho, h1, Sem.run_bind, hrun]; rfl) ⟨E', f1, .slc _ 0 e b.size (grownCap w b.size 0 e) w.heap.size 0 0 f2 hge (by omega) (fun _ => ⟨rfl, _, i, f3, hi, by rw [hbs, hc1]; omega⟩) .nil, f4⟩
    · cases he
  · cases he
theorem good_b2s {s d : TypeId} {x : Operand} {n c len e : Nat} (ho : o.op = .convert s d x) (hx : evO P sl x = .slice (some ⟨n, c, none⟩) len e) : Good P base sl A o (evB2S P A s d n c len) := by
  intro v A' he E w T hR hS
  unfold evB2S at he
  simp only [lenR_eq, dropR_eq, takeR_eq, forceL_eq] at he
  split at he
  · next e' hs hd =>
    split at he
    · next hu =>
      obtain ⟨r, hr, he⟩ := bnd_of he
      obtain ⟨h1, he⟩ := cond_of he
      rw [Nat.ble_eq] at h1
      obtain ⟨l, h2, he⟩ := bnd_of he
      cases he
      have h3 := hS.at x
      rw [hx] at h3
      obtain ⟨b, q, q', cap, hlo, hp, hl, _, hroom⟩ := h3.slice
      obtain ⟨us, g1, g2, g3⟩ := hR.reads hr hlo c len h1
      have h4 := bytesOf_eq h2
      have hll : l.length = len := by
        have := congrArg List.length h4
        rw [List.length_take, List.length_drop, List.length_map] at this
        omega
      have hus : us = l.map fun b => .int .u8 (b.toNat : Int) := by
        rw [h4] at g3
        exact bytesVL g3
      have hrun := run_convert_bytes_back (P := P) w s d e' ⟨b, q', none⟩ cap l hs hu hd fun j hj => by
        obtain ⟨hq, _⟩ := hroom (by omega)
        subst hq
        rw [addr_add]
        exact g2 j _ (by rw [hus]; simp [List.getElem?_eq_getElem hj])
      rw [hll] at hrun
      refine .of_ok (v := .string ⟨l.toArray⟩) (W' := w) ?_ (.here hR (.sc _ rfl .nil))
      simp only [execOp, ho, hp, Sem.run_bind, hrun]
      rfl
    · cases he
  · cases he
noncomputable def evCvP (P : Program) (sl : Slo) (A : AH) (s d : TypeId) (x : Operand) : Rs := cond (cln 1 (evO P sl x)) (bnd (pureRun P (convert s d (evO P sl x))) fun v => forceV v A) none
theorem good_cvp {s d : TypeId} {x : Operand} (ho : o.op = .convert s d x) : Good P base sl A o (evCvP P sl A s d x) := by
  intro v A' he E w T hR hS
  unfold evCvP at he
  obtain ⟨h1, he⟩ := cond_of he
  obtain ⟨u, h2, he⟩ := bnd_of he
  obtain ⟨rfl, rfl, h3⟩ := forceV_of he
  have e1 := (hS.at x).clean 1 h1
  have h4 := pureRun_of w h2
  refine .of_ok (v := v) (W' := w) ?_ (.here hR (.sc _ h3 .nil))
  simp only [execOp, ho, e1]
  rw [Sem.run_bind, h4]
  rfl
noncomputable def evCv (P : Program) (sl : Slo) (A : AH) (s d : TypeId) (x : Operand) : Rs := match evO P sl x with
  | .string b => match P.underlying d with
    | some (.slice _) => evS2B P A s d b
    | _ => evCvP P sl A s d x
  | .slice (some ⟨n, c, none⟩) len _ => evB2S P A s d n c len
  | _ => evCvP P sl A s d x
theorem good_cv {s d : TypeId} {x : Operand} (ho : o.op = .convert s d x) : Good P base sl A o (evCv P sl A s d x) := by
  unfold evCv
  split
  · next b hx =>
    split
    · exact good_s2b ho hx
    · exact good_cvp ho
  · next n c len e hx => exact good_b2s ho hx
  · exact good_cvp ho
end
end Go.Proofs.YtpinhcdcnaaihaaGreatDoor
