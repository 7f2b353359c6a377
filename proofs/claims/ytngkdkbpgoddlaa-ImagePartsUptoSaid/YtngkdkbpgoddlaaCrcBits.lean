import Derived.Test.YtngkdkbpgoddlaaRl
/- Plain mathematics of the sum: no Go, no program. -/
namespace Go.Crc
def poly : BitVec 32 := 0xedb88320#32
def step (n : BitVec 32) : BitVec 32 := (n >>> 1) ^^^ ((-(n &&& 1#32)) &&& poly)
def stepN : Nat → BitVec 32 → BitVec 32
  | 0, n => n
  | k + 1, n => stepN k (step n)
theorem mask_lsb (n : BitVec 32) : (-(n &&& 1#32)) &&& poly = if n.getLsbD 0 then poly else 0#32 := by
  have h : n &&& 1#32 = if n.getLsbD 0 then 1#32 else 0#32 := by
    apply BitVec.eq_of_getLsbD_eq
    intro i hi
    rw [BitVec.getLsbD_and]
    by_cases hb : n.getLsbD 0
    · simp only [hb, if_true]
      match i with
      | 0 => simp [hb]
      | i + 1 => simp
    · simp only [hb]
      match i with
      | 0 => simpa using hb
      | i + 1 => simp
  rw [h]
  split
  · decide
  · decide
theorem step_eq (n : BitVec 32) : step n = (n >>> 1) ^^^ (if n.getLsbD 0 then poly else 0#32) := by unfold step; rw [mask_lsb]
theorem xor_cancel (x y p : BitVec 32) : (x ^^^ p) ^^^ (y ^^^ p) = x ^^^ y := by
  rw [show (x ^^^ p) ^^^ (y ^^^ p) = (x ^^^ y) ^^^ (p ^^^ p) from by ac_rfl, BitVec.xor_self, BitVec.xor_zero]
theorem step_xor (a b : BitVec 32) : step (a ^^^ b) = step a ^^^ step b := by
  rw [step_eq, step_eq, step_eq]
  have h : (a ^^^ b) >>> 1 = (a >>> 1) ^^^ (b >>> 1) := by rw [BitVec.ushiftRight_xor_distrib]
  rw [h, BitVec.getLsbD_xor]
  cases a.getLsbD 0 <;> cases b.getLsbD 0
  · simp
  · simp; ac_rfl
  · simp; ac_rfl
  · simp only [if_true, Bool.false_eq_true, if_false, bne_self_eq_false, xor_cancel, BitVec.xor_zero]
theorem stepN_xor (k : Nat) : ∀ a b : BitVec 32, stepN k (a ^^^ b) = stepN k a ^^^ stepN k b := by
  induction k with
  | zero => intro a b; rfl
  | succ k ih => intro a b; simp only [stepN, step_xor, ih]
theorem stepN_zero (k : Nat) : stepN k 0#32 = 0#32 := by
  have := stepN_xor k 0#32 0#32
  simpa using this
theorem stepN_add (j : Nat) : ∀ (k : Nat) (n : BitVec 32), stepN (j + k) n = stepN k (stepN j n) := by
  induction j with
  | zero => intro k n; simp [stepN]
  | succ j ih => intro k n; rw [show j + 1 + k = (j + k) + 1 from by omega]; simp only [stepN, ih]
theorem stepN_succ (k : Nat) (n : BitVec 32) : stepN (k + 1) n = step (stepN k n) := by
  rw [stepN_add k 1 n]; rfl
/-- Zeros below are shifted out. -/
theorem stepN_low (k : Nat) : ∀ x : BitVec 32, (∀ i, i < k → x.getLsbD i = false) → stepN k x = x >>> k := by
  induction k with
  | zero => intro x _; simp [stepN]
  | succ k ih =>
    intro x h
    have h0 := h 0 (by omega)
    have hs : step x = x >>> 1 := by rw [step_eq, h0]; simp
    rw [stepN, hs, ih]
    · rw [← BitVec.shiftRight_add, Nat.add_comm]
    · intro i hi
      rw [BitVec.getLsbD_ushiftRight]
      exact h _ (by omega)
/-- The sum's byte: by a table of 256. -/
theorem byte_step (x : BitVec 32) : stepN 8 x = (x >>> 8) ^^^ stepN 8 (x &&& 255#32) := by
  have hx : x = (x &&& ~~~255#32) ^^^ (x &&& 255#32) := by
    apply BitVec.eq_of_getLsbD_eq
    intro i hi
    simp only [BitVec.getLsbD_xor, BitVec.getLsbD_and, BitVec.getLsbD_not, hi, decide_true, Bool.true_and]
    cases x.getLsbD i <;> cases (255#32).getLsbD i <;> rfl
  have h1 : stepN 8 (x &&& ~~~255#32) = (x &&& ~~~255#32) >>> 8 := stepN_low 8 _ fun i hi => by
    have : (~~~255#32).getLsbD i = false := by
      match i, hi with
      | 0, _ => rfl
      | 1, _ => rfl
      | 2, _ => rfl
      | 3, _ => rfl
      | 4, _ => rfl
      | 5, _ => rfl
      | 6, _ => rfl
      | 7, _ => rfl
    rw [BitVec.getLsbD_and, this, Bool.and_false]
  have h2 : (x &&& ~~~255#32) >>> 8 = x >>> 8 := by
    apply BitVec.eq_of_getLsbD_eq
    intro i hi
    rw [BitVec.getLsbD_ushiftRight, BitVec.getLsbD_ushiftRight, BitVec.getLsbD_and]
    by_cases h : 8 + i < 32
    · have : (~~~255#32).getLsbD (8 + i) = true := by
        have hd : ∀ j : Fin 24, (~~~255#32).getLsbD (8 + j.val) = true := by decide
        exact hd ⟨i, by omega⟩
      rw [this, Bool.and_true]
    · rw [BitVec.getLsbD_of_ge x (8 + i) (by omega), Bool.false_and]
  calc stepN 8 x = stepN 8 ((x &&& ~~~255#32) ^^^ (x &&& 255#32)) := by rw [← hx]
    _ = _ := by rw [stepN_xor, h1, h2]
/-! ### The sum's functions -/
def wide (c : UInt8) : BitVec 32 := BitVec.ofNat 32 c.toNat
theorem wide_toNat (c : UInt8) : (wide c).toNat = c.toNat := by
  have := c.toNat_lt
  simp [wide]
set_option linter.unusedVariables false
theorem wide_shr (c : UInt8) : wide c >>> 8 = 0#32 := by
  apply BitVec.eq_of_toNat_eq
  have := c.toNat_lt
  simp [BitVec.toNat_ushiftRight, wide_toNat, Nat.shiftRight_eq_div_pow]
  omega
theorem crc8 (n : BitVec 32) (c : UInt8) : (n >>> 8) ^^^ stepN 8 ((n ^^^ wide c) &&& 255#32) = stepN 8 (n ^^^ wide c) := by
  rw [byte_step (n ^^^ wide c), BitVec.ushiftRight_xor_distrib, wide_shr]
  simp
def moreR (n : BitVec 32) (l : List UInt8) : BitVec 32 := l.foldl (fun n c => stepN 8 (n ^^^ wide c)) n
def more (n : BitVec 32) (l : List UInt8) : BitVec 32 := ~~~(moreR (~~~n) l)
def sum (l : List UInt8) : BitVec 32 := more 0#32 l
theorem moreR_append (n : BitVec 32) (a b : List UInt8) : moreR n (a ++ b) = moreR (moreR n a) b := by simp [moreR]
theorem moreR_snoc (n : BitVec 32) (l : List UInt8) (i : Nat) (h : i < l.length) : stepN 8 (moreR n (l.take i) ^^^ wide l[i]) = moreR n (l.take (i + 1)) := by
  rw [List.take_succ_eq_append_getElem h, moreR_append]; rfl
def byteAt (n : BitVec 32) (k : Nat) : UInt8 := UInt8.ofNat (n >>> k).toNat
def tailB (n : BitVec 32) : List UInt8 := [byteAt n 0, byteAt n 8, byteAt n 16, byteAt n 24]
def openOk (l : List UInt8) : Bool := decide (4 ≤ l.length ∧ tailB (sum (l.take (l.length - 4))) = l.drop (l.length - 4))
theorem open_eq (l : List UInt8) (h : 4 ≤ l.length) : l.take (l.length - 4) ++ tailB (sum (l.take (l.length - 4))) = l ↔ tailB (sum (l.take (l.length - 4))) = l.drop (l.length - 4) := by
  constructor
  · intro e
    have := congrArg (List.drop (l.length - 4)) e
    rw [List.drop_append_of_le_length (by simp)] at this
    simpa using this
  · intro e
    rw [e, List.take_append_drop]
/-- The bits below i. -/
def low (n : BitVec 32) : Nat → BitVec 32
  | 0 => 0#32
  | i + 1 => if n.getLsbD i then low n i ^^^ (1#32 <<< i) else low n i
theorem low_bit (n : BitVec 32) : ∀ i j, (low n i).getLsbD j = (decide (j < i) && n.getLsbD j)
  | 0, j => by simp [low]
  | i + 1, j => by
    have ih := low_bit n i j
    unfold low
    split
    · rename_i hb
      rw [BitVec.getLsbD_xor, ih, BitVec.getLsbD_shiftLeft]
      by_cases h1 : j < i
      · simp [h1, Nat.lt_succ_of_lt h1]
      · by_cases h2 : j = i
        · subst h2
          have hlt : j < 32 := by
            rcases Nat.lt_or_ge j 32 with h | h
            · exact h
            · rw [BitVec.getLsbD_of_ge n j h] at hb; cases hb
          simp [hb, hlt]
        · have : ¬ j < i + 1 := by omega
          have h3 : j - i ≠ 0 := by omega
          simp [h1, this, h3]
    · rename_i hb
      rw [ih]
      by_cases h1 : j < i
      · simp [h1, Nat.lt_succ_of_lt h1]
      · by_cases h2 : j = i
        · subst h2
          have : n.getLsbD j = false := by simpa using hb
          simp [this]
        · have : ¬ j < i + 1 := by omega
          simp [h1, this]
theorem low_all (n : BitVec 32) : low n 32 = n := by
  apply BitVec.eq_of_getLsbD_eq
  intro i hi
  rw [low_bit]; simp [hi]
theorem low_step (k : Nat) (n : BitVec 32) (i : Nat) : stepN k (low n (i + 1)) = if n.getLsbD i then stepN k (low n i) ^^^ stepN k (1#32 <<< i) else stepN k (low n i) := by
  rw [low]
  split
  · rw [stepN_xor]
  · rfl
def join (a b : BitVec 32) (m : Int) : BitVec 32 := stepN (8 * m.toNat) a ^^^ b
theorem bit_one (n : BitVec 32) (i : Nat) : (n >>> i) &&& 1#32 = if n.getLsbD i then 1#32 else 0#32 := by
  apply BitVec.eq_of_getLsbD_eq
  intro j hj
  rw [BitVec.getLsbD_and, BitVec.getLsbD_ushiftRight]
  by_cases h : n.getLsbD i
  · rw [if_pos h]
    match j with
    | 0 => simp [h]
    | j + 1 => simp
  · rw [if_neg h]
    match j with
    | 0 => simp at h; simp [h]
    | j + 1 => simp
theorem bit_int (n : BitVec 32) (i : Nat) : (((n >>> i) &&& 1#32).toNat : Int) = 1 ↔ n.getLsbD i = true := by
  rw [bit_one]
  split
  · rename_i h; simp [h]
  · rename_i h; simp at h; simp [h]

/-! ### What the statements ask -/
theorem stepN_inj (k : Nat) : ∀ n : BitVec 32, stepN k n = 0#32 → n = 0#32 := by
  induction k with
  | zero => intro n h; exact h
  | succ k ih =>
    intro n h
    have h1 := ih _ h
    rw [step_eq] at h1
    by_cases hb : n.getLsbD 0
    · rw [if_pos hb] at h1
      have := congrArg (fun x : BitVec 32 => x.getLsbD 31) h1
      simp [poly] at this
    · rw [if_neg hb, BitVec.xor_zero] at h1
      apply BitVec.eq_of_getLsbD_eq
      intro i hi
      match i with
      | 0 => simpa using hb
      | i + 1 =>
        have := congrArg (fun x : BitVec 32 => x.getLsbD i) h1
        simp only [BitVec.getLsbD_ushiftRight, BitVec.getLsbD_zero] at this
        rw [Nat.add_comm] at this
        rw [this]; simp
theorem moreR_xor (b : List UInt8) : ∀ n m : BitVec 32, moreR (n ^^^ m) b = moreR n b ^^^ stepN (8 * b.length) m := by
  induction b with
  | nil => intro n m; simp [moreR, stepN]
  | cons c r ih =>
    intro n m
    have h1 : ∀ n, moreR n (c :: r) = moreR (stepN 8 (n ^^^ wide c)) r := fun n => rfl
    rw [h1, h1, show (n ^^^ m) ^^^ wide c = (n ^^^ wide c) ^^^ m from by ac_rfl, stepN_xor, ih, ← stepN_add]
    rw [show 8 * (c :: r).length = 8 + 8 * r.length from by simp; omega]
def ones : BitVec 32 := 4294967295#32
theorem not_ones (a : BitVec 32) : ~~~a = a ^^^ ones := by
  apply BitVec.eq_of_getLsbD_eq
  intro i hi
  have : ∀ j : Fin 32, ones.getLsbD j.val = true := by decide
  rw [BitVec.getLsbD_xor, this ⟨i, hi⟩, BitVec.getLsbD_not]
  simp [hi]
theorem not_zero : ~~~(0#32) = ones := by decide
theorem xor_pair (a b c : BitVec 32) : (a ^^^ b) ^^^ (c ^^^ b) = a ^^^ c := by
  rw [show (a ^^^ b) ^^^ (c ^^^ b) = (a ^^^ c) ^^^ (b ^^^ b) from by ac_rfl, BitVec.xor_self, BitVec.xor_zero]
theorem sum_append (a b : List UInt8) : sum (a ++ b) = more (sum a) b := by
  unfold sum more
  rw [not_zero, moreR_append, not_ones (~~~moreR ones a), not_ones (moreR ones a)]
  congr 2
  rw [BitVec.xor_assoc, BitVec.xor_self, BitVec.xor_zero]
theorem sum_join (a b : List UInt8) : sum (a ++ b) = join (sum a) (sum b) b.length := by
  unfold sum more join
  rw [not_zero, moreR_append, Int.toNat_natCast]
  have h := moreR_xor b (moreR ones a) (moreR ones a ^^^ ones)
  rw [show moreR ones a ^^^ (moreR ones a ^^^ ones) = ones from by rw [← BitVec.xor_assoc, BitVec.xor_self, BitVec.zero_xor]] at h
  rw [not_ones, not_ones (moreR ones b), not_ones (moreR ones a), h]
  rw [show stepN (8 * b.length) (moreR ones a ^^^ ones) ^^^ (moreR (moreR ones a) b ^^^ stepN (8 * b.length) (moreR ones a ^^^ ones) ^^^ ones)
    = (moreR (moreR ones a) b ^^^ ones) ^^^ (stepN (8 * b.length) (moreR ones a ^^^ ones) ^^^ stepN (8 * b.length) (moreR ones a ^^^ ones)) from by ac_rfl, BitVec.xor_self, BitVec.xor_zero]
theorem join_zero (a b : BitVec 32) (m : Int) (h : m ≤ 0) : join a b m = a ^^^ b := by unfold join; rw [show m.toNat = 0 from by omega]; rfl
theorem join_add (a b : BitVec 32) (m n : Int) (hm : 0 ≤ m) (hn : 0 ≤ n) : join a b (m + n) = join (join a 0#32 m) b n := by
  unfold join
  rw [BitVec.xor_zero, ← stepN_add, show (m + n).toNat = m.toNat + n.toNat from by omega, Nat.mul_add]
theorem join_back (a b : BitVec 32) (m z : Int) (hz : z ≤ 0) : join (join a b m) b z = join a 0#32 m := by
  rw [join_zero _ _ _ hz]; unfold join
  rw [BitVec.xor_assoc, BitVec.xor_self]
theorem join_assoc (a b c : BitVec 32) (m n : Int) (hm : 0 ≤ m) (hn : 0 ≤ n) : join (join a b m) c n = join a (join b c n) (m + n) := by
  unfold join
  rw [stepN_xor, ← stepN_add, show (m + n).toNat = m.toNat + n.toNat from by omega, Nat.mul_add]
  ac_rfl
theorem join_xor (a b : BitVec 32) (m : Int) : join (a ^^^ b) 0#32 m = join a 0#32 m ^^^ join b 0#32 m := by
  unfold join; simp only [BitVec.xor_zero, stepN_xor]
theorem join_none (b : BitVec 32) (m : Int) : join 0#32 b m = b := by unfold join; rw [stepN_zero, BitVec.zero_xor]
theorem join_in (a b : BitVec 32) (m : Int) : join a (join b 0#32 m) m = join (a ^^^ b) 0#32 m := by
  unfold join; simp only [BitVec.xor_zero, stepN_xor]
theorem tail_length (n : BitVec 32) : (tailB n).length = 4 := rfl
theorem open_wrap (l : List UInt8) : openOk (l ++ tailB (sum l)) = true ∧ (l ++ tailB (sum l)).take ((l ++ tailB (sum l)).length - 4) = l := by
  have h : (l ++ tailB (sum l)).length - 4 = l.length := by simp [tail_length]
  unfold openOk
  rw [h, List.take_left, List.drop_left]
  exact ⟨decide_eq_true ⟨by simp [tail_length], rfl⟩, rfl⟩
theorem wrap_open (l : List UInt8) (h : openOk l = true) : l.take (l.length - 4) ++ tailB (sum (l.take (l.length - 4))) = l := by
  unfold openOk at h
  have := of_decide_eq_true h
  exact (open_eq l this.1).2 this.2
theorem wrap_not (l : List UInt8) (h : openOk l = false) (h4 : 4 ≤ l.length) : ¬ l.take (l.length - 4) ++ tailB (sum (l.take (l.length - 4))) = l := by
  intro e
  unfold openOk at h
  exact of_decide_eq_false h ⟨h4, (open_eq l h4).1 e⟩
theorem byteAt_bit (n : BitVec 32) (k i : Nat) (h : i < 8) : (byteAt n k).toNat.testBit i = n.getLsbD (k + i) := by
  unfold byteAt
  rw [UInt8.toNat_ofNat', show (2 : Nat) ^ 8 = 256 from rfl]
  have : (n >>> k).toNat % 256 = ((n >>> k).setWidth 8).toNat := by simp
  rw [this, ← BitVec.getLsbD, BitVec.getLsbD_setWidth, BitVec.getLsbD_ushiftRight]
  simp [h]
theorem tail_inj (n m : BitVec 32) (h : tailB n = tailB m) : n = m := by
  unfold tailB at h
  injection h with h0 h
  injection h with h1 h
  injection h with h2 h
  injection h with h3 _
  apply BitVec.eq_of_getLsbD_eq
  intro i hi
  have key : ∀ k j, j < 8 → byteAt n k = byteAt m k → n.getLsbD (k + j) = m.getLsbD (k + j) := fun k j hj e => by
    rw [← byteAt_bit n k j hj, ← byteAt_bit m k j hj, e]
  by_cases a0 : i < 8
  · simpa using key 0 i a0 h0
  · by_cases a1 : i < 16
    · have := key 8 (i - 8) (by omega) h1; rwa [show 8 + (i - 8) = i from by omega] at this
    · by_cases a2 : i < 24
      · have := key 16 (i - 16) (by omega) h2; rwa [show 16 + (i - 16) = i from by omega] at this
      · have := key 24 (i - 24) (by omega) h3; rwa [show 24 + (i - 24) = i from by omega] at this
theorem wide_xor_ne (a b : UInt8) (h : a ≠ b) : wide a ^^^ wide b ≠ 0#32 := by
  intro e
  have : wide a = wide b := by
    have := congrArg (· ^^^ wide b) e
    simpa [BitVec.xor_assoc] using this
  have h2 := congrArg BitVec.toNat this
  rw [wide_toNat, wide_toNat] at h2
  exact h (UInt8.toNat_inj.1 h2)
/-- One byte another: another sum. -/
theorem sum_set (l : List UInt8) (k : Nat) (hk : k < l.length) (b : UInt8) (hb : b ≠ l[k]) : sum (l.set k b) ≠ sum l := by
  intro e
  have hl : l = l.take k ++ l[k] :: l.drop (k + 1) := by rw [List.getElem_cons_drop, List.take_append_drop]
  have hs : l.set k b = l.take k ++ b :: l.drop (k + 1) := by rw [List.set_eq_take_append_cons_drop, if_pos hk]
  unfold sum more at e
  rw [not_ones, not_ones (moreR _ l)] at e
  have e2 : moreR (~~~0#32) (l.set k b) = moreR (~~~0#32) l := by
    have := congrArg (· ^^^ ones) e
    simpa [BitVec.xor_assoc] using this
  rw [hs] at e2
  have e3 : moreR (~~~0#32) l = moreR (~~~0#32) (l.take k ++ l[k] :: l.drop (k + 1)) := congrArg _ hl
  rw [e3, moreR_append, moreR_append] at e2
  generalize moreR (~~~0#32) (l.take k) = n at e2
  have h1 : ∀ c, moreR n (c :: l.drop (k + 1)) = moreR (stepN 8 (n ^^^ wide c)) (l.drop (k + 1)) := fun c => rfl
  rw [h1, h1, show stepN 8 (n ^^^ wide b) = stepN 8 (n ^^^ wide l[k]) ^^^ stepN 8 (wide b ^^^ wide l[k]) from by
    rw [← stepN_xor]; congr 1
    rw [show (n ^^^ wide l[k]) ^^^ (wide b ^^^ wide l[k]) = (n ^^^ wide b) ^^^ (wide l[k] ^^^ wide l[k]) from by ac_rfl, BitVec.xor_self, BitVec.xor_zero], moreR_xor, ← stepN_add] at e2
  have e4 : stepN (8 + 8 * (l.drop (k + 1)).length) (wide b ^^^ wide l[k]) = 0#32 := by
    have := congrArg (moreR (stepN 8 (n ^^^ wide l[k])) (l.drop (k + 1)) ^^^ ·) e2
    simpa [← BitVec.xor_assoc] using this
  exact wide_xor_ne b l[k] hb (stepN_inj _ _ e4)
theorem open_flip (l : List UInt8) (k : Nat) (hk : k < (l ++ tailB (sum l)).length) (b : UInt8) (hb : b ≠ (l ++ tailB (sum l))[k]) : openOk ((l ++ tailB (sum l)).set k b) = false := by
  unfold openOk
  refine decide_eq_false ?_
  rintro ⟨_, e⟩
  have hn : ((l ++ tailB (sum l)).set k b).length - 4 = l.length := by simp [tail_length]
  rw [hn] at e
  by_cases h : k < l.length
  · rw [List.set_append_left _ _ h, List.take_left' (by simp), List.drop_left' (by simp)] at e
    rw [List.getElem_append_left h] at hb
    exact sum_set l k h b hb (tail_inj _ _ e)
  · rw [List.set_append_right _ _ (by omega), List.take_left, List.drop_left] at e
    rw [List.getElem_append_right (by omega)] at hb
    have hk' : k - l.length < (tailB (sum l)).length := by simp at hk; omega
    have : (tailB (sum l))[k - l.length] = b := by
      have := congrArg (·[k - l.length]?) e
      simp only [List.getElem?_set, hk', if_true] at this
      rw [List.getElem?_eq_getElem hk'] at this
      simpa using this
    exact hb this.symm
theorem open_flip' (l wd : List UInt8) (h : l ++ tailB (sum l) = wd) (k : Nat) (hk : k < wd.length) (b : UInt8) (hb : b ≠ wd[k]) : openOk (wd.set k b) = false := by
  subst h; exact open_flip l k hk b hb
end Go.Crc

/- How the sum's numbers stand in the model: 32 bits as an Int. No program. -/
set_option linter.unusedVariables false
namespace Go.Crc
open Go.Rl
abbrev u32 (x : BitVec 32) : Value := .int .u32 (x.toNat : Int)
theorem wrap_u32 (x : BitVec 32) : IntKind.u32.wrap (x.toNat : Int) = (x.toNat : Int) := by
  have := x.isLt
  simp only [IntKind.wrap, IntKind.bits, IntKind.signed, Bool.false_and, Bool.false_eq_true, if_false]
  omega
theorem ofInt_u32 (x : BitVec 32) : BitVec.ofInt 32 (x.toNat : Int) = x := by
  apply BitVec.eq_of_toNat_eq
  simp
theorem b_and (a b : BitVec 32) : arith .and .u32 (a.toNat : Int) (b.toNat : Int) = ((a &&& b).toNat : Int) := by
  simp only [arith]
  rw [show IntKind.u32.bits = 32 from rfl, ofInt_u32, ofInt_u32, wrap_u32]
theorem b_or (a b : BitVec 32) : arith .or .u32 (a.toNat : Int) (b.toNat : Int) = ((a ||| b).toNat : Int) := by
  simp only [arith]
  rw [show IntKind.u32.bits = 32 from rfl, ofInt_u32, ofInt_u32, wrap_u32]
theorem b_xor (a b : BitVec 32) : arith .xor .u32 (a.toNat : Int) (b.toNat : Int) = ((a ^^^ b).toNat : Int) := by
  simp only [arith]
  rw [show IntKind.u32.bits = 32 from rfl, ofInt_u32, ofInt_u32, wrap_u32]
theorem b_not (a : BitVec 32) : arith .xor .u32 (if IntKind.u32.signed then -1 else IntKind.u32.max) (a.toNat : Int) = ((~~~a).toNat : Int) := by
  have h : (if IntKind.u32.signed then -1 else IntKind.u32.max) = (((4294967295#32).toNat : Nat) : Int) := by decide
  rw [h, b_xor]
  congr 2
theorem b_neg (a : BitVec 32) : arith .sub .u32 0 (a.toNat : Int) = ((-a).toNat : Int) := by
  have := a.isLt
  simp only [arith, IntKind.wrap, IntKind.bits, IntKind.signed, Bool.false_and, Bool.false_eq_true, if_false, BitVec.toNat_neg]
  omega
theorem b_shr (a : BitVec 32) (k : Nat) (hk : k ≤ 32) : ((a.toNat : Int)).fdiv (2 ^ (min (k : Int).toNat IntKind.u32.bits)) = ((a >>> k).toNat : Int) := by
  rw [show min (k : Int).toNat IntKind.u32.bits = k from by simp [IntKind.bits]; omega]
  rw [BitVec.toNat_ushiftRight, Nat.shiftRight_eq_div_pow, Int.fdiv_eq_ediv_of_nonneg _ (by exact_mod_cast Nat.zero_le _)]
  norm_cast
theorem b_shl1 (k : Nat) (hk : k < 32) : IntKind.u32.wrap ((1 : Int) * 2 ^ (min (k : Int).toNat IntKind.u32.bits)) = ((1#32 <<< k).toNat : Int) := by
  rw [show min (k : Int).toNat IntKind.u32.bits = k from by simp [IntKind.bits]; omega]
  simp only [IntKind.wrap, IntKind.bits, IntKind.signed, Bool.false_and, Bool.false_eq_true, if_false, BitVec.toNat_shiftLeft, Nat.shiftLeft_eq]
  norm_cast
theorem b_u8 (a : BitVec 32) : IntKind.u8.wrap (a.toNat : Int) = ((a.toNat % 256 : Nat) : Int) := by
  simp only [IntKind.wrap, IntKind.bits, IntKind.signed, Bool.false_and, Bool.false_eq_true, if_false]
  norm_cast
theorem sw (y : BitVec 8) : (y.setWidth 32).toNat = y.toNat := BitVec.toNat_setWidth_of_le (by decide)
theorem b_xor8 (a : BitVec 32) (c : UInt8) : arith .xor .u8 ((a.toNat % 256 : Nat) : Int) (c.toNat : Int) = (((a ^^^ wide c) &&& 255#32).toNat : Int) := by
  have hc := c.toNat_lt
  simp only [arith]
  rw [show IntKind.u8.bits = 8 from rfl]
  have h1 : BitVec.ofInt 8 ((a.toNat % 256 : Nat) : Int) = a.setWidth 8 := by
    apply BitVec.eq_of_toNat_eq
    simp [BitVec.toNat_ofInt]
    omega
  have h2 : BitVec.ofInt 8 (c.toNat : Int) = (wide c).setWidth 8 := by
    apply BitVec.eq_of_toNat_eq
    simp [wide_toNat]
  have h3 : (a ^^^ wide c) &&& 255#32 = ((a ^^^ wide c).setWidth 8).setWidth 32 := by
    apply BitVec.eq_of_getLsbD_eq
    intro i hi
    have : ∀ j : Fin 32, (255#32).getLsbD j.val = decide (j.val < 8) := by decide
    rw [BitVec.getLsbD_and, this ⟨i, hi⟩, BitVec.getLsbD_setWidth, BitVec.getLsbD_setWidth]
    simp [hi, Bool.and_comm]
  rw [h1, h2, h3, ← BitVec.setWidth_xor]
  have := ((a ^^^ wide c).setWidth 8).isLt
  simp only [IntKind.wrap, IntKind.bits, IntKind.signed, Bool.false_and, Bool.false_eq_true, if_false]
  rw [sw]
  omega
theorem conv_u32 (i : Nat) : IntKind.u32.wrap (i : Int) = ((BitVec.ofNat 32 i).toNat : Int) := by
  simp only [IntKind.wrap, IntKind.bits, IntKind.signed, Bool.false_and, Bool.false_eq_true, if_false, BitVec.toNat_ofNat]
  norm_cast
theorem and255 (x : BitVec 32) : (x &&& 255#32).toNat < 256 := by
  rw [BitVec.toNat_and]
  exact Nat.lt_of_le_of_lt Nat.and_le_right (by decide)
theorem crc8i (n : BitVec 32) (c : UInt8) : arith .xor .u32 ((n >>> 8).toNat : Int) ((stepN 8 ((n ^^^ wide c) &&& 255#32)).toNat : Int) = ((stepN 8 (n ^^^ wide c)).toNat : Int) := by rw [b_xor, crc8]
theorem b_u8' (a : BitVec 32) : IntKind.u8.wrap (a.toNat : Int) = ((UInt8.ofNat a.toNat).toNat : Int) := by rw [b_u8]; simp
theorem b_u8at (a : BitVec 32) (k : Nat) : IntKind.u8.wrap ((a >>> k).toNat : Int) = ((byteAt a k).toNat : Int) := b_u8' _
theorem b_u8at0 (a : BitVec 32) : IntKind.u8.wrap (a.toNat : Int) = ((byteAt a 0).toNat : Int) := by
  have := b_u8' (a >>> 0)
  simpa [byteAt] using this
theorem b_mod2 (a : BitVec 32) : ((a.toNat : Int)).tmod 2 = ((a.toNat % 2 : Nat) : Int) := by rw [Int.tmod_eq_emod_of_nonneg (by omega)]; norm_cast
theorem b_half (a : BitVec 32) : IntKind.u32.wrap (((a.toNat : Int)).tdiv 2) = ((a >>> 1).toNat : Int) := by
  rw [Int.tdiv_eq_ediv_of_nonneg (by omega)]
  have : ((a.toNat : Int) / (2 : Int)) = ((a >>> 1).toNat : Int) := by rw [BitVec.toNat_ushiftRight, Nat.shiftRight_eq_div_pow]; omega
  exact (congrArg _ this).trans (wrap_u32 _)
theorem odd_bit (a : BitVec 32) : ((a.toNat % 2 : Nat) : Int) = 1 ↔ a.getLsbD 0 = true := by
  rw [BitVec.getLsbD, Nat.testBit_zero]
  simp
  omega
theorem and1_64 (q : Nat) (h : q < 9223372036854775808) : arith .and .i64 (q : Int) 1 = ((q % 2 : Nat) : Int) := by
  simp only [arith]
  rw [show IntKind.i64.bits = 64 from rfl]
  have h1 : BitVec.ofInt 64 (q : Int) &&& BitVec.ofInt 64 1 = BitVec.ofNat 64 (q % 2) := by
    apply BitVec.eq_of_toNat_eq
    rw [BitVec.toNat_and]
    have h2 : (BitVec.ofInt 64 (q : Int)).toNat = q := by simp; omega
    have h3 : (BitVec.ofInt 64 1).toNat = 1 := rfl
    rw [h2, h3, Nat.and_one_is_mod]
    simp; omega
  rw [h1]
  have : (BitVec.ofNat 64 (q % 2)).toNat = q % 2 := by simp; omega
  rw [this]
  exact wrap_i64 (by omega) (by omega)
theorem shr1_64 (q : Nat) : ((q : Int)).fdiv (2 ^ (min (1 : Int).toNat IntKind.i64.bits)) = ((q / 2 : Nat) : Int) := by
  rw [show min (1 : Int).toNat IntKind.i64.bits = 1 from rfl, Int.fdiv_eq_ediv_of_nonneg _ (by decide)]
  norm_cast
/-- What k steps make of each bit, the first i places; the others are z. -/
def movOf (k i : Nat) (z : Nat → Value) : List Value := (List.range 32).map fun j => if j < i then u32 (stepN k (1#32 <<< j)) else z j
theorem movOf_length (k i : Nat) (z : Nat → Value) : (movOf k i z).length = 32 := by unfold movOf; rw [List.length_map, List.length_range]
theorem movOf_succ (k i : Nat) (z : Nat → Value) : movOf k (i + 1) z = (movOf k i z).set i (u32 (stepN k (1#32 <<< i))) := by
  apply List.ext_getElem
  · simp [movOf]
  · intro j h1 h2
    rw [List.getElem_set]
    simp only [movOf, List.getElem_map, List.getElem_range]
    by_cases hij : i = j
    · subst hij; simp
    · rw [if_neg hij]
      by_cases hlt : j < i
      · rw [if_pos hlt, if_pos (by omega)]
      · rw [if_neg hlt, if_neg (by omega)]
def movRow (k : Nat) : List Value := movOf k 32 fun _ => undef
theorem movRow_length (k : Nat) : (movRow k).length = 32 := movOf_length _ _ _
theorem movOf_full (k : Nat) (z : Nat → Value) : movOf k 32 z = movRow k := by
  unfold movRow movOf
  apply List.map_congr_left
  intro j hj
  have : j < 32 := by simpa using hj
  rw [if_pos this, if_pos this]
theorem movRow_get (k i : Nat) (h : i < 32) : (movRow k)[i]? = some (u32 (stepN k (1#32 <<< i))) := by
  unfold movRow movOf
  rw [List.getElem?_map, List.getElem?_range h]
  simp [h]
theorem movOf_zero (k : Nat) : movOf k 0 (fun _ => u32 0#32) = List.replicate 32 (.int .u32 0) := by
  unfold movOf
  simp only [Nat.not_lt_zero, if_false]
  rw [List.map_const']
  rfl
theorem movOf_zero' (k j : Nat) : movOf j 0 (fun i => u32 (stepN k (1#32 <<< i))) = movRow k := by
  unfold movRow movOf
  apply List.map_congr_left
  intro i hi
  have : i < 32 := by simpa using hi
  rw [if_neg (by omega), if_pos this]
theorem movRow_one (k : Nat) : ∀ u ∈ movRow k, u.oneCell' = true := by
  intro u hu
  obtain ⟨j, hj, rfl⟩ := List.mem_map.1 hu
  have : j < 32 := by simpa using hj
  rw [if_pos this]; rfl
/-- The table's first i places of m. -/
def mkRow (m i : Nat) : List Value := (List.range m).map fun j => if j < i then u32 (stepN 8 (BitVec.ofNat 32 j)) else u32 0#32
theorem mkRow_length (m i : Nat) : (mkRow m i).length = m := by simp [mkRow]
theorem mkRow_zero (m : Nat) : mkRow m 0 = List.replicate m (.int .u32 0) := by
  apply List.ext_getElem
  · simp [mkRow]
  · intro j h1 h2
    simp [mkRow]
theorem mkRow_one (m i : Nat) : ∀ u ∈ mkRow m i, u.oneCell' = true := by
  intro u hu
  obtain ⟨j, _, rfl⟩ := List.mem_map.1 hu
  split <;> rfl
theorem mkRow_succ (m i : Nat) : mkRow m (i + 1) = (mkRow m i).set i (u32 (stepN 8 (BitVec.ofNat 32 i))) := by
  apply List.ext_getElem
  · simp [mkRow]
  · intro j h1 h2
    rw [List.getElem_set]
    simp only [mkRow, List.getElem_map, List.getElem_range]
    by_cases hij : i = j
    · subst hij; simp
    · rw [if_neg hij]
      by_cases hlt : j < i
      · rw [if_pos hlt, if_pos (by omega)]
      · rw [if_neg hlt, if_neg (by omega)]
theorem not_xor (a : BitVec 32) : ~~~a = a ^^^ 4294967295#32 := by
  apply BitVec.eq_of_getLsbD_eq
  intro i hi
  have : ∀ j : Fin 32, (4294967295#32).getLsbD j.val = true := by decide
  rw [BitVec.getLsbD_xor, this ⟨i, hi⟩, BitVec.getLsbD_not]
  simp [hi]
theorem xnot (a : BitVec 32) : arith .xor .u32 (a.toNat : Int) 4294967295 = ((~~~a).toNat : Int) := by
  rw [not_xor]; exact b_xor a 4294967295#32
theorem wide_conv (c : UInt8) : IntKind.u32.wrap (c.toNat : Int) = ((wide c).toNat : Int) := by
  have := c.toNat_lt
  rw [wide_toNat]
  simp only [IntKind.wrap, IntKind.bits, IntKind.signed, Bool.false_and, Bool.false_eq_true, if_false]
  omega
theorem odd_half (q y : Nat) (h : y % 2 = 1) : q + (q + q) * (y / 2) = q * y := by
  obtain ⟨z, rfl⟩ : ∃ z, y = 2 * z + 1 := ⟨y / 2, by omega⟩
  rw [show (2 * z + 1) / 2 = z from by omega, ← Nat.two_mul, Nat.mul_add, Nat.mul_one, ← Nat.mul_assoc, Nat.mul_comm 2 q, Nat.add_comm]
theorem even_half (q y : Nat) (h : ¬ y % 2 = 1) : (q + q) * (y / 2) = q * y := by
  obtain ⟨z, rfl⟩ : ∃ z, y = 2 * z := ⟨y / 2, by omega⟩
  rw [show 2 * z / 2 = z from by omega, ← Nat.two_mul, ← Nat.mul_assoc, Nat.mul_comm 2 q]
theorem b_mod256 (a : BitVec 32) : ((a.toNat : Int)).tmod 256 = ((a.toNat % 256 : Nat) : Int) := (Int.tmod_eq_emod_of_nonneg (by omega)).trans (Int.natCast_emod a.toNat 256).symm
theorem b_u8r (a : BitVec 32) : IntKind.u8.wrap ((a.toNat % 256 : Nat) : Int) = ((UInt8.ofNat a.toNat).toNat : Int) := by
  have h := UInt8.toNat_ofNat' (n := a.toNat)
  rw [h]
  simp only [IntKind.wrap, IntKind.bits, IntKind.signed, Bool.false_and, Bool.false_eq_true, if_false]
  omega
theorem b_div256 (a : BitVec 32) : IntKind.u32.wrap (((a.toNat : Int)).tdiv 256) = ((a >>> 8).toNat : Int) := by
  rw [Int.tdiv_eq_ediv_of_nonneg (by omega)]
  have : ((a.toNat : Int) / (256 : Int)) = ((a >>> 8).toNat : Int) := by rw [BitVec.toNat_ushiftRight, Nat.shiftRight_eq_div_pow]; omega
  exact (congrArg _ this).trans (wrap_u32 _)
theorem tail_take (n : BitVec 32) (i : Nat) (h : i < 4) : (tailB n).take i ++ [byteAt n (8 * i)] = (tailB n).take (i + 1) := by
  match i, h with
  | 0, _ => rfl
  | 1, _ => rfl
  | 2, _ => rfl
  | 3, _ => rfl
theorem mkRow_get (m i : Nat) (h : i < m) : (mkRow m m)[i]? = some (u32 (stepN 8 (BitVec.ofNat 32 i))) := by
  unfold mkRow
  rw [List.getElem?_map, List.getElem?_range h]
  simp [h]
def tabRow (i : Nat) : List Value := mkRow 256 i
theorem tabRow_length (i : Nat) : (tabRow i).length = 256 := mkRow_length _ _
theorem tabRow_zero : tabRow 0 = List.replicate 256 (.int .u32 0) := mkRow_zero _
theorem tabRow_one (i : Nat) : ∀ u ∈ tabRow i, u.oneCell' = true := mkRow_one _ _
theorem tabRow_succ (i : Nat) : tabRow (i + 1) = (tabRow i).set i (u32 (stepN 8 (BitVec.ofNat 32 i))) := mkRow_succ _ _
theorem tab_get (x : BitVec 32) (h : x.toNat < 256) : (tabRow 256)[((x.toNat : Int)).toNat]? = some (u32 (stepN 8 x)) := by
  unfold tabRow
  rw [Int.toNat_natCast, mkRow_get 256 _ h]
  simp
theorem pick_mod (x : Int) (n : Nat) (h0 : 0 ≤ x) (hn : 0 < n) : ∃ k : Nat, x.tmod (n : Int) = (k : Int) ∧ k < n := by
  have h1 := Int.emod_nonneg x (show (n : Int) ≠ 0 by omega)
  have h2 := Int.emod_lt_of_pos x (show (0 : Int) < (n : Int) by omega)
  refine ⟨(x % (n : Int)).toNat, ?_, ?_⟩
  · rw [Int.tmod_eq_emod_of_nonneg h0, Int.toNat_of_nonneg h1]
  · omega
/-- 1 << b as a byte -/
def bitOf (b : Int) : UInt8 := UInt8.ofNat (2 ^ b.toNat)
theorem pow8 (b : Int) (h0 : 0 ≤ b) (h1 : b < 8) : (2 : Nat) ^ b.toNat ≤ 128 ∧ 0 < (2 : Nat) ^ b.toNat := by
  obtain ⟨n, rfl⟩ : ∃ n : Nat, b = n := ⟨b.toNat, by omega⟩
  rw [Int.toNat_natCast]
  have : n ≤ 7 := by omega
  exact ⟨Nat.le_trans (Nat.pow_le_pow_right (by decide) this) (by decide), Nat.two_pow_pos n⟩
theorem shl8 (b : Int) (h0 : 0 ≤ b) (h1 : b < 8) : IntKind.u8.wrap ((1 : Int) * 2 ^ (min b.toNat IntKind.u8.bits)) = ((bitOf b).toNat : Int) := by
  have hp := pow8 b h0 h1
  have h := UInt8.toNat_ofNat' (n := 2 ^ b.toNat)
  rw [show min b.toNat IntKind.u8.bits = b.toNat from by simp [IntKind.bits]; omega]
  unfold bitOf
  rw [h]
  simp only [IntKind.wrap, IntKind.bits, IntKind.signed, Bool.false_and, Bool.false_eq_true, if_false]
  rw [Int.one_mul]
  have : ((2 : Int) ^ b.toNat) = (((2 : Nat) ^ b.toNat : Nat) : Int) := by norm_cast
  rw [this]
  omega
theorem xor8 (a c : UInt8) : arith .xor .u8 (a.toNat : Int) (c.toNat : Int) = ((a ^^^ c).toNat : Int) := by
  have ha := a.toNat_lt
  have hc := c.toNat_lt
  simp only [arith]
  rw [show IntKind.u8.bits = 8 from rfl]
  have h1 : BitVec.ofInt 8 (a.toNat : Int) ^^^ BitVec.ofInt 8 (c.toNat : Int) = (a ^^^ c).toBitVec := by
    apply BitVec.eq_of_toNat_eq
    rw [BitVec.toNat_xor]
    have h2 : ∀ x : UInt8, (BitVec.ofInt 8 (x.toNat : Int)).toNat = x.toNat := fun x => by have := x.toNat_lt; simp
    rw [h2, h2]; rfl
  rw [h1]
  have := (a ^^^ c).toNat_lt
  simp only [IntKind.wrap, IntKind.bits, IntKind.signed, Bool.false_and, Bool.false_eq_true, if_false]
  show (((a ^^^ c).toNat : Int)) % _ = _
  omega
theorem xor_bit_ne (a : UInt8) (b : Int) (h0 : 0 ≤ b) (h1 : b < 8) : a ^^^ bitOf b ≠ a := by
  intro e
  have hp := pow8 b h0 h1
  have : bitOf b = 0 := by
    have := congrArg (a ^^^ ·) e
    simpa [← UInt8.xor_assoc] using this
  have h2 := congrArg UInt8.toNat this
  have h := UInt8.toNat_ofNat' (n := 2 ^ b.toNat)
  unfold bitOf at h2
  rw [h] at h2
  simp at h2
  omega
end Go.Crc
