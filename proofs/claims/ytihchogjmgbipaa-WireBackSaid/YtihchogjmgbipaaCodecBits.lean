import Derived.Test.YtihchogjmgbipaaRl
/- Plain mathematics of numbers and texts as bytes: no Go, no program. -/
set_option linter.unusedVariables false
set_option linter.unusedSimpArgs false
namespace Go.Codec
/-- A number of bytes, the least first. -/
def le : List UInt8 → Nat
  | [] => 0
  | c :: r => c.toNat + 256 * le r
def put (n k : Nat) : List UInt8 := (List.range k).map fun i => UInt8.ofNat (n / 256 ^ i)
def clip (wide : Int) : Nat := (max 0 (min wide 8)).toNat
theorem clip_le (wide : Int) : clip wide ≤ 8 := by unfold clip; omega
theorem clip_of (k : Nat) (h : k ≤ 8) : clip (k : Int) = k := by unfold clip; omega
theorem clip_4 : clip 4 = 4 := rfl
theorem clip_8 : clip 8 = 8 := rfl
theorem put_length (n k : Nat) : (put n k).length = k := by simp [put]
theorem put_zero (n : Nat) : put n 0 = [] := rfl
theorem put_succ (n k : Nat) : put n (k + 1) = put n k ++ [UInt8.ofNat (n / 256 ^ k)] := by simp [put, List.range_succ]
theorem put_cons (n k : Nat) : put n (k + 1) = UInt8.ofNat n :: put (n / 256) k := by
  unfold put
  rw [List.range_succ_eq_map, List.map_cons, List.map_map]
  congr 1
  · simp
  · apply List.map_congr_left
    intro i _
    simp only [Function.comp]
    rw [Nat.pow_succ', Nat.div_div_eq_div_mul]
theorem le_put (k : Nat) : ∀ n, le (put n k) = n % 256 ^ k := by
  induction k with
  | zero => intro n; simp [put, le, Nat.mod_one]
  | succ k ih =>
    intro n
    rw [put_cons, le, ih]
    have h : (UInt8.ofNat n).toNat = n % 256 := by simp
    rw [h, Nat.pow_succ', Nat.mod_mul]
theorem le_append (a b : List UInt8) : le (a ++ b) = le a + 256 ^ a.length * le b := by
  induction a with
  | nil => simp [le]
  | cons c r ih =>
    simp only [List.cons_append, le, ih, List.length_cons, Nat.pow_succ']
    rw [Nat.mul_add, Nat.mul_assoc]; omega
theorem le_lt (l : List UInt8) : le l < 256 ^ l.length := by
  induction l with
  | nil => simp [le]
  | cons c r ih =>
    have := c.toNat_lt
    simp only [le, List.length_cons, Nat.pow_succ']
    omega
theorem le_lt64 (l : List UInt8) (h : l.length ≤ 8) : le l < 18446744073709551616 := by
  have h1 := le_lt l
  have h2 : 256 ^ l.length ≤ 256 ^ 8 := Nat.pow_le_pow_right (by decide) h
  have h3 : (256 : Nat) ^ 8 = 18446744073709551616 := by decide
  omega
theorem le_lt32 (l : List UInt8) (h : l.length ≤ 4) : le l < 4294967296 := by
  have h1 := le_lt l
  have h2 : 256 ^ l.length ≤ 256 ^ 4 := Nat.pow_le_pow_right (by decide) h
  have h3 : (256 : Nat) ^ 4 = 4294967296 := by decide
  omega
theorem le_snoc (l : List UInt8) (i : Nat) (h : i < l.length) : le (l.take (i + 1)) = le (l.take i) + l[i].toNat * 256 ^ i := by
  rw [List.take_succ_eq_append_getElem h, le_append]
  have : (l.take i).length = i := by simp; omega
  rw [this, le, le, Nat.mul_zero, Nat.add_zero, Nat.mul_comm]
/-- an int as 64 bits, and back -/
def toU (x : Int) : Nat := (x % 18446744073709551616).toNat
def toI (n : Nat) : Int := if n < 9223372036854775808 then n else (n : Int) - 18446744073709551616
theorem toU_lt (x : Int) : toU x < 18446744073709551616 := by unfold toU; omega
theorem toI_toU (x : Int) (h0 : -9223372036854775808 ≤ x) (h1 : x ≤ 9223372036854775807) : toI (toU x) = x := by unfold toI toU; split <;> omega
theorem toU_nat (n : Nat) (h : n < 18446744073709551616) : toU (n : Int) = n := by unfold toU; omega
def putInts (l : List Int) : List UInt8 := put l.length 4 ++ l.flatMap fun x => put (toU x) 8
def putText (s : List UInt8) : List UInt8 := put s.length 4 ++ s
theorem flat_length (l : List Int) : (l.flatMap fun x => put (toU x) 8).length = 8 * l.length := by
  induction l with
  | nil => rfl
  | cons x r ih => simp only [List.flatMap_cons, List.length_append, ih, put_length, List.length_cons]; omega
theorem putInts_length (l : List Int) : (putInts l).length = 4 + 8 * l.length := by unfold putInts; rw [List.length_append, flat_length, put_length]
theorem putText_length (l : List UInt8) : (putText l).length = 4 + l.length := by unfold putText; rw [List.length_append, put_length]
theorem flat_snoc (l : List Int) (i : Nat) (h : i < l.length) : ((l.take (i + 1)).flatMap fun x => put (toU x) 8) = ((l.take i).flatMap fun x => put (toU x) 8) ++ put (toU l[i]) 8 := by
  rw [List.take_succ_eq_append_getElem h, List.flatMap_append]; simp
/-! ### A reader: what is left, and the first error -/
abbrev St := List UInt8 × Int
def takeR (s : St) (k : Nat) : St × List UInt8 := if s.2 ≠ 0 then (s, []) else if s.1.length < k then (([], 10), []) else ((s.1.drop k, 0), s.1.take k)
theorem eta {α β : Type} (p : α × β) : p = (p.1, p.2) := rfl
def numR (s : St) (k : Nat) : St × Nat := ((takeR s k).1, le (takeR s k).2)
theorem takeR_bad {s : St} (k : Nat) (h : s.2 ≠ 0) : takeR s k = (s, []) := by unfold takeR; rw [if_pos h]
theorem takeR_short {s : St} {k : Nat} (h : s.2 = 0) (h2 : s.1.length < k) : takeR s k = (([], 10), []) := by unfold takeR; rw [if_neg (by simp [h]), if_pos h2]
theorem takeR_ok {s : St} {k : Nat} (h : s.2 = 0) (h2 : k ≤ s.1.length) : takeR s k = ((s.1.drop k, 0), s.1.take k) := by unfold takeR; rw [if_neg (by simp [h]), if_neg (by omega)]
theorem takeR_len (s : St) (k : Nat) : (takeR s k).2.length ≤ k := by
  unfold takeR
  split
  · simp
  · split
    · simp
    · simp; omega
def ints8 : Nat → List UInt8 → List Int
  | 0, _ => []
  | n + 1, l => toI (le (l.take 8)) :: ints8 n (l.drop 8)
/-- What a row takes: its bytes. -/
def rowR (s : St) (most : Int) (size : Nat) : St × List UInt8 :=
  if (numR s 4).1.2 ≠ 0 then ((numR s 4).1, []) else if most < 0 ∨ most < ((numR s 4).2 : Int) then (([], 3), []) else takeR (numR s 4).1 ((numR s 4).2 * size)
def intsR (s : St) (most : Int) : St × List Int := ((rowR s most 8).1, ints8 ((rowR s most 8).2.length / 8) (rowR s most 8).2)
def textR (s : St) (most : Int) : St × List UInt8 := rowR s most 1
theorem takeR_sub (s : St) (k : Nat) : (takeR s k).1.1.length ≤ s.1.length ∧ (takeR s k).2.length ≤ s.1.length := by
  unfold takeR
  split
  · exact ⟨Nat.le_refl _, Nat.zero_le _⟩
  · split
    · exact ⟨Nat.zero_le _, Nat.zero_le _⟩
    · exact ⟨by simp, by simp; omega⟩
theorem takeR_dvd (s : St) (n size : Nat) : size ∣ (takeR s (n * size)).2.length := by
  unfold takeR
  split
  · exact Nat.dvd_zero _
  · split
    · exact Nat.dvd_zero _
    · have : (s.1.take (n * size)).length = n * size := by simp; omega
      rw [this]; exact Nat.dvd_mul_left _ _
def endR (s : St) : Int := if s.2 ≠ 0 then s.2 else if 0 < s.1.length then 5 else 0
theorem numR_lt (s : St) (k : Nat) (h : k ≤ 8) : (numR s k).2 < 18446744073709551616 := le_lt64 _ (Nat.le_trans (takeR_len s k) h)
theorem numR_lt32 (s : St) : (numR s 4).2 < 4294967296 := le_lt32 _ (takeR_len s 4)
theorem ints8_succ (n : Nat) : ∀ (l : List UInt8) (i : Nat), ints8 n l = ints8 n (l.take (n * 8)) := by
  induction n with
  | zero => intro l i; rfl
  | succ n ih =>
    intro l i
    simp only [ints8]
    rw [List.take_take, Nat.min_eq_left (by omega), ih (l.drop 8) i, ih ((l.take ((n + 1) * 8)).drop 8) i]
    congr 2
    rw [List.drop_take, List.take_take]
    congr 1
    omega
/-- One more of a row. -/
theorem ints8_snoc (i : Nat) : ∀ l : List UInt8, ints8 (i + 1) l = ints8 i l ++ [toI (le ((l.drop (i * 8)).take 8))] := by
  induction i with
  | zero => intro l; simp [ints8]
  | succ i ih =>
    intro l
    rw [ints8, ih (l.drop 8), ints8, List.drop_drop, List.cons_append, show 8 + i * 8 = (i + 1) * 8 from by omega]
theorem ints8_length (n : Nat) : ∀ l, (ints8 n l).length = n := by
  induction n with
  | zero => intro l; rfl
  | succ n ih => intro l; simp [ints8, ih]
theorem ints8_flat (l : List Int) (h : ∀ x ∈ l, -9223372036854775808 ≤ x ∧ x ≤ 9223372036854775807) : ints8 l.length (l.flatMap fun x => put (toU x) 8) = l := by
  induction l with
  | nil => rfl
  | cons x r ih =>
    simp only [List.length_cons, ints8, List.flatMap_cons]
    have hl : (put (toU x) 8).length = 8 := put_length _ _
    rw [List.take_left' hl, List.drop_left' hl, ih (fun y hy => h y (List.mem_cons_of_mem _ hy)), le_put]
    have hx := h x (List.mem_cons_self ..)
    rw [show (256 : Nat) ^ 8 = 18446744073709551616 from by decide, Nat.mod_eq_of_lt (toU_lt x), toI_toU x hx.1 hx.2]
/-! ### What was put is taken -/
theorem pow8 : (256 : Nat) ^ 8 = 18446744073709551616 := by decide
theorem pow4 : (256 : Nat) ^ 4 = 4294967296 := by decide
theorem mod8 (n : Nat) (h : n < 18446744073709551616) : n % 256 ^ 8 = n := by rw [pow8, Nat.mod_eq_of_lt h]
theorem numR_put (n k : Nat) (y : List UInt8) : numR (put n k ++ y, 0) k = ((y, 0), n % 256 ^ k) := by
  unfold numR
  rw [takeR_ok rfl (by simp [put_length])]
  simp only [List.drop_left' (put_length n k), List.take_left' (put_length n k), le_put]
theorem numR_all (n k : Nat) : numR (put n k, 0) k = (([], 0), n % 256 ^ k) := by
  have := numR_put n k []
  simpa using this
theorem numR_bad {s : St} (k : Nat) (h : s.2 ≠ 0) : numR s k = (s, 0) := by unfold numR; rw [takeR_bad k h]; rfl
theorem numR_short {s : St} {k : Nat} (h : s.2 = 0) (h2 : s.1.length < k) : numR s k = (([], 10), 0) := by unfold numR; rw [takeR_short h h2]; rfl
theorem rowR_bad {s : St} (most : Int) (size : Nat) (h : s.2 ≠ 0) : rowR s most size = (s, []) := by unfold rowR; rw [numR_bad 4 h, if_pos h]
theorem intsR_bad {s : St} (most : Int) (h : s.2 ≠ 0) : intsR s most = (s, []) := by unfold intsR; rw [rowR_bad most 8 h]; simp [ints8]
theorem textR_bad {s : St} (most : Int) (h : s.2 ≠ 0) : textR s most = (s, []) := by unfold textR; rw [rowR_bad most 1 h]
theorem rowR_put (cnt size : Nat) (body y : List UInt8) (most : Int) (h1 : body.length = cnt * size) (h2 : (cnt : Int) ≤ most) (h3 : cnt < 4294967296) : rowR (put cnt 4 ++ (body ++ y), 0) most size = ((y, 0), body) := by
  unfold rowR
  rw [numR_put, if_neg (by simp), if_neg (by rw [pow4, Nat.mod_eq_of_lt h3]; omega), takeR_ok rfl (by rw [pow4, Nat.mod_eq_of_lt h3]; simp [h1])]
  rw [pow4, Nat.mod_eq_of_lt h3]
  simp only [List.drop_left' h1, List.take_left' h1]
theorem rowR_long (cnt size : Nat) (y : List UInt8) (most : Int) (h2 : most < (cnt : Int)) (h3 : cnt < 4294967296) : rowR (put cnt 4 ++ y, 0) most size = (([], 3), []) := by
  unfold rowR
  rw [numR_put, if_neg (by simp), if_pos (by rw [pow4, Nat.mod_eq_of_lt h3]; omega)]
theorem rowR_short (cnt size m : Nat) (z : List UInt8) (most : Int) (h2 : (cnt : Int) ≤ most) (h3 : cnt < 4294967296) (hm : m < 4 + cnt * size) : rowR ((put cnt 4 ++ z).take m, 0) most size = (([], 10), []) := by
  unfold rowR
  by_cases h4 : m < 4
  · rw [numR_short rfl (by simp; omega), if_pos (by decide)]
  · have h : (put cnt 4 ++ z).take m = put cnt 4 ++ z.take (m - 4) := by rw [List.take_append, List.take_of_length_le (by rw [put_length]; omega), put_length]
    rw [h, numR_put, if_neg (by simp), if_neg (by rw [pow4, Nat.mod_eq_of_lt h3]; omega), takeR_short rfl (by rw [pow4, Nat.mod_eq_of_lt h3]; simp; omega)]
def Ints64 (l : List Int) : Prop := ∀ x ∈ l, -9223372036854775808 ≤ x ∧ x ≤ 9223372036854775807
theorem intsR_put (l : List Int) (y : List UInt8) (most : Int) (hl : Ints64 l) (h2 : (l.length : Int) ≤ most) (h3 : l.length < 4294967296) : intsR (putInts l ++ y, 0) most = ((y, 0), l) := by
  unfold intsR putInts
  rw [List.append_assoc, rowR_put l.length 8 _ y most (by rw [flat_length]; omega) h2 h3, flat_length]
  have : 8 * l.length / 8 = l.length := by omega
  simp only [this, ints8_flat l hl]
theorem intsR_long (l : List Int) (y : List UInt8) (most : Int) (h2 : most < (l.length : Int)) (h3 : l.length < 4294967296) : intsR (putInts l ++ y, 0) most = (([], 3), []) := by
  unfold intsR putInts
  rw [List.append_assoc, rowR_long l.length 8 _ most h2 h3]
  simp [ints8]
theorem intsR_short (l : List Int) (y : List UInt8) (most : Int) (m : Nat) (h2 : (l.length : Int) ≤ most) (h3 : l.length < 4294967296) (hm : m < 4 + 8 * l.length) : intsR ((putInts l ++ y).take m, 0) most = (([], 10), []) := by
  unfold intsR putInts
  rw [List.append_assoc, rowR_short l.length 8 m _ most h2 h3 (by omega)]
  simp [ints8]
theorem textR_put (s y : List UInt8) (most : Int) (h2 : (s.length : Int) ≤ most) (h3 : s.length < 4294967296) : textR (putText s ++ y, 0) most = ((y, 0), s) := by
  unfold textR putText
  rw [List.append_assoc, rowR_put s.length 1 s y most (by omega) h2 h3]
theorem textR_long (s y : List UInt8) (most : Int) (h2 : most < (s.length : Int)) (h3 : s.length < 4294967296) : textR (putText s ++ y, 0) most = (([], 3), []) := by
  unfold textR putText
  rw [List.append_assoc, rowR_long s.length 1 _ most h2 h3]
theorem textR_short (s y : List UInt8) (most : Int) (m : Nat) (h2 : (s.length : Int) ≤ most) (h3 : s.length < 4294967296) (hm : m < 4 + s.length) : textR ((putText s ++ y).take m, 0) most = (([], 10), []) := by
  unfold textR putText
  rw [List.append_assoc, rowR_short s.length 1 m _ most h2 h3 (by omega)]
theorem intsR_put' (l : List Int) (most : Int) (hl : Ints64 l) (h2 : (l.length : Int) ≤ most) (h3 : l.length < 4294967296) : intsR (putInts l, 0) most = (([], 0), l) := by
  have := intsR_put l [] most hl h2 h3
  rwa [List.append_nil] at this
theorem intsR_long' (l : List Int) (most : Int) (h2 : most < (l.length : Int)) (h3 : l.length < 4294967296) : intsR (putInts l, 0) most = (([], 3), []) := by
  have := intsR_long l [] most h2 h3
  rwa [List.append_nil] at this
theorem textR_put' (s : List UInt8) (most : Int) (h2 : (s.length : Int) ≤ most) (h3 : s.length < 4294967296) : textR (putText s, 0) most = (([], 0), s) := by
  have := textR_put s [] most h2 h3
  rwa [List.append_nil] at this
theorem textR_long' (s : List UInt8) (most : Int) (h2 : most < (s.length : Int)) (h3 : s.length < 4294967296) : textR (putText s, 0) most = (([], 3), []) := by
  have := textR_long s [] most h2 h3
  rwa [List.append_nil] at this
theorem textR_short' (s : List UInt8) (most : Int) (m : Nat) (h2 : (s.length : Int) ≤ most) (h3 : s.length < 4294967296) (hm : m < 4 + s.length) : textR ((putText s).take m, 0) most = (([], 10), []) := by
  have := textR_short s [] most m h2 h3 hm
  rwa [List.append_nil] at this
theorem endR_bad {s : St} (h : s.2 ≠ 0) : endR s = s.2 := by unfold endR; rw [if_pos h]
/-- Put one behind the other, and cut anywhere, something is too short. -/
theorem back_cut (n : Nat) (l : List Int) (s : List UInt8) (m : Nat) (h3 : l.length < 4294967296) (h4 : s.length < 4294967296) (hm : m < (put n 8 ++ putInts l ++ putText s).length) :
    (textR (intsR (numR ((put n 8 ++ putInts l ++ putText s).take m, 0) 8).1 l.length).1 s.length).1 = ([], 10) := by
  simp only [List.length_append, put_length, putInts_length, putText_length] at hm
  by_cases h8 : m < 8
  · rw [numR_short rfl (by simp; omega), intsR_bad _ (by decide), textR_bad _ (by decide)]
  · have h : (put n 8 ++ putInts l ++ putText s).take m = put n 8 ++ (putInts l ++ putText s).take (m - 8) := by rw [List.append_assoc, List.take_append, List.take_of_length_le (by rw [put_length]; omega), put_length]
    rw [h, numR_put]
    by_cases hi : m - 8 < 4 + 8 * l.length
    · rw [intsR_short l _ _ _ (Int.le_refl _) h3 hi, textR_bad _ (by decide)]
    · rw [List.take_append, List.take_of_length_le (by rw [putInts_length]; omega), putInts_length]
      have hs := textR_short s [] s.length (m - 8 - (4 + 8 * l.length)) (Int.le_refl _) h4 (by omega)
      rw [List.append_nil] at hs
      unfold intsR
      have := rowR_put l.length 8 (l.flatMap fun x => put (toU x) 8) ((putText s).take (m - 8 - (4 + 8 * l.length))) l.length (by rw [flat_length]; omega) (Int.le_refl _) h3
      rw [← List.append_assoc] at this
      change rowR (putInts l ++ _, 0) _ _ = _ at this
      rw [this, hs]
/-! ### Behind the first error nothing is left -/
def Sane (s : St) : Prop := s.2 ≠ 0 → s.1 = []
theorem sane_take {s : St} (h : Sane s) (k : Nat) : Sane (takeR s k).1 := by
  unfold takeR
  split
  · exact h
  · split
    · intro _; rfl
    · intro h; exact absurd rfl h
theorem sane_num {s : St} (h : Sane s) (k : Nat) : Sane (numR s k).1 := sane_take h k
theorem sane_row {s : St} (h : Sane s) (most : Int) (size : Nat) : Sane (rowR s most size).1 := by
  unfold rowR
  split
  · exact sane_num h 4
  · split
    · intro _; rfl
    · exact sane_take (sane_num h 4) _
theorem sane_ints {s : St} (h : Sane s) (most : Int) : Sane (intsR s most).1 := sane_row h most 8
theorem sane_text {s : St} (h : Sane s) (most : Int) : Sane (textR s most).1 := sane_row h most 1
theorem num_sub (s : St) (k : Nat) : (numR s k).1.1.length ≤ s.1.length := (takeR_sub s k).1
theorem row_sub (s : St) (most : Int) (size : Nat) : (rowR s most size).1.1.length ≤ s.1.length := by
  unfold rowR
  split
  · exact num_sub s 4
  · split
    · exact Nat.zero_le _
    · exact Nat.le_trans (takeR_sub _ _).1 (num_sub s 4)
theorem ints_sub (s : St) (most : Int) : (intsR s most).1.1.length ≤ s.1.length := row_sub s most 8
theorem text_sub (s : St) (most : Int) : (textR s most).1.1.length ≤ s.1.length := row_sub s most 1
end Go.Codec

/- How numbers of bytes stand in the model. No program. -/
set_option linter.unusedVariables false
namespace Go.Codec
open Go.Rl
abbrev vi (x : Int) : Value := .int .i64 x
theorem pow256 (i : Nat) : (2 : Int) ^ (8 * i) = ((256 ^ i : Nat) : Int) := by
  rw [Int.pow_mul]; norm_cast
theorem wrap_u64 (x : Int) : IntKind.u64.wrap x = (toU x : Int) := by
  simp only [IntKind.wrap, IntKind.bits, IntKind.signed, Bool.false_and, Bool.false_eq_true, if_false, toU]
  omega
theorem wrap_u64n (n : Nat) (h : n < 18446744073709551616) : IntKind.u64.wrap (n : Int) = (n : Int) := by rw [wrap_u64, toU_nat n h]
theorem wrap_i64n (n : Nat) (h : n < 18446744073709551616) : IntKind.i64.wrap (n : Int) = toI n := by
  simp only [IntKind.wrap, IntKind.bits, IntKind.signed, Bool.true_and, toI]
  split <;> split <;> simp_all <;> omega
theorem wrap_u8n (n : Nat) : IntKind.u8.wrap (n : Int) = ((UInt8.ofNat n).toNat : Int) := by
  have h := UInt8.toNat_ofNat' (n := n)
  rw [h]
  simp only [IntKind.wrap, IntKind.bits, IntKind.signed, Bool.false_and, Bool.false_eq_true, if_false]
  omega
theorem shr_byte (n i : Nat) (hi : i ≤ 8) : ((n : Int)).fdiv (2 ^ (min (8 * (i : Int)).toNat IntKind.u64.bits)) = ((n / 256 ^ i : Nat) : Int) := by
  have h : min (8 * (i : Int)).toNat IntKind.u64.bits = 8 * i := by simp [IntKind.bits]; omega
  rw [h, pow256, Int.fdiv_eq_ediv_of_nonneg _ (Int.natCast_nonneg _)]
  norm_cast
theorem shl_byte (c : UInt8) (i : Nat) (hi : i < 8) : IntKind.u64.wrap (((c.toNat : Int)) * 2 ^ (min (8 * (i : Int)).toNat IntKind.u64.bits)) = ((c.toNat * 256 ^ i : Nat) : Int) := by
  have h : min (8 * (i : Int)).toNat IntKind.u64.bits = 8 * i := by simp [IntKind.bits]; omega
  rw [h, pow256]
  have hc := c.toNat_lt
  have : c.toNat * 256 ^ i < 18446744073709551616 := by
    have h1 : 256 ^ i ≤ 256 ^ 7 := Nat.pow_le_pow_right (by decide) (by omega)
    have h2 : c.toNat * 256 ^ i ≤ 255 * 256 ^ 7 := Nat.mul_le_mul (by omega) h1
    have h3 : 255 * (256 : Nat) ^ 7 < 18446744073709551616 := by decide
    omega
  rw [show ((c.toNat : Int)) * ((256 ^ i : Nat) : Int) = ((c.toNat * 256 ^ i : Nat) : Int) from by norm_cast, wrap_u64n _ this]
theorem or_byte (a c i : Nat) (ha : a < 256 ^ i) (hc : c < 256) (hi : i < 8) : arith .or .u64 (a : Int) ((c * 256 ^ i : Nat) : Int) = ((a + c * 256 ^ i : Nat) : Int) := by
  simp only [arith]
  rw [show IntKind.u64.bits = 64 from rfl]
  have h7 : 256 ^ i ≤ 256 ^ 7 := Nat.pow_le_pow_right (by decide) (by omega)
  have h8 : (256 : Nat) ^ 7 = 72057594037927936 := by decide
  have hb : c * 256 ^ i ≤ 255 * 256 ^ 7 := Nat.mul_le_mul (by omega) h7
  have h1 : (BitVec.ofInt 64 (a : Int) ||| BitVec.ofInt 64 ((c * 256 ^ i : Nat) : Int)).toNat = a + c * 256 ^ i := by
    rw [BitVec.toNat_or]
    have e : ∀ x : Nat, x < 18446744073709551616 → (BitVec.ofInt 64 (x : Int)).toNat = x := fun x hx => by simp; omega
    rw [e a (by omega), e _ (by omega)]
    have hp : (256 : Nat) ^ i = 2 ^ (8 * i) := by rw [Nat.pow_mul]
    rw [hp] at ha ⊢
    rw [Nat.or_comm, Nat.mul_comm c, ← Nat.two_pow_add_eq_or_of_lt ha, Nat.add_comm]
  rw [h1, wrap_u64n _ (by omega)]
/-- The first i bytes of n, the others 0. -/
def putPart (n K i : Nat) : List UInt8 := (List.range K).map fun j => if j < i then UInt8.ofNat (n / 256 ^ j) else 0
theorem putPart_length (n K i : Nat) : (putPart n K i).length = K := by simp [putPart]
theorem putPart_zero (n K : Nat) : putPart n K 0 = List.replicate K 0 := by
  unfold putPart
  simp only [Nat.not_lt_zero, if_false]
  rw [List.map_const', List.length_range]
theorem putPart_full (n K : Nat) : putPart n K K = put n K := by
  unfold putPart put
  apply List.map_congr_left
  intro j hj
  rw [if_pos (by simpa using hj)]
theorem putPart_succ (n K i : Nat) : putPart n K (i + 1) = (putPart n K i).set i (UInt8.ofNat (n / 256 ^ i)) := by
  apply List.ext_getElem
  · simp [putPart]
  · intro j h1 h2
    rw [List.getElem_set]
    simp only [putPart, List.getElem_map, List.getElem_range]
    by_cases hij : i = j
    · subst hij; simp
    · rw [if_neg hij]
      by_cases hlt : j < i
      · rw [if_pos hlt, if_pos (by omega)]
      · rw [if_neg hlt, if_neg (by omega)]
/-- A reader in block g: it has its bytes, and the first error; all that it has lies in blocks from lo to hi. -/
def Rd (T : TypeId) (w : World) (lo hi g : Nat) (s : St) : Prop := lo ≤ g ∧ g < hi ∧ ∃ v, Blk w g [v, .int .i64 s.2] T ∧ Sl vb w v s.1 ∧ ∀ k, v.ownBlock = some k → lo ≤ k ∧ k < hi ∧ k ≠ g
theorem Rd.mod {T : TypeId} {M : Nat → Prop} {w w' : World} {lo hi g : Nat} {s : St} (h : Rd T w lo hi g s) (hm : Mod M w w') (hM : ∀ k, lo ≤ k → k < hi → ¬ M k) : Rd T w' lo hi g s := by
  obtain ⟨hb, hc, v, h1, h2, h3⟩ := h
  exact ⟨hb, hc, v, h1.mod hm (hM g hb hc), h2.mod hm (fun k hk => hM k (h3 k hk).1 (h3 k hk).2.1), h3⟩
theorem Rd.ext {T : TypeId} {w w' : World} {lo hi g : Nat} {s : St} (h : Rd T w lo hi g s) (hm : Ext w w') : Rd T w' lo hi g s := h.mod hm (fun _ _ _ e => e)
theorem Rd.lt {T : TypeId} {w : World} {lo hi g : Nat} {s : St} (h : Rd T w lo hi g s) : lo ≤ g ∧ g < hi ∧ g < w.heap.size := by
  obtain ⟨hb, hc, v, h1, _⟩ := h
  exact ⟨hb, hc, h1.lt⟩
theorem shl_one (i : Nat) (hi : i < 8) : IntKind.u64.wrap (1 * 2 ^ (min (8 * (i : Int)).toNat IntKind.u64.bits)) = ((256 ^ i : Nat) : Int) := by
  have := shl_byte 1 i hi
  simpa using this
theorem tmod_nat (a b : Nat) : ((a : Int)).tmod ((b : Nat) : Int) = ((a % b : Nat) : Int) := by
  rw [Int.tmod_eq_emod_of_nonneg (Int.natCast_nonneg _)]; rfl
theorem pow_ne (k : Nat) : ((256 ^ k : Nat) : Int) ≠ 0 := by
  have : 0 < 256 ^ k := Nat.pow_pos (by decide)
  intro h
  have : 256 ^ k = 0 := by exact_mod_cast h
  omega
theorem clip_big (b : Int) (h : 0 ≤ b) : clip (8 + b) = 8 := by unfold clip; omega
theorem clip_neg (b : Int) (h : 0 ≤ b) : clip (-b) = 0 := by unfold clip; omega
theorem numR_none (s : St) : (numR s 0).2 = 0 := by
  unfold numR takeR
  split
  · rfl
  · split
    · rfl
    · simp [le]
theorem pick_nat (a : Int) (n : Nat) (h : 0 ≤ a) (hn : 0 < n) : ∃ m : Nat, a.tmod (n : Int) = (m : Int) ∧ m < n := by
  refine ⟨(a % (n : Int)).toNat, ?_, ?_⟩
  · rw [Int.tmod_eq_emod_of_nonneg h, Int.toNat_of_nonneg (Int.emod_nonneg _ (by omega))]
  · have := Int.emod_lt_of_pos a (show (0 : Int) < n by omega)
    have := Int.emod_nonneg a (show (n : Int) ≠ 0 by omega)
    omega
theorem u8_mod (n : Nat) : UInt8.ofNat (n % 256) = UInt8.ofNat n := by
  apply UInt8.toNat.inj
  simp
theorem rem256 (n : Nat) : ((n : Int)).tmod 256 = ((n % 256 : Nat) : Int) := by
  rw [Int.tmod_eq_emod_of_nonneg (Int.natCast_nonneg _)]; omega
theorem quo256 (n i : Nat) (h : n / 256 ^ i < 18446744073709551616) : IntKind.u64.wrap (((n / 256 ^ i : Nat) : Int).tdiv 256) = ((n / 256 ^ (i + 1) : Nat) : Int) := by
  rw [Int.tdiv_eq_ediv_of_nonneg (Int.natCast_nonneg _), Nat.pow_succ, ← Nat.div_div_eq_div_mul]
  generalize n / 256 ^ i = m at *
  rw [show ((m : Int)) / 256 = ((m / 256 : Nat) : Int) from by omega, wrap_u64n _ (by omega)]
theorem ownNil8 (E : TypeId) (w : World) (base : Nat) : Own vi E w base (.slice none 0 0) (ints8 (([] : List UInt8).length / 8) []) := Own.nil _ _ _ _
end Go.Codec
