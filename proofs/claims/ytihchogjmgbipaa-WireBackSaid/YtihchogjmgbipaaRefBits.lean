import Derived.Test.YtihchogjmgbipaaRl
import Derived.Test.YtihchogjmgbipaaCodecBits
/- The document's own reader, in plain terms, and its values in the model. No program. -/
set_option linter.unusedVariables false
namespace Go.Codec
open Go.Rl
/-- The document's reader as a value: what is left, and the first error. -/
abbrev TV (v : Value) (e : Int) : Value := .agg #[v, .int .i64 e]
theorem oneTV (A : Option Addr) (m c : Nat) (e : Int) : ∀ u ∈ [Value.slice A m c, .int .i64 e], u.oneCell' = true := by
  intro u hu
  simp only [List.mem_cons, List.not_mem_nil, or_false] at hu
  rcases hu with rfl | rfl <;> rfl
theorem mulu (n : Nat) (h : 256 * n < 18446744073709551616) : arith .mul .u64 256 (n : Int) = ((256 * n : Nat) : Int) := by
  show IntKind.u64.wrap (256 * (n : Int)) = _
  rw [show (256 * (n : Int)) = ((256 * n : Nat) : Int) by omega, wrap_u64n _ h]
theorem addu (a b : Nat) (h : a + b < 18446744073709551616) : arith .add .u64 (a : Int) (b : Int) = ((a + b : Nat) : Int) := by
  show IntKind.u64.wrap ((a : Int) + (b : Int)) = _
  rw [show ((a : Int) + (b : Int)) = ((a + b : Nat) : Int) by omega, wrap_u64n _ h]
theorem le_back (l : List UInt8) (k j : Nat) (hj : 0 < j) (hk : j ≤ k) (hl : k ≤ l.length) : le ((l.take k).drop (j - 1)) = 256 * le ((l.take k).drop j) + (l[j - 1]'(by omega)).toNat := by
  rw [List.drop_eq_getElem_cons (show j - 1 < (l.take k).length by simp; omega), le]
  rw [show j - 1 + 1 = j by omega, List.getElem_take]
  omega
theorem le_back_lt (l : List UInt8) (k j : Nat) (hk : k ≤ 8) : le ((l.take k).drop j) < 18446744073709551616 := le_lt64 _ (by simp; omega)
def manyR (s : St) (most : Int) (size : Nat) : St × Int :=
  if (numR s 4).1.2 ≠ 0 then ((numR s 4).1, -1) else if most < 0 ∨ most < ((numR s 4).2 : Int) then (([], 3), -1)
  else if (numR s 4).1.1.length / size < (numR s 4).2 then (([], 10), -1) else ((numR s 4).1, ((numR s 4).2 : Int))
theorem many_row (s : St) (most : Int) (size : Nat) (hz : 0 < size) :
    ((manyR s most size).2 = -1 ∧ rowR s most size = ((manyR s most size).1, [])) ∨
    (∃ n : Nat, (manyR s most size).2 = (n : Int) ∧ (manyR s most size).1.2 = 0 ∧ n * size ≤ (manyR s most size).1.1.length ∧ n < 4294967296 ∧ rowR s most size = (((manyR s most size).1.1.drop (n * size), 0), (manyR s most size).1.1.take (n * size))) := by
  unfold manyR rowR
  have hn := numR_lt32 s
  generalize (numR s 4).1 = t at *
  generalize (numR s 4).2 = n at *
  split
  · exact .inl ⟨rfl, rfl⟩
  · split
    · exact .inl ⟨rfl, rfl⟩
    · rename_i h1 h2
      have h0 : t.2 = 0 := Decidable.not_not.1 h1
      split
      · rename_i h3
        left
        refine ⟨rfl, ?_⟩
        have : t.1.length < n * size := by
          have := Nat.div_lt_iff_lt_mul hz (x := t.1.length) (y := n)
          exact this.1 h3
        rw [takeR_short h0 this]
      · rename_i h3
        right
        have : n * size ≤ t.1.length := by
          have := Nat.le_div_iff_mul_le hz (x := n) (y := t.1.length)
          exact this.1 (by omega)
        exact ⟨n, rfl, h0, this, hn, takeR_ok h0 this⟩
theorem many_ints (s : St) (most : Int) : ∃ N : Nat, N < 4294967296 ∧ (0 < N → (manyR s most 8).2 = (N : Int)) ∧ (N = 0 → (manyR s most 8).2 ≤ 0) ∧ N * 8 ≤ (manyR s most 8).1.1.length ∧ (0 < N → (manyR s most 8).1.2 = 0) ∧
    (intsR s most).1 = ((manyR s most 8).1.1.drop (N * 8), (manyR s most 8).1.2) ∧ (intsR s most).2 = ints8 N (manyR s most 8).1.1 := by
  unfold intsR
  rcases many_row s most 8 (by decide) with ⟨h1, h2⟩ | ⟨n, h1, h2, h3, h4, h5⟩
  · rw [h2]
    exact ⟨0, by omega, by omega, by omega, by omega, by omega, rfl, by simp [ints8]⟩
  · rw [h5]
    refine ⟨n, h4, fun _ => h1, by omega, h3, fun _ => h2, by rw [h2], ?_⟩
    have hl : ((manyR s most 8).1.1.take (n * 8)).length / 8 = n := by rw [List.length_take]; omega
    simp only [hl]
    exact (ints8_succ n _ 0).symm
theorem quoN (a b : Nat) (h : a ≤ 9223372036854775807) : IntKind.i64.wrap ((a : Int).tdiv (b : Int)) = ((a / b : Nat) : Int) := by
  have hd : a / b ≤ a := Nat.div_le_self a b
  rw [Int.tdiv_eq_ediv_of_nonneg (Int.natCast_nonneg _), show ((a : Int)) / (b : Int) = ((a / b : Nat) : Int) from rfl]
  generalize a / b = q at hd ⊢
  exact wrap_i64 (by omega) (by omega)
theorem numR_step (l : List UInt8) (e : Int) (i : Nat) (h0 : e = 0) (h : (i + 1) * 8 ≤ l.length) : numR (l.drop (i * 8), e) 8 = ((l.drop ((i + 1) * 8), 0), le ((l.drop (i * 8)).take 8)) := by
  subst h0
  unfold numR
  rw [takeR_ok rfl (by simp; omega)]
  simp only [List.drop_drop]
  rw [show i * 8 + 8 = (i + 1) * 8 by omega]
theorem le8_lt (l : List UInt8) : le (l.take 8) < 18446744073709551616 := le_lt64 _ (by simp; omega)
theorem toI_small (n : Nat) (h : n < 9223372036854775808) : toI n = (n : Int) := by unfold toI; rw [if_pos h]
end Go.Codec
