import Derived.Test.YtngkdkbpgoddlaaRefBits
import Derived.Test.YtngkdkbpgoddlaaCrcBits
/- Parts of an image as bytes, in plain terms. No program. -/
set_option linter.unusedVariables false
namespace Go.Codec
open Go.Rl Go.Crc
def wrapB (l : List UInt8) : List UInt8 := l ++ tailB (Crc.sum l)
def joinB (ls : List (List UInt8)) : List UInt8 := (ls.map fun l => putText (wrapB l)).flatten
theorem wrapB_length (l : List UInt8) : (wrapB l).length = l.length + 4 := by unfold wrapB; rw [List.length_append, tail_length]
theorem joinB_snoc {ls : List (List UInt8)} {i : Nat} {l : List UInt8} (h : ls[i]? = some l) : joinB (ls.take (i + 1)) = joinB (ls.take i) ++ putText (wrapB l) := by
  unfold joinB
  rw [List.take_add_one, h]; simp
def massB (ls : List (List UInt8)) : Nat := (ls.map fun l => l.length + 8).sum
theorem joinB_length (ls : List (List UInt8)) : (joinB ls).length = massB ls := by
  unfold joinB massB
  induction ls with
  | nil => rfl
  | cons l r ih => simp only [List.map_cons, List.flatten_cons, List.length_append, List.sum_cons, ih, putText_length, wrapB_length]; omega
theorem massB_take {ls : List (List UInt8)} {i : Nat} {l : List UInt8} (h : ls[i]? = some l) : massB (ls.take (i + 1)) = massB (ls.take i) + (l.length + 8) := by
  unfold massB
  rw [List.take_add_one, h]; simp
theorem massB_le (ls : List (List UInt8)) (i : Nat) : massB (ls.take i) ≤ massB ls := by
  unfold massB
  conv => rhs; rw [← List.take_append_drop i ls]
  rw [List.map_append, List.sum_append]; omega
theorem massB_len (ls : List (List UInt8)) : 8 * ls.length ≤ massB ls := by
  unfold massB
  induction ls with
  | nil => simp
  | cons l r ih => simp only [List.map_cons, List.sum_cons, List.length_cons]; omega
/-- What some bytes are, taken apart; none: they are not parts. -/
def partsF (most : Int) : Nat → List UInt8 → Option (List (List UInt8))
  | 0, b => if b = [] then some [] else none
  | k + 1, b => if b = [] then some [] else
    if (textR (b, 0) most).1.2 ≠ 0 ∨ openOk (textR (b, 0) most).2 = false then none
    else (partsF most k (textR (b, 0) most).1.1).map ((textR (b, 0) most).2.take ((textR (b, 0) most).2.length - 4) :: ·)
def parts (b : List UInt8) : Option (List (List UInt8)) := partsF b.length b.length b
def partsL (b : List UInt8) : List (List UInt8) := (parts b).getD []
theorem partsF_nil (most : Int) (k : Nat) : partsF most k [] = some [] := by cases k <;> rfl
theorem partsF_bad {most : Int} {k : Nat} {b : List UInt8} (hb : b ≠ []) (h : (textR (b, 0) most).1.2 ≠ 0 ∨ openOk (textR (b, 0) most).2 = false) : partsF most (k + 1) b = none := by
  unfold partsF; rw [if_neg hb, if_pos h]
theorem partsF_ok {most : Int} {k : Nat} {b : List UInt8} (hb : b ≠ []) (h1 : (textR (b, 0) most).1.2 = 0) (h2 : openOk (textR (b, 0) most).2 = true) :
    partsF most (k + 1) b = (partsF most k (textR (b, 0) most).1.1).map ((textR (b, 0) most).2.take ((textR (b, 0) most).2.length - 4) :: ·) := by
  conv => lhs; unfold partsF
  rw [if_neg hb, if_neg (by simp [h1, h2])]
theorem takeR_good {s : St} {k : Nat} (h : (takeR s k).1.2 = 0) : s.2 = 0 ∧ k ≤ s.1.length ∧ (takeR s k).1.1.length + k = s.1.length ∧ (takeR s k).2.length = k := by
  unfold takeR at h ⊢
  by_cases h2 : s.2 ≠ 0
  · rw [if_pos h2] at h; exact absurd h h2
  · rw [if_neg h2] at h ⊢
    by_cases h3 : s.1.length < k
    · rw [if_pos h3] at h; exact absurd h (by decide)
    · rw [if_neg h3]
      refine ⟨Decidable.not_not.1 h2, by omega, by simp; omega, by simp; omega⟩
theorem text_len (s : St) (most : Int) : (textR s most).2.length ≤ s.1.length := by
  unfold textR rowR
  split
  · exact Nat.zero_le _
  · split
    · exact Nat.zero_le _
    · exact Nat.le_trans (takeR_sub _ _).2 (num_sub s 4)
theorem textR_good {b : List UInt8} {most : Int} (h : (textR (b, 0) most).1.2 = 0) : (textR (b, 0) most).1.1.length + (textR (b, 0) most).2.length + 4 = b.length := by
  unfold textR rowR at h ⊢
  by_cases h1 : (numR (b, 0) 4).1.2 ≠ 0
  · rw [if_pos h1] at h; exact absurd h h1
  · rw [if_neg h1] at h ⊢
    split at h
    · exact absurd h (by decide)
    · rename_i h2
      rw [if_neg h2]
      have g1 := takeR_good h
      have g0 := takeR_good (s := (b, 0)) (k := 4) (Decidable.not_not.1 h1)
      have e : (numR (b, 0) 4).1.1.length = (takeR (b, 0) 4).1.1.length := rfl
      have : (b, (0 : Int)).1.length = b.length := rfl
      omega
theorem joinB_append (a b : List (List UInt8)) : joinB (a ++ b) = joinB a ++ joinB b := by unfold joinB; simp
theorem massB_append (a b : List (List UInt8)) : massB (a ++ b) = massB a + massB b := by unfold massB; simp
theorem partsF_join (most : Int) : ∀ (ls : List (List UInt8)) (k : Nat), (joinB ls).length ≤ k → (joinB ls).length < 4294967296 → ((joinB ls).length : Int) ≤ most → partsF most k (joinB ls) = some ls := by
  intro ls
  induction ls with
  | nil => intro k _ _ _; exact partsF_nil most k
  | cons l ls ih =>
    intro k hk h32 hm
    have hj : joinB (l :: ls) = putText (wrapB l) ++ joinB ls := by unfold joinB; simp
    have hl : (joinB (l :: ls)).length = 8 + l.length + (joinB ls).length := by rw [hj, List.length_append, putText_length, wrapB_length]; omega
    have ht : textR (joinB (l :: ls), 0) most = ((joinB ls, 0), wrapB l) := by rw [hj]; exact textR_put _ _ _ (by rw [wrapB_length]; omega) (by rw [wrapB_length]; omega)
    have ho := open_wrap l
    obtain ⟨k, rfl⟩ : ∃ j, k = j + 1 := ⟨k - 1, by omega⟩
    have hne : joinB (l :: ls) ≠ [] := by intro e; rw [e] at hl; simp at hl; omega
    rw [partsF_ok hne (by rw [ht]) (by rw [ht]; exact ho.1), ht]
    simp only
    rw [ih k (by omega) (by omega) (by omega)]
    simp only [Option.map_some]
    have : (wrapB l).take ((wrapB l).length - 4) = l := ho.2
    rw [this]
theorem parts_join (ls : List (List UInt8)) (h : (joinB ls).length < 4294967296) : partsL (joinB ls) = ls := by
  unfold partsL parts
  rw [partsF_join _ ls _ (Nat.le_refl _) h (Int.le_refl _)]
  rfl
theorem joinKnown : joinB [[]] = [4, 0, 0, 0, 0, 0, 0, 0] := by decide +kernel
theorem mass8 (ls : List (List UInt8)) : massB ls ≤ 8 * (ls.map fun x => x.length + 1).sum := by
  unfold massB
  induction ls with
  | nil => simp
  | cons l r ih => simp only [List.map_cons, List.sum_cons]; omega
end Go.Codec
