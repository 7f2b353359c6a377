import Derived.Test.YtihchogjmgbipaaWirePlain5
/- Frames: what is put together, and its way back. No program. -/
set_option linter.unusedVariables false
namespace Go.Codec
open Go.Rl
def frameB (ls : List (List UInt8)) : List UInt8 := (ls.map putText).flatten
def massF (ls : List (List UInt8)) : Nat := (ls.map fun l => l.length + 4).sum
theorem frameB_snoc {ls : List (List UInt8)} {i : Nat} {l : List UInt8} (h : ls[i]? = some l) : frameB (ls.take (i + 1)) = frameB (ls.take i) ++ putText l := by
  unfold frameB
  rw [List.take_add_one, h]; simp
theorem frameB_length (ls : List (List UInt8)) : (frameB ls).length = massF ls := by
  unfold frameB massF
  induction ls with
  | nil => rfl
  | cons l r ih => simp only [List.map_cons, List.flatten_cons, List.length_append, List.sum_cons, ih, putText_length]; omega
theorem massF_take {ls : List (List UInt8)} {i : Nat} {l : List UInt8} (h : ls[i]? = some l) : massF (ls.take (i + 1)) = massF (ls.take i) + (l.length + 4) := by
  unfold massF
  rw [List.take_add_one, h]; simp
theorem massF_le (ls : List (List UInt8)) (i : Nat) : massF (ls.take i) ≤ massF ls := by
  unfold massF
  conv => rhs; rw [← List.take_append_drop i ls]
  rw [List.map_append, List.sum_append]; omega
theorem massF_len (ls : List (List UInt8)) : 4 * ls.length ≤ massF ls := by
  unfold massF
  induction ls with
  | nil => simp
  | cons l r ih => simp only [List.map_cons, List.sum_cons, List.length_cons]; omega
theorem massF_mem {ls : List (List UInt8)} {l : List UInt8} (h : l ∈ ls) : l.length + 4 ≤ massF ls := by
  obtain ⟨i, hi⟩ := List.mem_iff_getElem?.1 h
  have := massF_take hi
  have := massF_le ls (i + 1)
  omega
theorem mass8F (ls : List (List UInt8)) : massF ls ≤ 8 * (ls.map fun x => x.length + 1).sum := by
  unfold massF
  induction ls with
  | nil => simp
  | cons l r ih => simp only [List.map_cons, List.sum_cons]; omega
theorem framesR_nil {d : List UInt8} (h : d.length < 4) : framesR d = ([], 0, 0) := by unfold framesR; rw [whole_nil h]; rfl
theorem framesR_big {d : List UInt8} (h : ¬ d.length < 4) (h2 : 1048576 < n4 d) : framesR d = ([], 0, 3) := by unfold framesR; rw [whole_big h h2]; rfl
theorem framesR_short {d : List UInt8} (h : ¬ d.length < 4) (h2 : ¬ 1048576 < n4 d) (h3 : d.length < 4 + n4 d) : framesR d = ([], 0, 0) := by unfold framesR; rw [whole_short h h2 h3]; rfl
theorem framesR_cons {d : List UInt8} (h : ¬ d.length < 4) (h2 : ¬ 1048576 < n4 d) (h3 : ¬ d.length < 4 + n4 d) :
    framesR d = ((d.take (4 + n4 d)).drop 4 :: (framesR (d.drop (4 + n4 d))).1, ((4 + n4 d : Nat) : Int) + (framesR (d.drop (4 + n4 d))).2.1, (framesR (d.drop (4 + n4 d))).2.2) := by
  unfold framesR; rw [whole_cons h h2 h3, framesL, if_neg (by show ¬ (((4 + n4 d : Nat) : Int) < 0); omega)]
/-- At a place. -/
theorem framesR_at {b : List UInt8} {i m : Nat} (hm : m = n4 (b.drop i)) (h : i + 4 ≤ b.length) (h2 : ¬ 1048576 < m) (h3 : i + 4 + m ≤ b.length) :
    framesR (b.drop i) = ((b.take (i + 4 + m)).drop (i + 4) :: (framesR (b.drop (i + 4 + m))).1, ((4 + m : Nat) : Int) + (framesR (b.drop (i + 4 + m))).2.1, (framesR (b.drop (i + 4 + m))).2.2) := by
  subst hm
  rw [framesR_cons (by simp only [List.length_drop]; omega) h2 (by simp only [List.length_drop]; omega), List.drop_drop]
  have e1 : i + (4 + n4 (b.drop i)) = i + 4 + n4 (b.drop i) := by omega
  have e2 : ((b.drop i).take (4 + n4 (b.drop i))).drop 4 = (b.take (i + 4 + n4 (b.drop i))).drop (i + 4) := by
    rw [List.take_drop, List.drop_drop, e1]
  rw [e1, e2]
theorem n4_at {b : List UInt8} {i : Nat} {a0 a1 a2 a3 : UInt8} (h0 : b[i]? = some a0) (h1 : b[i + 1]? = some a1) (h2 : b[i + 2]? = some a2) (h3 : b[i + 3]? = some a3) :
    n4 (b.drop i) = a0.toNat + 256 * a1.toNat + 65536 * a2.toNat + 16777216 * a3.toNat := by
  have l3 := (List.getElem?_eq_some_iff.1 h3).1
  have e : (b.drop i).take 4 = [a0, a1, a2, a3] := by
    apply List.ext_getElem?
    intro j
    rw [List.getElem?_take]
    rcases j with _ | _ | _ | _ | j
    · simpa using h0
    · simpa using h1
    · simpa using h2
    · simpa using h3
    · simp; omega
  unfold n4 numR
  rw [takeR_ok rfl (by simp only [List.length_drop]; omega)]
  simp only [e, le]
  omega
theorem n4_put (l y : List UInt8) (h : l.length < 4294967296) : n4 (putText l ++ y) = l.length := by
  unfold n4 putText
  rw [List.append_assoc, numR_put]
  exact Nat.mod_eq_of_lt (by simpa using h)
theorem put4_length (n : Nat) : (put n 4).length = 4 := by simp [put]
theorem framesR_put (l y : List UInt8) (h : l.length ≤ 1048576) : framesR (putText l ++ y) = (l :: (framesR y).1, ((l.length + 4 : Nat) : Int) + (framesR y).2.1, (framesR y).2.2) := by
  have hn := n4_put l y (by omega)
  have hl : (putText l ++ y).length = 4 + l.length + y.length := by rw [List.length_append, putText_length]
  rw [framesR_cons (by omega) (by omega) (by omega), hn]
  have e1 : (putText l ++ y).take (4 + l.length) = putText l := by
    rw [List.take_append_of_le_length (by rw [putText_length]; omega)]
    exact List.take_of_length_le (by rw [putText_length]; omega)
  have e2 : (putText l ++ y).drop (4 + l.length) = y := by
    rw [List.drop_append_of_le_length (by rw [putText_length]; omega), List.drop_of_length_le (by rw [putText_length]; omega)]; rfl
  have e3 : (putText l).drop 4 = l := by
    unfold putText
    rw [List.drop_append_of_le_length (by rw [put4_length]; omega), List.drop_of_length_le (by rw [put4_length]; omega)]; rfl
  rw [e1, e2, e3, Nat.add_comm]
theorem framesR_frame (y : List UInt8) : ∀ (ls : List (List UInt8)), (∀ l ∈ ls, l.length ≤ 1048576) → framesR (frameB ls ++ y) = (ls ++ (framesR y).1, (massF ls : Int) + (framesR y).2.1, (framesR y).2.2) := by
  intro ls
  induction ls with
  | nil => intro _; simp [frameB, massF]
  | cons l ls ih =>
    intro h
    have e : frameB (l :: ls) ++ y = putText l ++ (frameB ls ++ y) := by simp [frameB]
    rw [e, framesR_put _ _ (h l (by simp)), ih (fun x hx => h x (by simp [hx]))]
    have hm : massF (l :: ls) = l.length + 4 + massF ls := by simp [massF]
    rw [hm]
    simp only [List.cons_append, Prod.mk.injEq, true_and, and_true]
    omega
theorem framesR_used (d : List UInt8) : 0 ≤ (framesR d).2.1 ∧ (framesR d).2.1 ≤ d.length ∧ 4 * ((framesR d).1.length : Int) ≤ (framesR d).2.1 := by
  have key : ∀ (n : Nat) (d : List UInt8), d.length ≤ n → 0 ≤ (framesR d).2.1 ∧ (framesR d).2.1 ≤ d.length ∧ 4 * ((framesR d).1.length : Int) ≤ (framesR d).2.1 := by
    intro n
    induction n with
    | zero => intro d hd; rw [framesR_nil (by omega)]; simp
    | succ n ih =>
      intro d hd
      by_cases h1 : d.length < 4
      · rw [framesR_nil h1]; simp
      · by_cases h2 : 1048576 < n4 d
        · rw [framesR_big h1 h2]; simp
        · by_cases h3 : d.length < 4 + n4 d
          · rw [framesR_short h1 h2 h3]; simp
          · obtain ⟨a, b, c⟩ := ih (d.drop (4 + n4 d)) (by simp only [List.length_drop]; omega)
            simp only [List.length_drop] at b
            rw [framesR_cons h1 h2 h3]
            simp only [List.length_cons]
            omega
  exact key d.length d (Nat.le_refl _)
end Go.Codec
