import Derived.Test.YtihchogjmgbipaaWirePlain2
/- Frames: what is taken apart. No program. -/
set_option linter.unusedVariables false
namespace Go.Codec
open Go.Rl
def n4 (d : List UInt8) : Nat := (numR (d, 0) 4).2
def wholeF : Nat → List UInt8 → List (List UInt8 × Int)
  | 0, _ => []
  | f + 1, d => if d.length < 4 then [] else if 1048576 < n4 d then [([], -1)] else if d.length < 4 + n4 d then [] else ((d.take (4 + n4 d)).drop 4, ((4 + n4 d : Nat) : Int)) :: wholeF f (d.drop (4 + n4 d))
theorem wholeF_more : ∀ (f g : Nat) (d : List UInt8), d.length < f → d.length < g → wholeF f d = wholeF g d := by
  intro f
  induction f with
  | zero => exact fun _ _ h => absurd h (Nat.not_lt_zero _)
  | succ f ih =>
    intro g d hf hg
    cases g with
    | zero => exact absurd hg (Nat.not_lt_zero _)
    | succ g =>
      simp only [wholeF]
      split
      · rfl
      · split
        · rfl
        · split
          · rfl
          · rw [ih g]
            · simp only [List.length_drop]; omega
            · simp only [List.length_drop]; omega
def wholeR (d : List UInt8) : List (List UInt8 × Int) := wholeF (d.length + 1) d
theorem whole_nil {d : List UInt8} (h : d.length < 4) : wholeR d = [] := by unfold wholeR; rw [wholeF, if_pos h]
theorem whole_big {d : List UInt8} (h : ¬ d.length < 4) (h2 : 1048576 < n4 d) : wholeR d = [([], -1)] := by unfold wholeR; rw [wholeF, if_neg h, if_pos h2]
theorem whole_short {d : List UInt8} (h : ¬ d.length < 4) (h2 : ¬ 1048576 < n4 d) (h3 : d.length < 4 + n4 d) : wholeR d = [] := by unfold wholeR; rw [wholeF, if_neg h, if_neg h2, if_pos h3]
theorem whole_cons {d : List UInt8} (h : ¬ d.length < 4) (h2 : ¬ 1048576 < n4 d) (h3 : ¬ d.length < 4 + n4 d) : wholeR d = ((d.take (4 + n4 d)).drop 4, ((4 + n4 d : Nat) : Int)) :: wholeR (d.drop (4 + n4 d)) := by
  unfold wholeR; rw [wholeF, if_neg h, if_neg h2, if_neg h3]
  congr 1
  exact wholeF_more _ _ _ (by simp only [List.length_drop]; omega) (by omega)
/-- An element of it, with what is ahead of it. -/
theorem whole_pre : ∀ (n : Nat) (d : List UInt8), d.length ≤ n → ∀ (pre : List (List UInt8 × Int)) (x : List UInt8 × Int) (post : List (List UInt8 × Int)), wholeR d = pre ++ x :: post →
    0 ≤ (pre.map (·.2)).sum ∧ 4 * (pre.length : Int) ≤ (pre.map (·.2)).sum ∧ (pre.map (·.2)).sum + x.2 ≤ d.length ∧ (pre.map (·.2)).sum ≤ d.length ∧ x.1.length ≤ d.length := by
  intro n
  induction n with
  | zero =>
    intro d hd pre x post h
    rw [whole_nil (by omega)] at h
    simp at h
  | succ n ih =>
    intro d hd pre x post h
    by_cases h1 : d.length < 4
    · rw [whole_nil h1] at h; simp at h
    · by_cases h2 : 1048576 < n4 d
      · rw [whole_big h1 h2] at h
        cases pre with
        | nil => simp at h; obtain ⟨rfl, _⟩ := h; simp <;> omega
        | cons y pre => simp at h
      · by_cases h3 : d.length < 4 + n4 d
        · rw [whole_short h1 h2 h3] at h; simp at h
        · rw [whole_cons h1 h2 h3] at h
          cases pre with
          | nil =>
            simp only [List.nil_append, List.cons.injEq] at h
            obtain ⟨rfl, _⟩ := h
            simp only [List.map_nil, List.sum_nil, List.length_nil, List.length_drop, List.length_take]
            omega
          | cons y pre =>
            simp only [List.cons_append, List.cons.injEq] at h
            obtain ⟨rfl, h⟩ := h
            obtain ⟨a, b, c, e, f⟩ := ih (d.drop (4 + n4 d)) (by simp only [List.length_drop]; omega) pre x post h
            simp only [List.length_drop] at c e f
            simp only [List.map_cons, List.sum_cons, List.length_cons]
            omega
def framesL : List (List UInt8 × Int) → List (List UInt8) × Int × Int
  | [] => ([], 0, 0)
  | x :: l => if x.2 < 0 then ([], 0, 3) else (x.1 :: (framesL l).1, x.2 + (framesL l).2.1, (framesL l).2.2)
theorem framesL_app : ∀ (pre l : List (List UInt8 × Int)), (∀ x ∈ pre, 0 ≤ x.2) → framesL (pre ++ l) = (pre.map (·.1) ++ (framesL l).1, (pre.map (·.2)).sum + (framesL l).2.1, (framesL l).2.2) := by
  intro pre
  induction pre with
  | nil => intro l _; simp
  | cons x pre ih =>
    intro l h
    have hx : ¬ x.2 < 0 := by have := h x (by simp); omega
    simp only [List.cons_append, framesL, if_neg hx, ih l (fun y hy => h y (by simp [hy])), List.map_cons, List.sum_cons]
    simp only [Prod.mk.injEq, and_true, true_and]
    omega
def framesR (d : List UInt8) : List (List UInt8) × Int × Int := framesL (wholeR d)
/-- What the loop over the frames holds. -/
structure FrS where
  v : Value
  hs : List Hd
  ls : List (List UInt8)
  u : Int
  a : Value
  b : Int
  c : Int
def FrT (s : FrS) (x : Value × List UInt8 × Int) (b : Bool) (s' : FrS) : Prop := match b with
  | true => 0 ≤ x.2.2 ∧ s'.ls = s.ls ++ [x.2.1] ∧ s'.u = s.u + x.2.2
  | false => x.2.2 < 0 ∧ s'.ls = s.ls ∧ s'.a = s'.v ∧ s'.b = s.u ∧ s'.c = 3
theorem fr_run {s0 : FrS} (h1 : s0.ls = []) (h2 : s0.u = 0) : ∀ {pre : List (List UInt8 × Int)} {s : FrS}, Run FrT Prod.snd s0 pre s → (∀ x ∈ pre, 0 ≤ x.2) ∧ s.ls = pre.map (·.1) ∧ s.u = (pre.map (·.2)).sum := by
  intro pre s h
  induction h with
  | nil => exact ⟨by simp, h1, h2⟩
  | snoc hr hT ih =>
    obtain ⟨a, b, c⟩ := ih
    obtain ⟨d, e, f⟩ := hT
    refine ⟨fun y hy => ?_, ?_, ?_⟩
    · rcases List.mem_append.1 hy with hy | hy
      · exact a y hy
      · rw [List.mem_singleton] at hy; subst hy; exact d
    · rw [e, b]; simp
    · rw [f, c]; simp
theorem fr_done {s0 s : FrS} {d : List UInt8} (h1 : s0.ls = []) (h2 : s0.u = 0) (h : Run FrT Prod.snd s0 (wholeR d) s) : framesR d = (s.ls, s.u, 0) := by
  obtain ⟨a, b, c⟩ := fr_run h1 h2 h
  have := framesL_app (wholeR d) [] a
  simp only [List.append_nil, framesL, Int.add_zero] at this
  unfold framesR
  rw [this, b, c]
theorem fr_stop {s0 s : FrS} {d : List UInt8} (h1 : s0.ls = []) (h2 : s0.u = 0) (h : Stop FrT Prod.snd s0 (wholeR d) s) : framesR d = (s.ls, s.b, s.c) ∧ s.a = s.v := by
  obtain ⟨pre, x, post, s1, hr, hx, hT⟩ := h
  obtain ⟨a, b, c⟩ := fr_run h1 h2 hr
  obtain ⟨e, f, g, i, j⟩ := hT
  unfold framesR
  have := framesL_app pre (x.2 :: post) a
  rw [hx, this, f, i, j, b, c]
  refine ⟨?_, g⟩
  simp only [framesL, if_pos e]
  simp
theorem fr_bound {s0 s : FrS} {d : List UInt8} {pre post : List (List UInt8 × Int)} {x : List UInt8 × Int} (h1 : s0.ls = []) (h2 : s0.u = 0) (hr : Run FrT Prod.snd s0 pre s) (hx : wholeR d = pre ++ x :: post) :
    0 ≤ s.u ∧ 4 * (s.ls.length : Int) ≤ s.u ∧ s.u + x.2 ≤ d.length ∧ s.u ≤ d.length ∧ x.1.length ≤ d.length := by
  obtain ⟨a, b, c⟩ := fr_run h1 h2 hr
  have := whole_pre d.length d (Nat.le_refl _) pre x post hx
  rw [b, c]
  simpa using this
end Go.Codec
