import Derived.Test.YtihchogjmgbipaaWirePlain2
/- What is asked is read as it was; cut, or with more behind it, it is not. No program. -/
set_option linter.unusedVariables false
namespace Go.Codec
open Go.Rl
def bodyB (q : Req) : List UInt8 :=
  if q.kind = 1 then putText q.text else if q.kind = 2 then num8 q.k else if q.kind = 7 then num8 q.s ++ putInts q.ts else if q.kind = 5 ∨ q.kind = 6 then num8 q.s ++ num8 q.t else []
theorem askB_eq (q : Req) : askB q = UInt8.ofNat (toU q.kind) :: bodyB q := by
  unfold askB bodyB
  rw [show put (toU q.kind) 1 = [UInt8.ofNat (toU q.kind)] by simp [put]]
  rfl
theorem ask_pos (q : Req) : 0 < (askB q).length := by rw [askB_eq]; simp
theorem kind_byte {k : Int} (h0 : 1 ≤ k) (h1 : k ≤ 8) : ((UInt8.ofNat (toU k)).toNat : Int) = k := by
  have h : toU k = k.toNat := by unfold toU; omega
  rw [h]
  have := UInt8.toNat_ofNat' (n := k.toNat)
  rw [this]
  omega
theorem readR_kind {k : Int} (h0 : 1 ≤ k) (h1 : k ≤ 8) (l : List UInt8) : readR (UInt8.ofNat (toU k) :: l) = readK k l := by
  unfold readR
  simp only [kind_byte h0 h1]
  rw [if_neg (by omega)]
theorem num8_put (x : Int) (y : List UInt8) : numR (num8 x ++ y, 0) 8 = ((y, 0), toU x) := by
  unfold num8
  rw [numR_put, mod8 _ (toU_lt x)]
theorem num8_all (x : Int) : numR (num8 x, 0) 8 = (([], 0), toU x) := by
  have := num8_put x []
  rwa [List.append_nil] at this
theorem finR_end (q : Req) : finR q ([], 0) = (q, 0) := rfl
theorem finR_more (q : Req) (c : UInt8) (y : List UInt8) : finR q (c :: y, 0) = (Req.zero, 5) := rfl
theorem finR_err (q : Req) (e : Int) (h : e ≠ 0) : finR q ([], e) = (Req.zero, e) := by
  unfold finR endR
  rw [if_pos h]
  simp [h]
/-- What comes out of what was asked. -/
def backQ (q : Req) : Req :=
  if q.kind = 1 then ⟨q.kind, q.text, 0, 0, 0, []⟩ else if q.kind = 2 then ⟨q.kind, [], q.k, 0, 0, []⟩ else if q.kind = 7 then ⟨q.kind, [], 0, q.s, 0, q.ts⟩
  else if q.kind = 5 ∨ q.kind = 6 then ⟨q.kind, [], 0, q.s, q.t, []⟩ else ⟨q.kind, [], 0, 0, 0, []⟩
theorem backQ_kind (q : Req) : (backQ q).kind = q.kind := by unfold backQ; repeat (split <;> try rfl)
theorem backQ_ask (q : Req) : askB (backQ q) = askB q := by
  rw [askB_eq, askB_eq, backQ_kind]
  congr 1
  unfold bodyB
  rw [backQ_kind]
  unfold backQ
  split
  · rfl
  · split
    · rfl
    · split
      · rfl
      · split <;> rfl
theorem askB_le (q : Req) : (askB q).length ≤ 21 + q.text.length + 8 * q.ts.length := by
  rw [askB_eq, List.length_cons]
  unfold bodyB
  split
  · rw [putText_length]; omega
  · split
    · rw [num8_length]; omega
    · split
      · rw [List.length_append, num8_length, putInts_length]; omega
      · split
        · rw [List.length_append, num8_length, num8_length]; omega
        · simp only [List.length_nil]; omega
structure Req.Small (q : Req) : Prop where
  ok : q.Ok
  lo : 1 ≤ q.kind
  hi : q.kind ≤ 8
  text : q.text.length ≤ 1000
  ts : q.ts.length ≤ 100
theorem kinds_of {k : Int} (h0 : 1 ≤ k) (h1 : k ≤ 8) : k = 1 ∨ k = 2 ∨ (k = 5 ∨ k = 6) ∨ k = 7 ∨ (k = 3 ∨ k = 4 ∨ k = 8) := by omega
theorem ask_behind (q : Req) (h : q.Small) (y : List UInt8) : readR (askB q ++ y) = finR (backQ q) (y, 0) := by
  rw [askB_eq, List.cons_append, readR_kind h.lo h.hi]
  rcases kinds_of h.lo h.hi with hk | hk | hk | hk | hk
  · rw [readK_1 hk]; unfold bodyB backQ; rw [if_pos hk, if_pos hk, textR_put _ _ _ (by have := h.text; omega) (by have := h.text; omega)]
  · rw [readK_2 hk]; unfold bodyB backQ; rw [if_neg (by omega), if_pos hk, if_neg (by omega), if_pos hk, num8_put]
    simp only [toI_toU _ h.ok.k.1 h.ok.k.2]
  · rw [readK_5 hk]; unfold bodyB backQ
    rw [if_neg (by omega), if_neg (by omega), if_neg (by omega), if_pos hk, if_neg (by omega), if_neg (by omega), if_neg (by omega), if_pos hk, List.append_assoc, num8_put, num8_put]
    simp only [toI_toU _ h.ok.s.1 h.ok.s.2, toI_toU _ h.ok.t.1 h.ok.t.2]
  · rw [readK_7 hk]; unfold bodyB backQ
    rw [if_neg (by omega), if_neg (by omega), if_pos hk, if_neg (by omega), if_neg (by omega), if_pos hk, List.append_assoc, num8_put]
    rw [intsR_put _ _ _ h.ok.ts (by have := h.ts; omega) (by have := h.ts; omega)]
    simp only [toI_toU _ h.ok.s.1 h.ok.s.2]
  · rw [readK_3 hk]; unfold bodyB backQ
    rw [if_neg (by omega), if_neg (by omega), if_neg (by omega), if_neg (by omega), if_neg (by omega), if_neg (by omega), if_neg (by omega), if_neg (by omega)]
    rfl
theorem ask_back (q : Req) (h : q.Small) : readR (askB q) = (backQ q, 0) := by
  have := ask_behind q h []
  rw [List.append_nil] at this
  exact this
theorem ask_more (q : Req) (h : q.Small) (c : UInt8) : readR (askB q ++ [c]) = (Req.zero, 5) := ask_behind q h [c]
theorem ask_short (q : Req) (h : q.Small) (m : Nat) (hm : m < (askB q).length) : readR ((askB q).take m) = (Req.zero, 10) := by
  rw [askB_eq] at hm ⊢
  cases m with
  | zero => rfl
  | succ m =>
    rw [List.take_succ_cons, readR_kind h.lo h.hi]
    simp only [List.length_cons] at hm
    have h64 := toU_lt q.s
    rcases kinds_of h.lo h.hi with hk | hk | hk | hk | hk
    · rw [readK_1 hk]
      unfold bodyB at hm ⊢
      rw [if_pos hk] at hm ⊢
      rw [putText_length] at hm
      rw [textR_short' _ _ _ (by have := h.text; omega) (by have := h.text; omega) (by omega)]
      exact finR_err _ _ (by decide)
    · rw [readK_2 hk]
      unfold bodyB at hm ⊢
      rw [if_neg (by omega), if_pos hk] at hm ⊢
      rw [num8_length] at hm
      rw [numR_short rfl (by simp [num8_length]; omega)]
      exact finR_err _ _ (by decide)
    · rw [readK_5 hk]
      unfold bodyB at hm ⊢
      rw [if_neg (by omega), if_neg (by omega), if_neg (by omega), if_pos hk] at hm ⊢
      rw [List.length_append, num8_length, num8_length] at hm
      by_cases h8 : m < 8
      · rw [numR_short rfl (by simp [num8_length]; omega), numR_bad _ (by decide)]
        exact finR_err _ _ (by decide)
      · rw [List.take_append, List.take_of_length_le (by rw [num8_length]; omega), num8_length, num8_put]
        rw [numR_short rfl (by simp [num8_length]; omega)]
        exact finR_err _ _ (by decide)
    · rw [readK_7 hk]
      unfold bodyB at hm ⊢
      rw [if_neg (by omega), if_neg (by omega), if_pos hk] at hm ⊢
      rw [List.length_append, num8_length, putInts_length] at hm
      by_cases h8 : m < 8
      · rw [numR_short rfl (by simp [num8_length]; omega), intsR_bad _ (by decide)]
        exact finR_err _ _ (by decide)
      · rw [List.take_append, List.take_of_length_le (by rw [num8_length]; omega), num8_length, num8_put]
        have hs := intsR_short q.ts [] 1000 (m - 8) (by have := h.ts; omega) (by have := h.ts; omega) (by omega)
        rw [List.append_nil] at hs
        rw [hs]
        exact finR_err _ _ (by decide)
    · unfold bodyB at hm
      rw [if_neg (by omega), if_neg (by omega), if_neg (by omega), if_neg (by omega)] at hm
      simp at hm
theorem ask_none (q : Req) (h1 : ¬ q.kind = 1) (h2 : ¬ q.kind = 2) (h5 : ¬ q.kind = 5) (h6 : ¬ q.kind = 6) (h7 : ¬ q.kind = 7) : ∃ c : UInt8, askB q = [c] ∧ (askB q)[0]? = some c ∧ (askB q).length = 1 ∧
    (((c.toNat : Int) = 3 ∨ (c.toNat : Int) = 4 ∨ (c.toNat : Int) = 8) → (readR (askB q)).2 = 0) ∧ (((c.toNat : Int) < 1 ∨ 8 < (c.toNat : Int)) → (readR (askB q)).2 = 13) := by
  have hb : askB q = [UInt8.ofNat (toU q.kind)] := by
    rw [askB_eq]; unfold bodyB
    rw [if_neg h1, if_neg h2, if_neg h7, if_neg (by omega)]
  refine ⟨UInt8.ofNat (toU q.kind), hb, by rw [hb]; rfl, by rw [hb]; rfl, fun h => ?_, fun h => ?_⟩
  · rw [hb, readR_at (c := UInt8.ofNat (toU q.kind)) rfl, if_neg (by omega), readK_3 h]
    rfl
  · rw [hb, readR_at (c := UInt8.ofNat (toU q.kind)) rfl, if_pos h]
theorem ask_fields {q p : Req} (hk : p.kind = q.kind) (h1 : q.kind = 1 → p.text = q.text) (h2 : q.kind = 2 → p.k = q.k) (h3 : q.kind = 5 ∨ q.kind = 6 ∨ q.kind = 7 → p.s = q.s) (h4 : q.kind = 5 ∨ q.kind = 6 → p.t = q.t) (h5 : q.kind = 7 → p.ts = q.ts) : askB p = askB q := by
  rw [askB_eq, askB_eq, hk]
  congr 1
  unfold bodyB
  rw [hk]
  split
  · rename_i h; rw [h1 h]
  · split
    · rename_i h; rw [h2 h]
    · split
      · rename_i h; rw [h3 (by omega), h5 h]
      · split
        · rename_i h; rw [h3 (by omega), h4 h]
        · rfl
end Go.Codec
