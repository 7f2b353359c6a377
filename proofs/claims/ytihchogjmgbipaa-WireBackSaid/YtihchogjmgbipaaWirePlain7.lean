import Derived.Test.YtihchogjmgbipaaWirePlain4
import Derived.Test.YtihchogjmgbipaaWirePlain6
/- What is told is heard as it was; cut, it is too short; and frames that are cut. No program. -/
set_option linter.unusedVariables false
namespace Go.Codec
open Go.Rl
/-- A reader that reads on in y, of which m - off bytes are left; or it was too short. -/
def Goes (s : St) (y : List UInt8) (off m : Nat) : Prop := s.2 = 10 ∨ (off ≤ m ∧ s = (y.take (m - off), 0))
theorem goes_num {s : St} {n k : Nat} {y : List UInt8} {off m : Nat} (h : Goes s (put n k ++ y) off m) : Goes (numR s k).1 y (off + k) m := by
  rcases h with h | ⟨h1, rfl⟩
  · left; rw [numR_bad k (by rw [h]; decide)]; exact h
  · by_cases hk : m - off < k
    · left; rw [numR_short rfl (by simp only [List.length_take]; omega)]
    · right
      refine ⟨by omega, ?_⟩
      rw [List.take_append, List.take_of_length_le (by rw [put_length]; omega), put_length, numR_put]
      simp only [Prod.mk.injEq, and_true]
      congr 1; omega
theorem goes_ints {s : St} {l : List Int} {y : List UInt8} {most : Int} {off m : Nat} (hl : Ints64 l) (h2 : (l.length : Int) ≤ most) (h3 : l.length < 4294967296) (h : Goes s (putInts l ++ y) off m) : Goes (intsR s most).1 y (off + (4 + 8 * l.length)) m := by
  rcases h with h | ⟨h1, rfl⟩
  · left; rw [intsR_bad most (by rw [h]; decide)]; exact h
  · by_cases hk : m - off < 4 + 8 * l.length
    · left; rw [intsR_short l y most _ h2 h3 hk]
    · right
      refine ⟨by omega, ?_⟩
      rw [List.take_append, List.take_of_length_le (by rw [putInts_length]; omega), putInts_length, intsR_put l _ most hl h2 h3]
      simp only [Prod.mk.injEq, and_true]
      congr 1; omega
theorem tellB_eq (r : Resp) : tellB r = put (toU r.err) 2 ++ (put (toU r.line) 8 ++ (put (toU r.d) 8 ++ (putInts r.ds ++ (putInts r.arcs ++ (put (toU r.n) 8 ++ (put (toU r.m) 8 ++ (put (toU r.k) 8 ++ (put r.print 8 ++ [])))))))) := by
  unfold tellB num8; simp only [List.append_assoc, List.append_nil]
theorem tellB_length (r : Resp) : (tellB r).length = 58 + 8 * r.ds.length + 8 * r.arcs.length := by
  rw [tellB_eq]; simp only [List.length_append, put_length, putInts_length, List.length_nil]; omega
structure Resp.Good (r : Resp) : Prop where
  err : 0 ≤ r.err ∧ r.err ≤ 65535
  line : -9223372036854775808 ≤ r.line ∧ r.line ≤ 9223372036854775807
  d : -9223372036854775808 ≤ r.d ∧ r.d ≤ 9223372036854775807
  n : -9223372036854775808 ≤ r.n ∧ r.n ≤ 9223372036854775807
  m : -9223372036854775808 ≤ r.m ∧ r.m ≤ 9223372036854775807
  k : -9223372036854775808 ≤ r.k ∧ r.k ≤ 9223372036854775807
  ds : Ints64 r.ds
  arcs : Ints64 r.arcs
  ds1 : r.ds.length ≤ 50
  arcs1 : r.arcs.length ≤ 50
  print : r.print < 18446744073709551616
theorem hear_short (r : Resp) (h : r.Good) (m : Nat) (hm : m < (tellB r).length) : hearR ((tellB r).take m) = (Resp.zero, 10) := by
  have l1 := h.ds1
  have l2 := h.arcs1
  have g0 : Goes ((tellB r).take m, 0) (tellB r) 0 m := .inr ⟨Nat.zero_le _, rfl⟩
  rw [tellB_eq] at g0
  have g1 : Goes (hr1 ((tellB r).take m)).1 _ _ m := goes_num (by rw [tellB_eq]; exact g0)
  have g2 : Goes (hr2 ((tellB r).take m)).1 _ _ m := goes_num g1
  have g3 : Goes (hr3 ((tellB r).take m)).1 _ _ m := goes_num g2
  have g4 : Goes (hr4 ((tellB r).take m)).1 _ _ m := goes_ints h.ds (by omega) (by omega) g3
  have g5 : Goes (hr5 ((tellB r).take m)).1 _ _ m := goes_ints h.arcs (by omega) (by omega) g4
  have g6 : Goes (hr6 ((tellB r).take m)).1 _ _ m := goes_num g5
  have g7 : Goes (hr7 ((tellB r).take m)).1 _ _ m := goes_num g6
  have g8 : Goes (hr8 ((tellB r).take m)).1 _ _ m := goes_num g7
  have g9 : Goes (hr9 ((tellB r).take m)).1 _ _ m := goes_num g8
  rw [tellB_length] at hm
  rcases g9 with g | ⟨g, _⟩
  · unfold hearR
    have he : endR (hr9 ((tellB r).take m)).1 = 10 := by rw [endR_bad (by rw [g]; decide), g]
    rw [if_pos (by rw [he]; decide), he]
  · omega
theorem hear_tell (r : Resp) (h : r.Good) : hearR (tellB r) = (r, 0) := by
  have l1 := h.ds1
  have l2 := h.arcs1
  have e2 : toU r.err % 256 ^ 2 = toU r.err := Nat.mod_eq_of_lt (by have := h.err; unfold toU; omega)
  have e8 : ∀ x, toU x % 256 ^ 8 = toU x := fun x => mod8 _ (toU_lt x)
  have ep : r.print % 256 ^ 8 = r.print := mod8 _ h.print
  have h1 : hr1 (tellB r) = (((put (toU r.line) 8 ++ (put (toU r.d) 8 ++ (putInts r.ds ++ (putInts r.arcs ++ (put (toU r.n) 8 ++ (put (toU r.m) 8 ++ (put (toU r.k) 8 ++ (put r.print 8 ++ [])))))))), 0), toU r.err) := by
    unfold hr1; rw [tellB_eq, numR_put, e2]
  have h2 : hr2 (tellB r) = numR (hr1 (tellB r)).1 8 := rfl
  simp only [h1] at h2
  rw [numR_put] at h2
  have h3 : hr3 (tellB r) = numR (hr2 (tellB r)).1 8 := rfl
  simp only [h2] at h3
  rw [numR_put] at h3
  have h4 : hr4 (tellB r) = intsR (hr3 (tellB r)).1 1048576 := rfl
  simp only [h3] at h4
  rw [intsR_put _ _ _ h.ds (by omega) (by omega)] at h4
  have h5 : hr5 (tellB r) = intsR (hr4 (tellB r)).1 1048576 := rfl
  simp only [h4] at h5
  rw [intsR_put _ _ _ h.arcs (by omega) (by omega)] at h5
  have h6 : hr6 (tellB r) = numR (hr5 (tellB r)).1 8 := rfl
  simp only [h5] at h6
  rw [numR_put] at h6
  have h7 : hr7 (tellB r) = numR (hr6 (tellB r)).1 8 := rfl
  simp only [h6] at h7
  rw [numR_put] at h7
  have h8 : hr8 (tellB r) = numR (hr7 (tellB r)).1 8 := rfl
  simp only [h7] at h8
  rw [numR_put] at h8
  have h9 : hr9 (tellB r) = numR (hr8 (tellB r)).1 8 := rfl
  simp only [h8] at h9
  rw [numR_put] at h9
  unfold hearR
  rw [h1, h2, h3, h4, h5, h6, h7, h8, h9]
  simp only [e8, ep]
  have hz : endR (([] : List UInt8), (0 : Int)) = 0 := rfl
  rw [hz, if_neg (by simp)]
  have t : ∀ x : Int, -9223372036854775808 ≤ x ∧ x ≤ 9223372036854775807 → toI (toU x) = x := fun x hx => toI_toU x hx.1 hx.2
  rw [t _ ⟨by have := h.err; omega, by have := h.err; omega⟩, t _ h.line, t _ h.d, t _ h.n, t _ h.m, t _ h.k]
theorem n4_take (d : List UInt8) (c : Nat) (h : 4 ≤ c) : n4 (d.take c) = n4 d := by
  unfold n4
  by_cases hd : d.length < 4
  · rw [numR_short rfl (by show (d.take c).length < 4; rw [List.length_take]; omega), numR_short rfl hd]
  · unfold numR
    rw [takeR_ok rfl (by show 4 ≤ (d.take c).length; rw [List.length_take]; omega), takeR_ok rfl (by show 4 ≤ d.length; omega)]
    simp only [List.take_take]
    rw [Nat.min_eq_left h]
theorem backQ_len (q : Req) : (backQ q).text.length ≤ q.text.length ∧ (backQ q).ts.length ≤ q.ts.length := by
  unfold backQ
  repeat' split
  all_goals exact ⟨by first | exact Nat.le_refl _ | exact Nat.zero_le _, by first | exact Nat.le_refl _ | exact Nat.zero_le _⟩
theorem frames2 (a t : List UInt8) (ha : a.length ≤ 1048576) (ht : t.length ≤ 1048576) : framesR (frameB [a, t]) = ([a, t], ((frameB [a, t]).length : Int), 0) := by
  have h0 : framesR [] = ([], 0, 0) := framesR_nil (by simp)
  have := framesR_frame [] [a, t] (fun l hl => by simp only [List.mem_cons, List.not_mem_nil, or_false] at hl; rcases hl with rfl | rfl <;> omega)
  rw [List.append_nil, h0, List.append_nil] at this
  rw [this, frameB_length]
  simp
/-- One frame, cut. -/
theorem cut1 (t : List UInt8) (y : List UInt8) (c : Nat) (ht : t.length ≤ 1048576) (hc : c < 4 + t.length) : framesR ((putText t ++ y).take c) = ([], 0, 0) := by
  by_cases h4 : ((putText t ++ y).take c).length < 4
  · exact framesR_nil h4
  · have hl : ((putText t ++ y).take c).length ≤ c := by simp only [List.length_take]; omega
    have hn : n4 ((putText t ++ y).take c) = t.length := by rw [n4_take _ _ (by omega), n4_put _ _ (by omega)]
    exact framesR_short h4 (by omega) (by omega)
theorem cut2 (a t : List UInt8) (c : Nat) (ha : a.length ≤ 1048576) (ht : t.length ≤ 1048576) (hc : c < (frameB [a, t]).length) :
    (framesR ((frameB [a, t]).take c)).1.length < 2 ∧ (framesR ((frameB [a, t]).take c)).2.1 ≤ c ∧ (framesR ((frameB [a, t]).take c)).2.2 = 0 := by
  have e : frameB [a, t] = putText a ++ (putText t ++ []) := by simp [frameB]
  rw [e] at hc ⊢
  simp only [List.length_append, putText_length, List.length_nil] at hc
  by_cases h1 : c < 4 + a.length
  · rw [cut1 a _ c ha h1]; simp
  · have e2 : (putText a ++ (putText t ++ [])).take c = putText a ++ (putText t ++ []).take (c - (4 + a.length)) := by
      rw [List.take_append, List.take_of_length_le (by rw [putText_length]; omega), putText_length]
    rw [e2, framesR_put _ _ ha, cut1 t [] _ ht (by omega)]
    simp; omega
end Go.Codec
