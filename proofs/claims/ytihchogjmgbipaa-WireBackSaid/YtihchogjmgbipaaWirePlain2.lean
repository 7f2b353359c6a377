import Derived.Test.YtihchogjmgbipaaWirePlain
/- Plain facts for the wire's walks. No program. -/
set_option linter.unusedVariables false
namespace Go.Codec
open Go.Rl
theorem flat_snoc1 {α : Type} {ls : List (List α)} {i : Nat} {l : List α} (h : ls[i]? = some l) : (ls.take (i + 1)).flatten = (ls.take i).flatten ++ l := by
  rw [List.take_add_one, h]; simp
theorem flat_le1 {α : Type} {ls : List (List α)} {i : Nat} {l : List α} (h : ls[i]? = some l) : (ls.take i).flatten.length + l.length ≤ ls.flatten.length := by
  have h1 : (ls.take (i + 1)).flatten.length ≤ ls.flatten.length := by
    conv => rhs; rw [← List.take_append_drop (i + 1) ls]
    rw [List.flatten_append, List.length_append]; omega
  rw [flat_snoc1 h, List.length_append] at h1
  exact h1
theorem num8_length (x : Int) : (num8 x).length = 8 := put_length _ _
structure Req where
  kind : Int
  text : List UInt8
  k : Int
  s : Int
  t : Int
  ts : List Int
def Req.zero : Req := ⟨0, [], 0, 0, 0, []⟩
def askB (q : Req) : List UInt8 :=
  put (toU q.kind) 1 ++ (if q.kind = 1 then putText q.text else if q.kind = 2 then num8 q.k else if q.kind = 7 then num8 q.s ++ putInts q.ts else if q.kind = 5 ∨ q.kind = 6 then num8 q.s ++ num8 q.t else [])
/-- A request as a value. -/
def ReqV (w : World) (v : Value) (q : Req) : Prop := ∃ x, v = .agg #[.int .i64 q.kind, str q.text, .int .i64 q.k, .int .i64 q.s, .int .i64 q.t, x] ∧ Sl vi w x q.ts
theorem ReqV.ext {w w' : World} {v : Value} {q : Req} (h : ReqV w v q) (he : Ext w w') : ReqV w' v q := by
  obtain ⟨x, h1, h2⟩ := h
  exact ⟨x, h1, h2.ext he⟩
def finR (q : Req) (s : St) : Req × Int := if endR s ≠ 0 then (Req.zero, endR s) else (q, 0)
def readK (k : Int) (l : List UInt8) : Req × Int :=
  if k = 1 then finR ⟨k, (textR (l, 0) 1048576).2, 0, 0, 0, []⟩ (textR (l, 0) 1048576).1
  else if k = 2 then finR ⟨k, [], toI (numR (l, 0) 8).2, 0, 0, []⟩ (numR (l, 0) 8).1
  else if k = 5 ∨ k = 6 then finR ⟨k, [], 0, toI (numR (l, 0) 8).2, toI (numR (numR (l, 0) 8).1 8).2, []⟩ (numR (numR (l, 0) 8).1 8).1
  else if k = 7 then finR ⟨k, [], 0, toI (numR (l, 0) 8).2, 0, (intsR (numR (l, 0) 8).1 1000).2⟩ (intsR (numR (l, 0) 8).1 1000).1
  else finR ⟨k, [], 0, 0, 0, []⟩ (l, 0)
def readR : List UInt8 → Req × Int
  | [] => (Req.zero, 10)
  | c :: r => if (c.toNat : Int) < 1 ∨ 8 < (c.toNat : Int) then (Req.zero, 13) else readK c.toNat r
theorem text_many (s : St) (most : Int) : ((manyR s most 1).2 < 0 ∧ textR s most = ((manyR s most 1).1, [])) ∨
    (0 ≤ (manyR s most 1).2 ∧ (manyR s most 1).2 ≤ (manyR s most 1).1.1.length ∧ textR s most = (((manyR s most 1).1.1.drop (manyR s most 1).2.toNat, 0), (manyR s most 1).1.1.take (manyR s most 1).2.toNat)) := by
  rcases many_row s most 1 (by decide) with ⟨h1, h2⟩ | ⟨n, h1, h2, h3, h4, h5⟩
  · left; exact ⟨by omega, h2⟩
  · right
    unfold textR
    rw [h5, h1]
    exact ⟨by omega, by omega, by simp⟩
theorem ReqV.zero (w : World) : ReqV w (.agg #[.int .i64 0, .string ByteArray.empty, .int .i64 0, .int .i64 0, .int .i64 0, .slice none 0 0]) Req.zero := ⟨_, rfl, Sl.nil _ _⟩
theorem readR_at {l : List UInt8} {c : UInt8} (h : l[0]? = some c) : readR l = if (c.toNat : Int) < 1 ∨ 8 < (c.toNat : Int) then (Req.zero, 13) else readK c.toNat (l.drop 1) := by
  cases l with
  | nil => simp at h
  | cons d r => simp at h; subst h; rfl
theorem readR_nil {l : List UInt8} (h : (l.length : Int) = 0) : readR l = (Req.zero, 10) := by
  have : l = [] := List.eq_nil_of_length_eq_zero (by omega)
  subst this; rfl
theorem readK_1 {k : Int} {l : List UInt8} (h : k = 1) : readK k l = finR ⟨k, (textR (l, 0) 1048576).2, 0, 0, 0, []⟩ (textR (l, 0) 1048576).1 := if_pos h
theorem readK_2 {k : Int} {l : List UInt8} (h : k = 2) : readK k l = finR ⟨k, [], toI (numR (l, 0) 8).2, 0, 0, []⟩ (numR (l, 0) 8).1 := by unfold readK; rw [if_neg (by omega), if_pos h]
theorem readK_5 {k : Int} {l : List UInt8} (h : k = 5 ∨ k = 6) : readK k l = finR ⟨k, [], 0, toI (numR (l, 0) 8).2, toI (numR (numR (l, 0) 8).1 8).2, []⟩ (numR (numR (l, 0) 8).1 8).1 := by unfold readK; rw [if_neg (by omega), if_neg (by omega), if_pos h]
theorem readK_7 {k : Int} {l : List UInt8} (h : k = 7) : readK k l = finR ⟨k, [], 0, toI (numR (l, 0) 8).2, 0, (intsR (numR (l, 0) 8).1 1000).2⟩ (intsR (numR (l, 0) 8).1 1000).1 := by unfold readK; rw [if_neg (by omega), if_neg (by omega), if_neg (by omega), if_pos h]
theorem readK_3 {k : Int} {l : List UInt8} (h : k = 3 ∨ k = 4 ∨ k = 8) : readK k l = finR ⟨k, [], 0, 0, 0, []⟩ (l, 0) := by unfold readK; rw [if_neg (by omega), if_neg (by omega), if_neg (by omega), if_neg (by omega)]
theorem finR_bad {q : Req} {s : St} (h : ¬ endR s = 0) : finR q s = (Req.zero, endR s) := if_pos h
theorem finR_ok {q : Req} {s : St} (h : ¬ ¬ endR s = 0) : finR q s = (q, 0) := if_neg h
end Go.Codec

/- Requests and responses that come in. No program. -/
set_option linter.unusedVariables false
namespace Go.Codec
open Go.Rl Go.ChangeShapes Go.WideShapes
abbrev i64 (x : Int) : Prop := -9223372036854775808 ≤ x ∧ x ≤ 9223372036854775807
structure Resp.Ok (r : Resp) : Prop where
  err : i64 r.err
  line : i64 r.line
  d : i64 r.d
  ds : Ints64 r.ds
  arcs : Ints64 r.arcs
  n : i64 r.n
  m : i64 r.m
  k : i64 r.k
  print : r.print < 18446744073709551616
structure Req.Ok (q : Req) : Prop where
  kind : i64 q.kind
  k : i64 q.k
  s : i64 q.s
  t : i64 q.t
  ts : Ints64 q.ts
abbrev nI : Sh := .int .i64
abbrev respSh : Sh := .cons nI (.cons nI (.cons nI (.cons (.sl nI) (.cons (.sl nI) (.cons nI (.cons nI (.cons nI (.cons (.int .u64) .nil))))))))
abbrev reqSh : Sh := .cons nI (.cons .str (.cons nI (.cons nI (.cons nI (.cons (.sl nI) .nil)))))
theorem ints64 {l : List Int} (h : ∀ n ∈ l, (Lit.int .i64 n).wf = true) : Ints64 l := fun n hn => wf_i64 (h n hn)
theorem u64_of {a : Int} (h : (Lit.int .u64 a).wf = true) : ∃ n : Nat, a = n ∧ n < 18446744073709551616 := by
  have := wf_u64 h
  exact ⟨a.toNat, by omega, by omega⟩
section
variable {H : Type} {enc : TypeId × Value → H} {P : Program} {W : World} {base : Nat} {held : Bool} {t : TypeId} {d : DataW H} {ps : List MemPlace} {v : Value} {fs : Array Field}
theorem open_any {s : Sh} {B : Bulk H} (hf : s.fit P (.inl t) = true) (h : DataW.Trod enc P W 0 (fun _ => true) held t v d ps) : ∃ a : s.ty, s.rd W v.cells.toList a ∧ s.mass a ≤ B.one d := by
  obtain ⟨fuel, hx⟩ := h
  exact (s.open B).1 t fuel _ _ hf hx
theorem resp_arg (hu : P.underlying t = some (.struct fs)) (hf : respSh.fit P (.inl t) = true) (hv : Value.okWide P W .any base t v) (h : DataW.Trod enc P W 0 (fun _ => true) held t v d ps) :
    ∃ r : Resp, RespV W v r ∧ r.Ok := by
  obtain ⟨cs, rfl, _⟩ := okWide_struct hu hv
  obtain ⟨⟨a1, a2, a3, a4, a5, a6, a7, a8, a9, u⟩, hr, _⟩ := open_any (B := Bulk.size H) hf h
  obtain ⟨c1, r1, e1, k1, hr⟩ := Sh.rd_cons1 rfl hr
  obtain ⟨c2, r2, e2, k2, hr⟩ := Sh.rd_cons1 rfl hr
  obtain ⟨c3, r3, e3, k3, hr⟩ := Sh.rd_cons1 rfl hr
  obtain ⟨c4, r4, e4, k4, hr⟩ := Sh.rd_cons1 rfl hr
  obtain ⟨c5, r5, e5, k5, hr⟩ := Sh.rd_cons1 rfl hr
  obtain ⟨c6, r6, e6, k6, hr⟩ := Sh.rd_cons1 rfl hr
  obtain ⟨c7, r7, e7, k7, hr⟩ := Sh.rd_cons1 rfl hr
  obtain ⟨c8, r8, e8, k8, hr⟩ := Sh.rd_cons1 rfl hr
  obtain ⟨c9, r9, e9, k9, hr⟩ := Sh.rd_cons1 rfl hr
  cases (show r9 = [] from hr)
  subst e9 e8 e7 e6 e5 e4 e3 e2
  obtain ⟨k1, w1⟩ := k1; cases k1
  obtain ⟨k2, w2⟩ := k2; cases k2
  obtain ⟨k3, w3⟩ := k3; cases k3
  obtain ⟨s4, w4⟩ := Sh.rd_ints k4
  obtain ⟨s5, w5⟩ := Sh.rd_ints k5
  obtain ⟨k6, w6⟩ := k6; cases k6
  obtain ⟨k7, w7⟩ := k7; cases k7
  obtain ⟨k8, w8⟩ := k8; cases k8
  obtain ⟨k9, w9⟩ := k9; cases k9
  have hp := u64_of w9
  obtain ⟨n9, e, hn⟩ := hp
  refine ⟨⟨a1, a2, a3, a4, a5, a6, a7, a8, n9⟩, ⟨c4, c5, ?_, s4, s5⟩, ⟨wf_i64 w1, wf_i64 w2, wf_i64 w3, ints64 w4, ints64 w5, wf_i64 w6, wf_i64 w7, wf_i64 w8, hn⟩⟩
  congr 1
  apply Array.ext'
  refine Eq.trans e1 ?_
  rw [e]
theorem req_arg (hu : P.underlying t = some (.struct fs)) (hf : reqSh.fit P (.inl t) = true) (hv : Value.okWide P W .any base t v) (h : DataW.Trod enc P W 0 (fun _ => true) held t v d ps) :
    ∃ q : Req, ReqV W v q ∧ q.Ok := by
  obtain ⟨cs, rfl, _⟩ := okWide_struct hu hv
  obtain ⟨⟨a1, a2, a3, a4, a5, a6, u⟩, hr, _⟩ := open_any (B := Bulk.size H) hf h
  obtain ⟨c1, r1, e1, k1, hr⟩ := Sh.rd_cons1 rfl hr
  obtain ⟨c2, r2, e2, k2, hr⟩ := Sh.rd_cons1 rfl hr
  obtain ⟨c3, r3, e3, k3, hr⟩ := Sh.rd_cons1 rfl hr
  obtain ⟨c4, r4, e4, k4, hr⟩ := Sh.rd_cons1 rfl hr
  obtain ⟨c5, r5, e5, k5, hr⟩ := Sh.rd_cons1 rfl hr
  obtain ⟨c6, r6, e6, k6, hr⟩ := Sh.rd_cons1 rfl hr
  cases (show r6 = [] from hr)
  subst e6 e5 e4 e3 e2
  obtain ⟨k1, w1⟩ := k1; cases k1
  obtain ⟨k2, w2⟩ := k2; cases k2
  obtain ⟨k3, w3⟩ := k3; cases k3
  obtain ⟨k4, w4⟩ := k4; cases k4
  obtain ⟨k5, w5⟩ := k5; cases k5
  obtain ⟨s6, w6⟩ := Sh.rd_ints k6
  refine ⟨⟨a1, a2, a3, a4, a5, a6⟩, ⟨c6, ?_, s6⟩, ⟨wf_i64 w1, wf_i64 w3, wf_i64 w4, wf_i64 w5, ints64 w6⟩⟩
  congr 1
  apply Array.ext'
  exact e1
end
end Go.Codec
