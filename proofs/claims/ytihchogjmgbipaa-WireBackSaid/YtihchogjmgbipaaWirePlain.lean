import Derived.Test.YtihchogjmgbipaaRefBits
/- What the wire's bytes say, in plain terms. No program. -/
set_option linter.unusedVariables false
namespace Go.Codec
open Go.Rl
structure Resp where
  err : Int
  line : Int
  d : Int
  ds : List Int
  arcs : List Int
  n : Int
  m : Int
  k : Int
  print : Nat
def Resp.zero : Resp := ⟨0, 0, 0, [], [], 0, 0, 0, 0⟩
def num8 (x : Int) : List UInt8 := put (toU x) 8
def tellB (r : Resp) : List UInt8 :=
  put (toU r.err) 2 ++ num8 r.line ++ num8 r.d ++ putInts r.ds ++ putInts r.arcs ++ num8 r.n ++ num8 r.m ++ num8 r.k ++ put r.print 8
def hr1 (l : List UInt8) := numR (l, 0) 2
def hr2 (l : List UInt8) := numR (hr1 l).1 8
def hr3 (l : List UInt8) := numR (hr2 l).1 8
def hr4 (l : List UInt8) := intsR (hr3 l).1 1048576
def hr5 (l : List UInt8) := intsR (hr4 l).1 1048576
def hr6 (l : List UInt8) := numR (hr5 l).1 8
def hr7 (l : List UInt8) := numR (hr6 l).1 8
def hr8 (l : List UInt8) := numR (hr7 l).1 8
def hr9 (l : List UInt8) := numR (hr8 l).1 8
def hearR (l : List UInt8) : Resp × Int :=
  if endR (hr9 l).1 ≠ 0 then (Resp.zero, endR (hr9 l).1)
  else (⟨toI (hr1 l).2, toI (hr2 l).2, toI (hr3 l).2, (hr4 l).2, (hr5 l).2, toI (hr6 l).2, toI (hr7 l).2, toI (hr8 l).2, (hr9 l).2⟩, 0)
/-- A response's cells. -/
abbrev respCs (x y : Value) (r : Resp) : List Value := [.int .i64 r.err, .int .i64 r.line, .int .i64 r.d, x, y, .int .i64 r.n, .int .i64 r.m, .int .i64 r.k, .int .u64 (r.print : Int)]
def RespV (w : World) (v : Value) (r : Resp) : Prop := ∃ x y, v = .agg (respCs x y r).toArray ∧ Sl vi w x r.ds ∧ Sl vi w y r.arcs
theorem RespV.ext {w w' : World} {v : Value} {r : Resp} (h : RespV w v r) (he : Ext w w') : RespV w' v r := by
  obtain ⟨x, y, h1, h2, h3⟩ := h
  exact ⟨x, y, h1, h2.ext he, h3.ext he⟩
theorem oneResp {x y : Value} (hx : x.oneCell' = true) (hy : y.oneCell' = true) (r : Resp) : ∀ u ∈ respCs x y r, u.oneCell' = true := by
  intro u hu
  simp only [List.mem_cons, List.not_mem_nil, or_false] at hu
  rcases hu with rfl | rfl | rfl | rfl | rfl | rfl | rfl | rfl | rfl <;> first | rfl | assumption
theorem hr_len (l : List UInt8) : (hr9 l).1.1.length ≤ l.length ∧ (hr3 l).1.1.length ≤ l.length ∧ (hr4 l).1.1.length ≤ l.length := by
  have h1 : (hr1 l).1.1.length ≤ l.length := num_sub (l, 0) 2
  have h2 : (hr2 l).1.1.length ≤ (hr1 l).1.1.length := num_sub _ _
  have h3 : (hr3 l).1.1.length ≤ (hr2 l).1.1.length := num_sub _ _
  have h4 : (hr4 l).1.1.length ≤ (hr3 l).1.1.length := ints_sub _ _
  have h5 : (hr5 l).1.1.length ≤ (hr4 l).1.1.length := ints_sub _ _
  have h6 : (hr6 l).1.1.length ≤ (hr5 l).1.1.length := num_sub _ _
  have h7 : (hr7 l).1.1.length ≤ (hr6 l).1.1.length := num_sub _ _
  have h8 : (hr8 l).1.1.length ≤ (hr7 l).1.1.length := num_sub _ _
  have h9 : (hr9 l).1.1.length ≤ (hr8 l).1.1.length := num_sub _ _
  omega
end Go.Codec
