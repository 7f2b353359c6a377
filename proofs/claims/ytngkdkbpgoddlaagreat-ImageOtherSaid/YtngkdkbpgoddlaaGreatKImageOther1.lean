/- The law ImageOther: texts that its row leans on (1). -/
import Derived.Test.YtngkdkbpgoddlaaGreatChecked
import GoSem.Claim
import GoSem.ClaimJoined
import GoSem.ClaimMapViews
import Derived.JoinedTies
import Derived.KernelRfl
import Derived.Test.YtngkdkbpgoddlaaGreatProg
import Derived.WalkKit
import Derived.Orders
import Derived.OrdersHeld
import Derived.Deep.LoopGhost
import Derived.Below
import Derived.Deep.Draws
import Derived.Maps.AppendAt
import Derived.Laws.Slices
import Derived.Laws.Rows
import Derived.Laws.BytesString
import Derived.Great.BuildSlice
import Derived.Laws.CopyRow
import Derived.SizedLaws
import Derived.ChangeSlices
import Derived.Carry
import Derived.Deep.OwnRows
import Derived.Lib.AppendStr
import Derived.Scope
import Derived.Deep.MidRow
import Derived.Laws.IdiomStrings
import Derived.Deep.Slices
import Derived.ChangeArms
import Derived.Deep.CondSized
import Derived.JoinedCond
import Derived.OpenShut
import Derived.MapKept
import Derived.Maps.RangeRun
import Derived.RangeFuncLeaves
import Derived.RangeFuncRecord
import Derived.TacticsIn
import Derived.OrdersIn
import Derived.Laws.Cover3
import Derived.Sort.Walk0
import Derived.DeepKeys
import Derived.Test.YtngkdkbpgoddlaaGreatRows
import Derived.ProofKit
import Derived.ShutString
import Derived.ChangeOld
set_option linter.unusedVariables false
set_option linter.unusedSimpArgs false
namespace Go.Proofs.YtngkdkbpgoddlaaGreat
theorem sz3 : (Tryz.prog.info? 3).map (·.size) = some 1 := by kernel_rfl
theorem inf3 : (Tryz.prog.info? 3).map (fun i => (i.zero, i.size, i.bytes)) = some (some (.int .i64 0), 1, 8) := by kernel_rfl
theorem zr3 : ((Tryz.prog.info? 3).bind (·.zero)).isSome = true := by kernel_rfl
theorem sz4 : (Tryz.prog.info? 4).map (·.size) = some 1 := by kernel_rfl
theorem inf4 : (Tryz.prog.info? 4).map (fun i => (i.zero, i.size, i.bytes)) = some (some (.bool false), 1, 1) := by kernel_rfl
theorem sz5 : (Tryz.prog.info? 5).map (·.size) = some 1 := by kernel_rfl
theorem inf5 : (Tryz.prog.info? 5).map (fun i => (i.zero, i.size, i.bytes)) = some (some (.int .u8 0), 1, 1) := by kernel_rfl
theorem zr5 : ((Tryz.prog.info? 5).bind (·.zero)).isSome = true := by kernel_rfl
theorem sz22 : (Tryz.prog.info? 22).map (·.size) = some 1 := by kernel_rfl
theorem sz24 : (Tryz.prog.info? 24).map (·.size) = some 2 := by kernel_rfl
theorem sz25 : (Tryz.prog.info? 25).map (·.size) = some 1 := by kernel_rfl
theorem inf25 : (Tryz.prog.info? 25).map (fun i => (i.zero, i.size, i.bytes)) = some (some (.slice none 0 0), 1, 24) := by kernel_rfl
theorem zr25 : ((Tryz.prog.info? 25).bind (·.zero)).isSome = true := by kernel_rfl
theorem sz26 : (Tryz.prog.info? 26).map (·.size) = some 1 := by kernel_rfl
theorem sz28 : (Tryz.prog.info? 28).map (·.size) = some 2 := by kernel_rfl
theorem sz29 : (Tryz.prog.info? 29).map (·.size) = some 1 := by kernel_rfl
theorem sz30 : (Tryz.prog.info? 30).map (·.size) = some 1 := by kernel_rfl
theorem sz32 : (Tryz.prog.info? 32).map (·.size) = some 6 := by kernel_rfl
theorem sz34 : (Tryz.prog.info? 34).map (·.size) = some 10 := by kernel_rfl
theorem sz38 : (Tryz.prog.info? 38).map (·.size) = some 1 := by kernel_rfl
theorem inf38 : (Tryz.prog.info? 38).map (fun i => (i.zero, i.size, i.bytes)) = some (some (.slice none 0 0), 1, 24) := by kernel_rfl
theorem zr38 : ((Tryz.prog.info? 38).bind (·.zero)).isSome = true := by kernel_rfl
theorem sz47 : (Tryz.prog.info? 47).map (·.size) = some 1 := by kernel_rfl
theorem sz57 : (Tryz.prog.info? 57).map (·.size) = some 1 := by kernel_rfl
theorem sz96 : (Tryz.prog.info? 96).map (·.size) = some 3 := by kernel_rfl
theorem sz98 : (Tryz.prog.info? 98).map (·.size) = some 5 := by kernel_rfl
theorem sz100 : (Tryz.prog.info? 100).map (·.size) = some 3 := by kernel_rfl
theorem sz111 : (Tryz.prog.info? 111).map (·.size) = some 3 := by kernel_rfl
theorem sz118 : (Tryz.prog.info? 118).map (·.size) = some 1 := by kernel_rfl
theorem inf118 : (Tryz.prog.info? 118).map (fun i => (i.zero, i.size, i.bytes)) = some (some (.slice none 0 0), 1, 24) := by kernel_rfl
theorem zr118 : ((Tryz.prog.info? 118).bind (·.zero)).isSome = true := by kernel_rfl
theorem sz135 : (Tryz.prog.info? 135).map (·.size) = some 2 := by kernel_rfl
theorem sz144 : (Tryz.prog.info? 144).map (·.size) = some 1 := by kernel_rfl
theorem sz192 : (Tryz.prog.info? 192).map (·.size) = some 1 := by kernel_rfl
theorem sz194 : (Tryz.prog.info? 194).map (·.size) = some 4 := by kernel_rfl
theorem sz206 : (Tryz.prog.info? 206).map (·.size) = some 1 := by kernel_rfl
theorem sz207 : (Tryz.prog.info? 207).map (·.size) = some 1 := by kernel_rfl
theorem sz209 : (Tryz.prog.info? 209).map (·.size) = some 2 := by kernel_rfl
theorem sz246 : (Tryz.prog.info? 246).map (·.size) = some 3 := by kernel_rfl
theorem sz248 : (Tryz.prog.info? 248).map (·.size) = some 5 := by kernel_rfl
theorem sz257 : (Tryz.prog.info? 257).map (·.size) = some 256 := by kernel_rfl
theorem zero24 : (Tryz.prog.info? 24).map (·.zero) = some (some (.agg #[.int .i64 (0), .slice none 0 0])) := by kernel_rfl
theorem zero25 : (Tryz.prog.info? 25).map (·.zero) = some (some (.slice none 0 0)) := by kernel_rfl
theorem zero28 : (Tryz.prog.info? 28).map (·.zero) = some (some (.agg #[.slice none 0 0, .slice none 0 0])) := by kernel_rfl
theorem zero32 : (Tryz.prog.info? 32).map (·.zero) = some (some (.agg #[.slice none 0 0, .slice none 0 0, .slice none 0 0, .slice none 0 0, .slice none 0 0, .slice none 0 0])) := by kernel_rfl
theorem zero34 : (Tryz.prog.info? 34).map (·.zero) = some (some (.agg #[.int .i64 (0), .slice none 0 0, .slice none 0 0, .slice none 0 0, .slice none 0 0, .slice none 0 0, .slice none 0 0, .slice none 0 0, .slice none 0 0, .slice none 0 0])) := by kernel_rfl
theorem zero38 : (Tryz.prog.info? 38).map (·.zero) = some (some (.slice none 0 0)) := by kernel_rfl
theorem zero57 : (Tryz.prog.info? 57).map (·.zero) = some (some (.int .u64 (0))) := by kernel_rfl
theorem zero96 : (Tryz.prog.info? 96).map (·.zero) = some (some (.agg #[.int .i64 (0), .int .i64 (0), .int .i64 (0)])) := by kernel_rfl
theorem inf98 : (Tryz.prog.info? 98).map (fun i => (i.zero, i.size, i.bytes)) = some (some (.agg #[.int .i64 (0), .int .i64 (0), .int .i64 (0), .int .i64 (0), .int .i64 (0)]), 5, 40) := by kernel_rfl
theorem zero98 : (Tryz.prog.info? 98).map (·.zero) = some (some (.agg #[.int .i64 (0), .int .i64 (0), .int .i64 (0), .int .i64 (0), .int .i64 (0)])) := by kernel_rfl
theorem inf100 : (Tryz.prog.info? 100).map (fun i => (i.zero, i.size, i.bytes)) = some (some (.agg #[.int .i64 (0), .int .i64 (0), .int .i64 (0)]), 3, 24) := by kernel_rfl
theorem zero100 : (Tryz.prog.info? 100).map (·.zero) = some (some (.agg #[.int .i64 (0), .int .i64 (0), .int .i64 (0)])) := by kernel_rfl
theorem zero111 : (Tryz.prog.info? 111).map (·.zero) = some (some (.agg #[.int .i64 (0), .slice none 0 0, .slice none 0 0])) := by kernel_rfl
theorem zero132 : (Tryz.prog.info? 132).map (·.zero) = some (some (.agg #[.slice none 0 0, .slice none 0 0])) := by kernel_rfl
theorem inf135 : (Tryz.prog.info? 135).map (fun i => (i.zero, i.size, i.bytes)) = some (some (.agg #[.int .i64 (0), .int .i64 (0)]), 2, 16) := by kernel_rfl
theorem zero135 : (Tryz.prog.info? 135).map (·.zero) = some (some (.agg #[.int .i64 (0), .int .i64 (0)])) := by kernel_rfl
theorem zero194 : (Tryz.prog.info? 194).map (·.zero) = some (some (.agg #[.int .i64 (0), .slice none 0 0, .slice none 0 0, .slice none 0 0])) := by kernel_rfl
theorem zero209 : (Tryz.prog.info? 209).map (·.zero) = some (some (.agg #[.slice none 0 0, .slice none 0 0])) := by kernel_rfl
theorem zero211 : (Tryz.prog.info? 211).map (·.zero) = some (some (.agg #[.int .i64 (0), .slice none 0 0, .slice none 0 0, .slice none 0 0, .slice none 0 0, .slice none 0 0, .slice none 0 0])) := by kernel_rfl
theorem inf246 : (Tryz.prog.info? 246).map (fun i => (i.zero, i.size, i.bytes)) = some (some (.agg #[.int .i64 (0), .int .i64 (0), .int .i64 (0)]), 3, 24) := by kernel_rfl
theorem zero246 : (Tryz.prog.info? 246).map (·.zero) = some (some (.agg #[.int .i64 (0), .int .i64 (0), .int .i64 (0)])) := by kernel_rfl
theorem inf248 : (Tryz.prog.info? 248).map (fun i => (i.zero, i.size, i.bytes)) = some (some (.agg #[.int .i64 (0), .int .i64 (0), .int .i64 (0), .int .i64 (0), .int .i64 (0)]), 5, 40) := by kernel_rfl
theorem zero248 : (Tryz.prog.info? 248).map (·.zero) = some (some (.agg #[.int .i64 (0), .int .i64 (0), .int .i64 (0), .int .i64 (0), .int .i64 (0)])) := by kernel_rfl
end Go.Proofs.YtngkdkbpgoddlaaGreat
set_option linter.unusedVariables false
set_option linter.unusedSimpArgs false
namespace Go.Rl
def upd (R : Nat → Value) (d : Nat) (v : Value) : Nat → Value := fun t => bif Nat.beq t d then v else R t
def updO (R : Nat → Value) : Option Tmp → Value → Nat → Value
  | some d, v => upd R d v
  | none, _ => R
def ev (R : Nat → Value) : Operand → Value
  | .tmp t => R t
  | .const v => v
  | .global g => .pointer (some ⟨g, 0, none⟩)
  | .func f => .func (.func f) #[] #[]
theorem upd_eq (R : Nat → Value) (d : Nat) (v : Value) (t : Nat) : upd R d v t = if t = d then v else R t := by
  unfold upd; by_cases h : t = d
  · subst h; simp
  · have : Nat.beq t d = false := by
      cases hb : Nat.beq t d
      · rfl
      · exact absurd (Nat.eq_of_beq_eq_true hb) h
    simp [this, h]
theorem upd_self {R : Nat → Value} {d : Nat} {v : Value} (h : R d = v) : upd R d v = R := by
  funext t; rw [upd_eq]; split
  · subst t; exact h.symm
  · rfl
structure AtR (n : Nat) (R : Nat → Value) (a : Act) : Prop where
  size : a.tmps.size = n
  regs : ∀ t, a.tmps.getD t undef = R t
  defs : a.defers = []
theorem AtR.eval {n : Nat} {R : Nat → Value} {a : Act} (h : AtR n R a) : a.eval = ev R := by
  funext x; cases x <;> simp only [Act.eval, ev]; exact h.regs _
def dstOk (n : Nat) : Option Tmp → Bool
  | some d => decide (d < n)
  | none => true
theorem AtR.put {n : Nat} {R : Nat → Value} {a : Act} (h : AtR n R a) {dst : Option Tmp} (hd : dstOk n dst = true) (v : Value) : AtR n (updO R dst v) (a.put dst v) := by
  cases dst with
  | none => exact h
  | some d =>
    have hd' : d < n := by simpa [dstOk] using hd
    refine ⟨by simp [Act.put, h.size], fun t => ?_, by simp [Act.put, h.defs]⟩
    by_cases ht : t = d
    · subst ht
      simp [Act.put, updO, upd_eq, h.size, hd']
    · have := h.regs t
      simp only [Act.put, updO, upd_eq, if_neg ht]
      rw [← this]
      simp [Array.getElem?_setIfInBounds_ne (Ne.symm ht)]
abbrev Post := Exit → (Nat → Value) → World → Prop
def Post.up (n : Nat) (Q : Post) : Exit → Act → World → Prop := fun e a w => ∃ R, AtR n R a ∧ Q e R w
def RW (P : Program) (n : Nat) (c : Code) (Q : Post) (R : Nat → Value) (w : World) : Prop := ∀ a, AtR n R a → c.wp P (Q.up n) a w
def RL (P : Program) (n : Nat) (ops : Array Oper) (Q : Post) (l : List Oper) (R : Nat → Value) (w : World) : Prop :=
  ∀ a, AtR n R a → wpList P ops (Q.up n) l a w
def OpR (P : Program) (o : Oper) (R : Nat → Value) (w : World) (K : Value → World → Prop) : Prop :=
  ∀ n a, AtR n R a → o.wp P a w (fun a' w' => ∃ v, a' = a.put o.dst v ∧ K v w') (fun _ _ _ => False)
section
variable {P : Program} {n : Nat} {Q : Post} {R : Nat → Value} {w : World}
theorem RW.mono {c : Code} {Q' : Post} (h : RW P n c Q R w) (hq : ∀ e R w, Q e R w → Q' e R w) : RW P n c Q' R w :=
  fun a ha => wp_mono (h a ha) fun _ _ _ ⟨R', hR, hQ⟩ => ⟨R', hR, hq _ _ _ hQ⟩
def thenQ (K : (Nat → Value) → World → Prop) (Q : Post) : Post := fun e R w => match e with
  | .normal => K R w
  | e => Q e R w
theorem RW.seq {x y : Code} (h : RW P n x (thenQ (RW P n y Q) Q) R w) : RW P n (.seq x y) Q R w := fun a ha => by
  refine wp_seq (wp_mono (h a ha) ?_)
  rintro e a' w' ⟨R', hR, hQ⟩
  cases e with
  | normal => exact hQ a' hR
  | _ => exact ⟨R', hR, hQ⟩
theorem RW.skip (h : Q .normal R w) : RW P n .skip Q R w := fun _ ha => wp_skip ⟨R, ha, h⟩
theorem RW.exit {id : Nat} (h : Q (.exit id) R w) : RW P n (.exit id) Q R w := fun _ ha => wp_exit ⟨R, ha, h⟩
theorem RW.ret (h : Q .ret R w) : RW P n .ret Q R w := fun _ ha => wp_ret ⟨R, ha, h⟩
theorem RW.cond {c : Operand} {x y : Code} (b : Bool) (hc : ev R c = .bool b) (ht : b = true → RW P n x Q R w) (hf : b = false → RW P n y Q R w) : RW P n (.cond c x y) Q R w :=
  fun a ha => wp_cond_split (t := b) (by rw [ha.eval]; exact hc) (fun e => ht e a ha) (fun e => hf e a ha)
theorem RW.condT {c : Operand} {x y : Code} (hc : ev R c = .bool true) (ht : RW P n x Q R w) : RW P n (.cond c x y) Q R w := RW.cond true hc (fun _ => ht) (fun e => by cases e)
theorem RW.condF {c : Operand} {x y : Code} (hc : ev R c = .bool false) (ht : RW P n y Q R w) : RW P n (.cond c x y) Q R w := RW.cond false hc (fun e => by cases e) (fun _ => ht)
def blockQ (id : Nat) (Q : Post) : Post := fun e R w => match e with
  | .exit id' => if id' = id then Q .normal R w else Q (.exit id') R w
  | e => Q e R w
theorem RW.block {id : Nat} {c : Code} (h : RW P n c (blockQ id Q) R w) : RW P n (.block id c) Q R w := fun a ha => by
  refine wp_block (wp_mono (h a ha) ?_)
  rintro e a' w' ⟨R', hR, hQ⟩
  cases e with
  | exit id' =>
    simp only [Exit.inBlock]
    simp only [blockQ] at hQ
    split
    · rename_i e; rw [if_pos e] at hQ; exact ⟨R', hR, hQ⟩
    · rename_i e; rw [if_neg e] at hQ; exact ⟨R', hR, hQ⟩
  | _ => exact ⟨R', hR, hQ⟩
theorem RW.loop {c : Code} (I : Nat → (Nat → Value) → World → Prop) (k0 : Nat) (h0 : I k0 R w)
    (round : ∀ k R w, I k R w → RW P n c (thenQ (fun R' w' => ∃ k', k' < k ∧ I k' R' w') Q) R w) : RW P n (.loop c) Q R w := fun a ha => by
  refine wp_loop_ghost (fun k a w => ∃ R, AtR n R a ∧ I k R w) k0 ⟨R, ha, h0⟩ ?_
  rintro k a' w' ⟨R', hR', hI⟩
  refine wp_mono (round k R' w' hI a' hR') ?_
  rintro e a'' w'' ⟨R'', hR'', hQ⟩
  cases e with
  | normal => obtain ⟨k', hk, hI'⟩ := hQ; exact ⟨k', hk, R'', hR'', hI'⟩
  | _ => exact ⟨R'', hR'', hQ⟩
theorem RW.region {id : Nat} {l : List Oper} (h : RL P n l.toArray Q l R w) : RW P n (.region id l.toArray false) Q R w := fun a ha => wp_region_lit (h a ha)
theorem RL.nil {ops : Array Oper} (h : Q .normal R w) : RL P n ops Q [] R w := fun _ ha => wpList_nil ⟨R, ha, h⟩
theorem OpR.wp {o : Oper} {K : Value → World → Prop} {next : Act → World → Prop} {Q' : Exit → Act → World → Prop} {a : Act} (ha : AtR n R a) (hd : dstOk n o.dst = true) (h : OpR P o R w K)
    (go : ∀ v w', K v w' → ∀ (_ : AtR n (updO R o.dst v) (a.put o.dst v)), next (a.put o.dst v) w') : o.wp P a w next Q' := by
  have := h n a ha
  unfold Oper.wp at *
  generalize (execOp a.eval o).run P w = r at *
  have go' : ∀ a' w', (∃ v, a' = a.put o.dst v ∧ K v w') → next a' w' := by
    rintro a' w' ⟨v, rfl, hv⟩
    exact go v w' hv (ha.put hd v)
  cases r with
  | ok x w' =>
    cases x <;> simp only [Oper.upon] at this ⊢ <;> first
      | exact go' _ _ this
      | exact Calls.mono this (fun e w'' he => by cases e <;> first | exact go' _ _ he | exact he.elim | exact (by obtain ⟨_, _, hx⟩ := he; exact hx.elim))
      | exact Rows.mono this (fun _ _ he => go' _ _ he)
  | halt x w' => cases x <;> simp only [Oper.upon] at this ⊢
theorem RL.op {ops : Array Oper} {o : Oper} {rest : List Oper} (hg : o.guard = none) (hd : dstOk n o.dst = true) (h : OpR P o R w (fun v w' => RL P n ops Q rest (updO R o.dst v) w')) :
    RL P n ops Q (o :: rest) R w := fun a ha => wpList_plain hg fun K hK => OpR.wp ha hd h fun v w' hv hat => hK _ _ (hv _ hat)
theorem OpR.value {o : Oper} {v : Value} {w' : World} {K : Value → World → Prop} (h : (execOp (ev R) o).run P w = .ok (.value v) w') (hK : K v w') : OpR P o R w K := fun n a ha => by
  unfold Oper.wp; rw [ha.eval, h]; exact ⟨v, rfl, hK⟩
theorem OpR.unit {o : Oper} {w' : World} {K : Value → World → Prop} (h : (execOp (ev R) o).run P w = .ok .skip w') (hK : K undef w') : OpR P o R w K := fun n a ha => by
  unfold Oper.wp; rw [ha.eval, h]; exact ⟨undef, rfl, hK⟩
def Gives (P : Program) (f : FuncId) (args : Array Value) (w : World) (K : Value → World → Prop) : Prop :=
  Calls P f args w fun e w' => ∃ v, e = .returned v ∧ K v w'
theorem Gives.mono {f : FuncId} {args : Array Value} {K K' : Value → World → Prop} (h : Gives P f args w K) (hk : ∀ v w', K v w' → K' v w') : Gives P f args w K' :=
  Calls.mono h fun _ _ ⟨v, he, hv⟩ => ⟨v, he, hk _ _ hv⟩
theorem OpR.enter {o : Oper} {f : FuncId} {args : Array Value} {w' : World} {K : Value → World → Prop} (h : (execOp (ev R) o).run P w = .ok (.enter f args) w') (hK : Gives P f args w' K) : OpR P o R w K := fun n a ha => by
  unfold Oper.wp; rw [ha.eval, h]
  exact Calls.mono hK fun e w'' ⟨v, he, hv⟩ => by subst he; exact ⟨v, rfl, hv⟩
def Ev (P : Program) (o : Oper) (R : Nat → Value) (w : World) (v : Value) : Prop := (execOp (ev R) o).run P w = .ok (.value v) w
theorem OpR.ev {o : Oper} {v : Value} {K : Value → World → Prop} (h : Ev P o R w v) (hK : K v w) : OpR P o R w K := OpR.value h hK
theorem RL.ev {ops : Array Oper} {o : Oper} {rest : List Oper} {v : Value} (hg : o.guard = none) (hd : dstOk n o.dst = true) (h : Ev P o R w v) (hn : RL P n ops Q rest (updO R o.dst v) w) :
    RL P n ops Q (o :: rest) R w := RL.op hg hd (OpR.ev h hn)
theorem thenN {K : (Nat → Value) → World → Prop} (h : K R w) : thenQ K Q .normal R w := h
theorem thenX {K : (Nat → Value) → World → Prop} {id : Nat} (h : Q (.exit id) R w) : thenQ K Q (.exit id) R w := h
theorem thenR {K : (Nat → Value) → World → Prop} (h : Q .ret R w) : thenQ K Q .ret R w := h
theorem blockN {id : Nat} (h : Q .normal R w) : blockQ id Q .normal R w := h
theorem blockR {id : Nat} (h : Q .ret R w) : blockQ id Q .ret R w := h
theorem blockHit {id : Nat} (h : Q .normal R w) : blockQ id Q (.exit id) R w := by unfold blockQ; simp only [if_true]; exact h
theorem blockMiss {id id' : Nat} (hne : id' ≠ id) (h : Q (.exit id') R w) : blockQ id Q (.exit id') R w := by unfold blockQ; simp only [if_neg hne]; exact h
theorem RW.condP {c : Operand} {x y : Code} (p : Prop) [Decidable p] (hc : Rl.ev R c = .bool (decide p)) (ht : p → RW P n x Q R w) (hf : ¬ p → RW P n y Q R w) : RW P n (.cond c x y) Q R w :=
  RW.cond (decide p) hc (fun e => ht (of_decide_eq_true e)) (fun e => hf (of_decide_eq_false e))
def NoP (Q : Post) : Prop := ∀ c R w, ¬ Q (.panic c) R w
theorem NoP.then {K : (Nat → Value) → World → Prop} (h : NoP Q) : NoP (thenQ K Q) := h
theorem NoP.block {id : Nat} (h : NoP Q) : NoP (blockQ id Q) := h
def RA (P : Program) (n : Nat) (ops : Array Oper) (Q : Post) (S : World → Prop) (fuel : Nat) (listed : Array Bool) (R : Nat → Value) (w : World) : Prop :=
  ∀ a, AtR n R a → wpAnyH P .any ops (Q.up n) S fuel listed a w
theorem RW.draw {id : Nat} {ops : Array Oper} (hm : P.follows .mixedOrders = true) (S : World → Prop)
    (h : RA P n ops Q S ops.size (Array.replicate ops.size false) R w.drew) : RW P n (.region id ops true) Q R w := fun a ha => wp_region_held hm (h a ha)
theorem RA.done {ops : Array Oper} {S : World → Prop} {fuel : Nat} {listed : Array Bool} (hr : Region.ready .any ops listed = []) (h : Q .normal R w) : RA P n ops Q S fuel listed R w :=
  fun a ha => wpAnyH_done hr ⟨R, ha, h⟩ fuel
theorem up_panic {c : List PanicEntry} (hp : NoP Q) (dst : Option Tmp) (v : Value) (a : Act) (w : World) : Q.up n (.panic c) (a.put dst v) w → Q.up n (.panic c) a w := fun ⟨R, _, h⟩ => absurd h (hp c R w)
theorem RA.take {ops : Array Oper} {S : World → Prop} {fuel i : Nat} {o : Oper} {v : Value} {listed : Array Bool} (hi : ops[i]? = some o) (hg : o.guard = none) (hs : Region.noSelect ops = true)
    (hf : Region.free .any ops listed i = true) (hr : (Region.ready .any ops listed).contains i = true) (hp : NoP Q) (hd : dstOk n o.dst = true) (hS : S w) (h : ∀ w, S w → Ev P o R w v)
    (hn : RA P n ops Q S fuel (listed.setIfInBounds i true) (updO R o.dst v) w) : RA P n ops Q S (fuel + 1) listed R w := fun a ha =>
  wpAnyH_take hi hs hf hr (fun c a w => up_panic hp _ _ a w) (.inl ⟨by simp [Region.wanted, hg], fun w hw => by rw [ha.eval]; exact h w hw⟩) hS (hn _ (ha.put hd v))
theorem yielded_of {ops : Array Oper} {a : Act} (ha : AtR n R a) {j d : Nat} {b : Bool} (hj : (ops[j]?).bind (·.dst) = some d) (hdn : d < n) (hb : R d = .bool b) : yielded ops a.tmps j = some b := by
  have h1 : a.tmps[d]? = some (.bool b) := by
    have := ha.regs d
    have hl : d < a.tmps.size := by rw [ha.size]; exact hdn
    simp [hl] at this
    simp [hl, this, hb]
  simp [yielded, hj, h1]
theorem RA.takeOn {ops : Array Oper} {S : World → Prop} {fuel i j d : Nat} {want : Bool} {o : Oper} {v : Value} {listed : Array Bool} (hi : ops[i]? = some o) (hg : o.guard = some (j, want))
    (hj : (ops[j]?).bind (·.dst) = some d) (hdn : d < n) (hb : R d = .bool want) (hs : Region.noSelect ops = true)
    (hf : Region.free .any ops listed i = true) (hr : (Region.ready .any ops listed).contains i = true) (hp : NoP Q) (hd : dstOk n o.dst = true) (hS : S w) (h : ∀ w, S w → Ev P o R w v)
    (hn : RA P n ops Q S fuel (listed.setIfInBounds i true) (updO R o.dst v) w) : RA P n ops Q S (fuel + 1) listed R w := fun a ha =>
  wpAnyH_take hi hs hf hr (fun c a w => up_panic hp _ _ a w) (.inl ⟨by simp [Region.wanted, hg, yielded_of ha hj hdn hb], fun w hw => by rw [ha.eval]; exact h w hw⟩) hS (hn _ (ha.put hd v))
theorem RA.takeOff {ops : Array Oper} {S : World → Prop} {fuel i j d : Nat} {want : Bool} {o : Oper} {listed : Array Bool} (hi : ops[i]? = some o) (hg : o.guard = some (j, want))
    (hj : (ops[j]?).bind (·.dst) = some d) (hdn : d < n) (hb : R d = .bool (!want)) (hs : Region.noSelect ops = true)
    (hf : Region.free .any ops listed i = true) (hr : (Region.ready .any ops listed).contains i = true) (hp : NoP Q) (hd : dstOk n o.dst = true) (hS : S w)
    (hn : RA P n ops Q S fuel (listed.setIfInBounds i true) (updO R o.dst undef) w) : RA P n ops Q S (fuel + 1) listed R w := fun a ha =>
  wpAnyH_take hi hs hf hr (fun c a w => up_panic hp _ _ a w) (.inr ⟨by cases want <;> simp [Region.wanted, hg, yielded_of ha hj hdn hb], rfl⟩) hS (hn _ (ha.put hd undef))
theorem RA.only {ops : Array Oper} {S : World → Prop} {fuel i : Nat} {o : Oper} {listed : Array Bool} (hr : Region.ready .any ops listed = [i]) (hi : ops[i]? = some o) (hg : o.guard = none) (hd : dstOk n o.dst = true)
    (h : OpR P o R w (fun v w' => S w' ∧ RA P n ops Q S fuel (listed.setIfInBounds i true) (updO R o.dst v) w')) : RA P n ops Q S (fuel + 1) listed R w := fun a ha => by
  refine wpAnyH_all hr (by simp) fun j hj => ?_
  have : j = i := by simpa using hj
  subst this
  unfold wpOp
  simp only [hi, Region.wanted, hg, if_true]
  refine .inl (OpR.wp ha hd h fun v w' hv hat => ⟨hv.1, hv.2 _ hat⟩)
theorem RA.onlyOn {ops : Array Oper} {S : World → Prop} {fuel i j d : Nat} {want : Bool} {o : Oper} {listed : Array Bool} (hr : Region.ready .any ops listed = [i]) (hi : ops[i]? = some o) (hg : o.guard = some (j, want))
    (hj : (ops[j]?).bind (·.dst) = some d) (hdn : d < n) (hb : R d = .bool want) (hd : dstOk n o.dst = true)
    (h : OpR P o R w (fun v w' => S w' ∧ RA P n ops Q S fuel (listed.setIfInBounds i true) (updO R o.dst v) w')) : RA P n ops Q S (fuel + 1) listed R w := fun a ha => by
  refine wpAnyH_all hr (by simp) fun k hk => ?_
  have : k = i := by simpa using hk
  subst this
  unfold wpOp
  simp only [hi, Region.wanted, hg, yielded_of ha hj hdn hb, beq_self_eq_true, if_true]
  refine .inl (OpR.wp ha hd h fun v w' hv hat => ⟨hv.1, hv.2 _ hat⟩)
end
end Go.Rl
set_option linter.unusedVariables false
set_option linter.unusedSimpArgs false
namespace Go.Rl
open Go.RowKit
section
variable {P : Program} {n : Nat} {Q : Post} {R : Nat → Value} {w : World}
def RV (P : Program) (fn : Func) (n : Nat) (R : Nat → Value) (w : World) (v : Value) : Prop := ∀ a, AtR n R a → (results fn a.tmps).run P w = .ok v w
def retQ (P : Program) (fn : Func) (n : Nat) (K : Value → World → Prop) : Post := fun e R w => match e with
  | .normal | .ret => ∃ v, RV P fn n R w v ∧ K v w
  | _ => False
theorem Gives.start {f : FuncId} {fn : Func} {c : Code} {args : Array Value} {K : Value → World → Prop} (hf : P.funcs[f]? = some fn) (hb : fn.body = some c)
    (hs : args.size ≤ fn.ntmps) (h : RW P fn.ntmps c (retQ P fn fn.ntmps K) (fun t => args.getD t undef) w) : Gives P f args w K := by
  refine calls_of_wp hf hb ?_
  refine wp_mono (h _ ⟨by rw [Array.size_append, Array.size_replicate]; omega, fun t => ?_, rfl⟩) ?_
  · by_cases ht : t < args.size
    · simp [Array.getElem?_append_left ht]
    · have h0 : args[t]? = .none := Array.getElem?_eq_none (by omega)
      simp only [Array.getD_eq_getD_getElem?, h0]
      rw [Array.getElem?_append_right (by omega), Array.getElem?_replicate]
      split <;> rfl
  · rintro e a w' ⟨R', hR, hQ⟩
    cases e with
    | normal => obtain ⟨v, hv, hk⟩ := hQ; exact ⟨hR.defs, v, hv a hR, v, rfl, hk⟩
    | ret => obtain ⟨v, hv, hk⟩ := hQ; exact ⟨hR.defs, v, hv a hR, v, rfl, hk⟩
    | exit => exact hQ.elim
    | goto => exact hQ.elim
    | panic => exact hQ.elim
    | outgrown => exact hQ.elim
def r0 : Nat → Value := fun _ => undef
theorem args0 : (fun t => (#[] : Array Value).getD t undef) = r0 := by funext t; rfl
theorem args1 (a : Value) : (fun t => #[a].getD t undef) = upd r0 0 a := by
  funext t; rw [upd_eq]; match t with
  | 0 => rfl
  | t + 1 => rfl
theorem args2 (a b : Value) : (fun t => #[a, b].getD t undef) = upd (upd r0 0 a) 1 b := by
  funext t; simp only [upd_eq]; match t with
  | 0 => rfl
  | 1 => rfl
  | t + 2 => rfl
theorem args3 (a b c : Value) : (fun t => #[a, b, c].getD t undef) = upd (upd (upd r0 0 a) 1 b) 2 c := by
  funext t; simp only [upd_eq]; match t with
  | 0 => rfl
  | 1 => rfl
  | 2 => rfl
  | t + 3 => rfl
theorem args4 (a b c d : Value) : (fun t => #[a, b, c, d].getD t undef) = upd (upd (upd (upd r0 0 a) 1 b) 2 c) 3 d := by
  funext t; simp only [upd_eq]; match t with
  | 0 => rfl
  | 1 => rfl
  | 2 => rfl
  | 3 => rfl
  | t + 4 => rfl
theorem args5 (a b c d e : Value) : (fun t => #[a, b, c, d, e].getD t undef) = upd (upd (upd (upd (upd r0 0 a) 1 b) 2 c) 3 d) 4 e := by
  funext t; simp only [upd_eq]; match t with
  | 0 => rfl
  | 1 => rfl
  | 2 => rfl
  | 3 => rfl
  | 4 => rfl
  | t + 5 => rfl
theorem RV.zero {fn : Func} (h : fn.results = #[]) : RV P fn n R w (.tuple #[]) := fun a _ => results_none h _ _ _
theorem RV.tmp {fn : Func} {t : Tmp} (h : fn.results = #[.tmp t]) : RV P fn n R w (R t) := fun a ha => by rw [results_tmp h, ha.regs]
theorem RV.tmp2 {fn : Func} {t u : Tmp} (h : fn.results = #[.tmp t, .tmp u]) : RV P fn n R w (.tuple #[R t, R u]) := fun a ha => by rw [results_tmp2 h, ha.regs, ha.regs]
theorem RV.cell {fn : Func} {p : Tmp} {ty : TypeId} (h : fn.results = #[.cell p ty]) {g : Nat} {t : TypeId} {cs : Array Value} {fr : Nat × Nat} {d : TypeDesc}
    (hp : R p = .pointer (some ⟨g, 0, none⟩)) (hg : w.heap[g]? = some (.cells cs t fr)) (hu : P.underlying ty = some d)
    (hd : (match d with | .struct _ | .array _ _ => true | _ => false) = true) (hi : (P.info? ty).map (·.size) = some cs.size) : RV P fn n R w (.agg cs) :=
  fun a ha => results_cell_row h a.tmps w g t cs fr d (by rw [ha.regs]; exact hp) hg hu hd hi
theorem retI {fn : Func} {K : Value → World → Prop} {v : Value} (h : RV P fn n R w v) (hk : K v w) : retQ P fn n K .ret R w := ⟨v, h, hk⟩
theorem retN {fn : Func} {K : Value → World → Prop} {v : Value} (h : RV P fn n R w v) (hk : K v w) : retQ P fn n K .normal R w := ⟨v, h, hk⟩
theorem RL.on {ops : Array Oper} {o : Oper} {rest : List Oper} {j : Nat} {want : Bool} {d : Nat} (hg : o.guard = some (j, want)) (hj : (ops[j]?).bind (·.dst) = some d) (hdn : d < n)
    (hb : R d = .bool want) (hd : dstOk n o.dst = true) (h : OpR P o R w (fun v w' => RL P n ops Q rest (updO R o.dst v) w')) :
    RL P n ops Q (o :: rest) R w := fun a ha => by
  refine wpList_step fun K hK => ?_
  rw [if_pos (by simp [Region.wanted, hg, yielded_of ha hj hdn hb])]
  exact OpR.wp ha hd h fun v w' hv hat => hK _ _ (hv _ hat)
theorem RL.onEv {ops : Array Oper} {o : Oper} {rest : List Oper} {j : Nat} {want : Bool} {d : Nat} {v : Value} (hg : o.guard = some (j, want)) (hj : (ops[j]?).bind (·.dst) = some d) (hdn : d < n)
    (hb : R d = .bool want) (hd : dstOk n o.dst = true) (h : Ev P o R w v) (hn : RL P n ops Q rest (updO R o.dst v) w) : RL P n ops Q (o :: rest) R w :=
  RL.on hg hj hdn hb hd (OpR.ev h hn)
theorem RL.off {ops : Array Oper} {o : Oper} {rest : List Oper} {j : Nat} {want : Bool} {d : Nat} (hg : o.guard = some (j, want)) (hj : (ops[j]?).bind (·.dst) = some d) (hdn : d < n)
    (hb : R d = .bool (!want)) (hd : dstOk n o.dst = true) (h : RL P n ops Q rest (updO R o.dst undef) w) :
    RL P n ops Q (o :: rest) R w := fun a ha => by
  refine wpList_step fun K hK => ?_
  rw [if_neg (by cases want <;> simp [Region.wanted, hg, yielded_of ha hj hdn hb])]
  exact hK _ _ (h _ (ha.put hd undef))
section
variable {K : Value → World → Prop} {dst : Option Tmp} {ty : TypeId} {pos : String} {af : Array Edge} {gd : Option (Nat × Bool)}
theorem ev_move {x : Operand} : Ev P ⟨dst, .move x, ty, pos, af, gd⟩ R w (ev R x) := by simp [Ev, execOp]
theorem ev_assign {x : Operand} : Ev P ⟨dst, .assign x, ty, pos, af, gd⟩ R w (ev R x) := by simp [Ev, execOp]
theorem ev_pickT {c a b : Operand} (hc : ev R c = .bool true) : Ev P ⟨dst, .pick c a b, ty, pos, af, gd⟩ R w (ev R a) := by simp [Ev, execOp, hc, asBool]
theorem ev_pickF {c a b : Operand} (hc : ev R c = .bool false) : Ev P ⟨dst, .pick c a b, ty, pos, af, gd⟩ R w (ev R b) := by simp [Ev, execOp, hc, asBool]
theorem ev_extract {t : Operand} {vs : Array Value} {i : Nat} {v : Value} (ht : ev R t = .tuple vs) (hi : vs[i]? = some v) : Ev P ⟨dst, .extract t i, ty, pos, af, gd⟩ R w v := by
  simp [Ev, execOp, ht, Instr.extract, hi]
theorem ev_true {o : Oper} {p : Prop} [Decidable p] (h : Ev P o R w (.bool (decide p))) (hp : p) : Ev P o R w (.bool true) := by rw [decide_eq_true hp] at h; exact h
theorem ev_false {o : Oper} {p : Prop} [Decidable p] (h : Ev P o R w (.bool (decide p))) (hp : ¬ p) : Ev P o R w (.bool false) := by rw [decide_eq_false hp] at h; exact h
def arith : BinOp → IntKind → Int → Int → Int
  | .add, k, a, b => k.wrap (a + b)
  | .sub, k, a, b => k.wrap (a - b)
  | .mul, k, a, b => k.wrap (a * b)
  | .and, k, a, b => k.wrap ((BitVec.ofInt k.bits a &&& BitVec.ofInt k.bits b).toNat : Int)
  | .or, k, a, b => k.wrap ((BitVec.ofInt k.bits a ||| BitVec.ofInt k.bits b).toNat : Int)
  | .xor, k, a, b => k.wrap ((BitVec.ofInt k.bits a ^^^ BitVec.ofInt k.bits b).toNat : Int)
  | _, _, _, _ => 0
def arithOk : BinOp → Bool
  | .add | .sub | .mul | .and | .or | .xor => true
  | _ => false
def compare : BinOp → Int → Int → Bool
  | .eql, a, b => decide (a = b)
  | .neq, a, b => !decide (a = b)
  | .lss, a, b => decide (a < b)
  | .leq, a, b => decide (a ≤ b)
  | .gtr, a, b => decide (b < a)
  | .geq, a, b => decide (b ≤ a)
  | _, _, _ => false
def compareOk : BinOp → Bool
  | .eql | .neq | .lss | .leq | .gtr | .geq => true
  | _ => false
theorem run_arith {op : BinOp} (hop : arithOk op = true) (xt : TypeId) (k : IntKind) (a b : Int) (x y : Operand) :
    (do eqGuard op xt x y (.int k a) (.int k b); binOp op xt (.int k a) (.int k b)).run P w = .ok (.int k (arith op k a b)) w := by
  cases op <;> first | (exact absurd hop (by decide)) | simp [eqGuard, binOp, Op.intArith, Op.intBits, arith]
theorem run_compare {op : BinOp} (hop : compareOk op = true) (xt : TypeId) (k : IntKind) (a b : Int) (x y : Operand) :
    (do eqGuard op xt x y (.int k a) (.int k b); binOp op xt (.int k a) (.int k b)).run P w = .ok (.bool (compare op a b)) w := by
  cases op <;> first
    | (exact absurd hop (by decide))
    | (simp [eqGuard, binOp, Op.intCmp, compare]; done)
    | (simp only [eqGuard, binOp, Op.intCmp, compare]
       simp
       by_cases h : a = b <;> simp [h])
theorem ev_arith {op : BinOp} {xt yt : TypeId} {x y : Operand} {k : IntKind} {a b r : Int} (hop : arithOk op = true) (hx : ev R x = .int k a) (hy : ev R y = .int k b) (hr : arith op k a b = r) :
    Ev P ⟨dst, .binOp op xt x y yt, ty, pos, af, gd⟩ R w (.int k r) := by
  unfold Ev
  simp only [execOp, hx, hy]
  rw [Sem.run_bind, run_arith hop, hr]; rfl
theorem ev_cmp {op : BinOp} {xt yt : TypeId} {x y : Operand} {k : IntKind} {a b : Int} {r : Bool} (hop : compareOk op = true) (hx : ev R x = .int k a) (hy : ev R y = .int k b) (hr : compare op a b = r) :
    Ev P ⟨dst, .binOp op xt x y yt, ty, pos, af, gd⟩ R w (.bool r) := by
  unfold Ev
  simp only [execOp, hx, hy]
  rw [Sem.run_bind, run_compare hop, hr]; rfl
theorem ev_eql {xt yt : TypeId} {x y : Operand} {k : IntKind} {a b : Int} (hx : ev R x = .int k a) (hy : ev R y = .int k b) : Ev P ⟨dst, .binOp .eql xt x y yt, ty, pos, af, gd⟩ R w (.bool (decide (a = b))) := ev_cmp rfl hx hy rfl
theorem ev_neq {xt yt : TypeId} {x y : Operand} {k : IntKind} {a b : Int} (hx : ev R x = .int k a) (hy : ev R y = .int k b) : Ev P ⟨dst, .binOp .neq xt x y yt, ty, pos, af, gd⟩ R w (.bool (decide (¬ a = b))) :=
  ev_cmp rfl hx hy (by simp [compare])
theorem ev_lss {xt yt : TypeId} {x y : Operand} {k : IntKind} {a b : Int} (hx : ev R x = .int k a) (hy : ev R y = .int k b) : Ev P ⟨dst, .binOp .lss xt x y yt, ty, pos, af, gd⟩ R w (.bool (decide (a < b))) := ev_cmp rfl hx hy rfl
theorem ev_leq {xt yt : TypeId} {x y : Operand} {k : IntKind} {a b : Int} (hx : ev R x = .int k a) (hy : ev R y = .int k b) : Ev P ⟨dst, .binOp .leq xt x y yt, ty, pos, af, gd⟩ R w (.bool (decide (a ≤ b))) := ev_cmp rfl hx hy rfl
theorem ev_gtr {xt yt : TypeId} {x y : Operand} {k : IntKind} {a b : Int} (hx : ev R x = .int k a) (hy : ev R y = .int k b) : Ev P ⟨dst, .binOp .gtr xt x y yt, ty, pos, af, gd⟩ R w (.bool (decide (b < a))) := ev_cmp rfl hx hy rfl
theorem ev_geq {xt yt : TypeId} {x y : Operand} {k : IntKind} {a b : Int} (hx : ev R x = .int k a) (hy : ev R y = .int k b) : Ev P ⟨dst, .binOp .geq xt x y yt, ty, pos, af, gd⟩ R w (.bool (decide (b ≤ a))) := ev_cmp rfl hx hy rfl
theorem ev_rem {xt yt : TypeId} {x y : Operand} {k : IntKind} {a b r : Int} (hx : ev R x = .int k a) (hy : ev R y = .int k b) (h0 : b ≠ 0) (hr : a.tmod b = r) :
    Ev P ⟨dst, .binOp .rem xt x y yt, ty, pos, af, gd⟩ R w (.int k r) := by simp [Ev, execOp, hx, hy, eqGuard, binOp, Op.intDiv, h0, hr]
theorem ev_shr {xt yt : TypeId} {x y : Operand} {k k' : IntKind} {a b r : Int} (hx : ev R x = .int k a) (hy : ev R y = .int k' b) (h0 : 0 ≤ b) (hr : a.fdiv (2 ^ (min b.toNat k.bits)) = r) :
    Ev P ⟨dst, .binOp .shr xt x y yt, ty, pos, af, gd⟩ R w (.int k r) := by simp [Ev, execOp, hx, hy, eqGuard, binOp, Op.shift, Int.not_lt.2 h0, hr]
theorem ev_shl {xt yt : TypeId} {x y : Operand} {k k' : IntKind} {a b r : Int} (hx : ev R x = .int k a) (hy : ev R y = .int k' b) (h0 : 0 ≤ b) (hr : k.wrap (a * 2 ^ (min b.toNat k.bits)) = r) :
    Ev P ⟨dst, .binOp .shl xt x y yt, ty, pos, af, gd⟩ R w (.int k r) := by simp [Ev, execOp, hx, hy, eqGuard, binOp, Op.shift, Int.not_lt.2 h0, hr]
theorem ev_neg {xt : TypeId} {x : Operand} {k : IntKind} {a r : Int} (hx : ev R x = .int k a) (hr : arith .sub k 0 a = r) :
    Ev P ⟨dst, .unOp .neg xt x, ty, pos, af, gd⟩ R w (.int k r) := by subst hr; simp [Ev, execOp, hx, Op.unary, Op.intArith, arith]
theorem ev_compl {xt : TypeId} {x : Operand} {k : IntKind} {a r : Int} (hx : ev R x = .int k a) (hr : arith .xor k (if k.signed then -1 else k.max) a = r) :
    Ev P ⟨dst, .unOp .xor xt x, ty, pos, af, gd⟩ R w (.int k r) := by subst hr; simp [Ev, execOp, hx, Op.unary, Op.intBits, arith]
theorem ev_not {xt : TypeId} {x : Operand} {b : Bool} (hx : ev R x = .bool b) : Ev P ⟨dst, .unOp .not xt x, ty, pos, af, gd⟩ R w (.bool (!b)) := by simp [Ev, execOp, hx, Op.unary]
theorem ev_conv {src dt : TypeId} {x : Operand} {k k' : IntKind} {a r : Int} {u : TypeDesc} (hs : P.underlying src = some u) (hd : P.underlying dt = some (.int k')) (hx : ev R x = .int k a)
    (hr : k'.wrap a = r) : Ev P ⟨dst, .convert src dt x, ty, pos, af, gd⟩ R w (.int k' r) := by
  simp [Ev, execOp, hx, convert, run_underlying hs, run_underlying hd, Conv.intToInt, hr]
theorem ev_len {t : TypeId} {x : Operand} {A : Option Addr} {m c : Nat} {e : TypeId} (ht : P.underlying t = some (.slice e)) (hx : ev R x = .slice A m c) :
    Ev P ⟨dst, .call ⟨.builtin .len, #[x], #[t]⟩, ty, pos, af, gd⟩ R w (.int .i64 m) := by simp [Ev, execOp, resolve, invoke, builtin, Builtin.len_, hx, run_underlying ht, goInt]
theorem ev_lenStr {t : TypeId} {x : Operand} {s : ByteArray} (ht : P.underlying t = some .string) (hx : ev R x = .string s) :
    Ev P ⟨dst, .call ⟨.builtin .len, #[x], #[t]⟩, ty, pos, af, gd⟩ R w (.int .i64 s.size) := by simp [Ev, execOp, resolve, invoke, builtin, Builtin.len_, hx, run_underlying ht, goInt]
theorem wrap_i64 {a : Int} (h0 : -9223372036854775808 ≤ a) (h1 : a ≤ 9223372036854775807) : IntKind.i64.wrap a = a := by
  simp only [IntKind.wrap, IntKind.bits, IntKind.signed, Bool.true_and]
  split <;> simp_all <;> omega
theorem add64 {a b : Int} (h0 : -9223372036854775808 ≤ a + b) (h1 : a + b ≤ 9223372036854775807) : arith .add .i64 a b = a + b := wrap_i64 h0 h1
theorem sub64 {a b : Int} (h0 : -9223372036854775808 ≤ a - b) (h1 : a - b ≤ 9223372036854775807) : arith .sub .i64 a b = a - b := wrap_i64 h0 h1
theorem mul64 {a b : Int} (h0 : -9223372036854775808 ≤ a * b) (h1 : a * b ≤ 9223372036854775807) : arith .mul .i64 a b = a * b := wrap_i64 h0 h1
theorem run_callFunc {f : FuncId} {fn : Func} (args : Array Value) (hf : P.funcs[f]? = some fn) (hn : (fn.name == "runtime.NumGoroutine") = false) (hb : fn.body.isSome = true) :
    (callFunc f args).run P w = .ok (.enter f args) w := by
  simp only [beq_eq_false_iff_ne, ne_eq] at hn
  have hb' : fn.body ≠ .none := fun e => by rw [e] at hb; cases hb
  simp [callFunc, hf, hn, hb']
theorem op_call0 {f : FuncId} {fn : Func} {ats : Array TypeId} (hf : P.funcs[f]? = some fn) (hn : (fn.name == "runtime.NumGoroutine") = false) (hb : fn.body.isSome = true)
     (h : Gives P f #[] w K) : OpR P ⟨dst, .call ⟨.value (.func f), #[], ats⟩, ty, pos, af, gd⟩ R w K :=
  OpR.enter (f := f) (args := #[]) (w' := w) (by
    have := run_callFunc (P := P) (w := w) #[] hf hn hb
    simp only [execOp, resolve, Deferred.ofValue, List.map_toArray, List.map_cons, List.map_nil, Sem.run_bind, Sem.run_pure, Result.andThen_ok, invoke]
    simpa [ev] using this) h
theorem op_call1 {f : FuncId} {fn : Func} {ats : Array TypeId} {x : Operand} {v1 : Value} (hf : P.funcs[f]? = some fn) (hn : (fn.name == "runtime.NumGoroutine") = false) (hb : fn.body.isSome = true)
    (hx : ev R x = v1) (h : Gives P f #[v1] w K) : OpR P ⟨dst, .call ⟨.value (.func f), #[x], ats⟩, ty, pos, af, gd⟩ R w K :=
  OpR.enter (f := f) (args := #[v1]) (w' := w) (by
    subst hx
    have := run_callFunc (P := P) (w := w) #[ev R x] hf hn hb
    simp only [execOp, resolve, Deferred.ofValue, List.map_toArray, List.map_cons, List.map_nil, Sem.run_bind, Sem.run_pure, Result.andThen_ok, invoke]
    simpa [ev] using this) h
theorem op_call2 {f : FuncId} {fn : Func} {ats : Array TypeId} {x y : Operand} {v1 v2 : Value} (hf : P.funcs[f]? = some fn) (hn : (fn.name == "runtime.NumGoroutine") = false) (hb : fn.body.isSome = true)
    (hx : ev R x = v1) (hy : ev R y = v2) (h : Gives P f #[v1, v2] w K) : OpR P ⟨dst, .call ⟨.value (.func f), #[x, y], ats⟩, ty, pos, af, gd⟩ R w K :=
  OpR.enter (f := f) (args := #[v1, v2]) (w' := w) (by
    subst hx hy
    have := run_callFunc (P := P) (w := w) #[ev R x, ev R y] hf hn hb
    simp only [execOp, resolve, Deferred.ofValue, List.map_toArray, List.map_cons, List.map_nil, Sem.run_bind, Sem.run_pure, Result.andThen_ok, invoke]
    simpa [ev] using this) h
theorem op_call3 {f : FuncId} {fn : Func} {ats : Array TypeId} {x y z : Operand} {v1 v2 v3 : Value} (hf : P.funcs[f]? = some fn) (hn : (fn.name == "runtime.NumGoroutine") = false) (hb : fn.body.isSome = true)
    (hx : ev R x = v1) (hy : ev R y = v2) (hz : ev R z = v3) (h : Gives P f #[v1, v2, v3] w K) : OpR P ⟨dst, .call ⟨.value (.func f), #[x, y, z], ats⟩, ty, pos, af, gd⟩ R w K :=
  OpR.enter (f := f) (args := #[v1, v2, v3]) (w' := w) (by
    subst hx hy hz
    have := run_callFunc (P := P) (w := w) #[ev R x, ev R y, ev R z] hf hn hb
    simp only [execOp, resolve, Deferred.ofValue, List.map_toArray, List.map_cons, List.map_nil, Sem.run_bind, Sem.run_pure, Result.andThen_ok, invoke]
    simpa [ev] using this) h
theorem op_call4 {f : FuncId} {fn : Func} {ats : Array TypeId} {x y z s : Operand} {v1 v2 v3 v4 : Value} (hf : P.funcs[f]? = some fn) (hn : (fn.name == "runtime.NumGoroutine") = false) (hb : fn.body.isSome = true)
    (hx : ev R x = v1) (hy : ev R y = v2) (hz : ev R z = v3) (hs : ev R s = v4) (h : Gives P f #[v1, v2, v3, v4] w K) : OpR P ⟨dst, .call ⟨.value (.func f), #[x, y, z, s], ats⟩, ty, pos, af, gd⟩ R w K :=
  OpR.enter (f := f) (args := #[v1, v2, v3, v4]) (w' := w) (by
    subst hx hy hz hs
    have := run_callFunc (P := P) (w := w) #[ev R x, ev R y, ev R z, ev R s] hf hn hb
    simp only [execOp, resolve, Deferred.ofValue, List.map_toArray, List.map_cons, List.map_nil, Sem.run_bind, Sem.run_pure, Result.andThen_ok, invoke]
    simpa [ev] using this) h
theorem op_call5 {f : FuncId} {fn : Func} {ats : Array TypeId} {x y z s t : Operand} {v1 v2 v3 v4 v5 : Value} (hf : P.funcs[f]? = some fn) (hn : (fn.name == "runtime.NumGoroutine") = false) (hb : fn.body.isSome = true)
    (hx : ev R x = v1) (hy : ev R y = v2) (hz : ev R z = v3) (hs : ev R s = v4) (ht : ev R t = v5) (h : Gives P f #[v1, v2, v3, v4, v5] w K) : OpR P ⟨dst, .call ⟨.value (.func f), #[x, y, z, s, t], ats⟩, ty, pos, af, gd⟩ R w K :=
  OpR.enter (f := f) (args := #[v1, v2, v3, v4, v5]) (w' := w) (by
    subst hx hy hz hs ht
    have := run_callFunc (P := P) (w := w) #[ev R x, ev R y, ev R z, ev R s, ev R t] hf hn hb
    simp only [execOp, resolve, Deferred.ofValue, List.map_toArray, List.map_cons, List.map_nil, Sem.run_bind, Sem.run_pure, Result.andThen_ok, invoke]
    simpa [ev] using this) h
end
end
end Go.Rl
set_option linter.unusedVariables false
set_option linter.unusedSimpArgs false
namespace Go.Rl
open Go.RowKit
structure Mod (M : Nat → Prop) (w w' : World) : Prop where
  os : w'.os = w.os
  tape : w'.tape = w.tape
  output : w'.output = w.output
  size : w.heap.size ≤ w'.heap.size
  block : ∀ k, k < w.heap.size → ¬ M k → w'.heap[k]? = w.heap[k]?
abbrev Ext : World → World → Prop := Mod (fun _ => False)
theorem Mod.refl (M : Nat → Prop) (w : World) : Mod M w w := ⟨rfl, rfl, rfl, Nat.le_refl _, fun _ _ _ => rfl⟩
theorem Mod.trans {M M1 M2 : Nat → Prop} {a b c : World} (h : Mod M1 a b) (k : Mod M2 b c) (h1 : ∀ i, i < a.heap.size → M1 i → M i) (h2 : ∀ i, i < a.heap.size → M2 i → M i) : Mod M a c :=
  ⟨k.os.trans h.os, k.tape.trans h.tape, k.output.trans h.output, Nat.le_trans h.size k.size, fun i hi hM =>
    (k.block i (Nat.lt_of_lt_of_le hi h.size) fun e => hM (h2 i hi e)).trans (h.block i hi fun e => hM (h1 i hi e))⟩
theorem Mod.mono {M M' : Nat → Prop} {w w' : World} (h : Mod M w w') (hm : ∀ i, i < w.heap.size → M i → M' i) : Mod M' w w' :=
  ⟨h.os, h.tape, h.output, h.size, fun i hi hM => h.block i hi fun e => hM (hm i hi e)⟩
theorem Ext.trans {a b c : World} (h : Ext a b) (k : Ext b c) : Ext a c := Mod.trans h k (fun _ _ => id) (fun _ _ => id)
theorem Ext.mod {M : Nat → Prop} {w w' : World} (h : Ext w w') : Mod M w w' := Mod.mono h fun _ _ e => e.elim
theorem Ext.then {a b c : World} {M : Nat → Prop} (h : Ext a b) (k : Mod M b c) (hm : ∀ i, i < a.heap.size → ¬ M i) : Ext a c := Mod.trans h k (fun _ _ => id) (fun i hi e => hm i hi e)
theorem Ext.alloc (w : World) (o : Obj) : Ext w (w.alloc o) := ⟨rfl, rfl, rfl, by simp, fun k hk _ => heap_alloc_old w o hk⟩
theorem Ext.drew (w : World) : Ext w w.drew := ⟨rfl, rfl, rfl, Nat.le_refl _, fun _ _ _ => rfl⟩
theorem Ext.below {w w' : World} (h : Ext w w') : Below w.heap.size w w' := ⟨h.os, h.tape, h.output, h.size, fun k hk => h.block k hk (fun e => e)⟩
theorem Mod.of_grown {w w' : World} {row : Option Nat} (h : w.grownBy w' row) : Mod (fun k => row = some k) w w' := ⟨h.os, h.tape, h.output, h.size, fun k hk hM => h.block k hk fun e => hM e.symm⟩
theorem Mod.heap {M : Nat → Prop} {w w' : World} (h : Mod M w w') {g : Nat} {o : Obj} (hg : w.heap[g]? = some o) (hM : ¬ M g) : w'.heap[g]? = some o :=
  (h.block g (Array.getElem?_eq_some_iff.1 hg).1 hM).trans hg
theorem Mod.cell {M : Nat → Prop} {w w' : World} (h : Mod M w w') {a : Addr} {v : Value} (hc : w.cell? a = some v) (hM : ¬ M a.block) : w'.cell? a = some v := by
  rw [World.cell?_of_block (h.block _ (block_lt_of_cell hc) hM), hc]
theorem Mod.setCell {w : World} {p : Addr} (v : Value) : Mod (fun k => k = p.block) w (w.setCell p v) :=
  ⟨rfl, rfl, rfl, by simp, fun k _ hM => heap_setCell_other w p k v hM⟩
def Cells (w : World) (A : Option Addr) (vs : List Value) : Prop := ∀ (j : Nat) (v : Value), vs[j]? = some v → ∃ ad, A = some ad ∧ w.cell? (ad.add j) = some v
theorem Cells.nil (w : World) (A : Option Addr) : Cells w A [] := fun j v h => by simp at h
theorem block_add (a : Addr) (n : Nat) : (a.add n).block = a.block := by unfold Addr.add; split <;> rfl
theorem add_add (a : Addr) (m k : Nat) : (a.add m).add k = a.add (m + k) := by
  unfold Addr.add
  by_cases hm : m = 0 <;> by_cases hk : k = 0 <;> simp [hm, hk, Nat.add_assoc]
theorem Cells.mod {M : Nat → Prop} {w w' : World} {A : Option Addr} {vs : List Value} (h : Cells w A vs) (hm : Mod M w w') (hb : ∀ ad, A = some ad → ¬ M ad.block) : Cells w' A vs := fun j v hv => by
  obtain ⟨ad, rfl, hc⟩ := h j v hv
  exact ⟨ad, rfl, hm.cell hc (by rw [block_add]; exact hb ad rfl)⟩
theorem Cells.take {w : World} {A : Option Addr} {vs : List Value} (h : Cells w A vs) (k : Nat) : Cells w A (vs.take k) := fun j v hv => by
  rw [List.getElem?_take] at hv
  split at hv
  · exact h j v hv
  · cases hv
theorem Cells.drop {w : World} {A : Option Addr} {vs : List Value} (h : Cells w A vs) (k : Nat) : Cells w (A.map (·.add k)) (vs.drop k) := fun j v hv => by
  rw [List.getElem?_drop] at hv
  obtain ⟨ad, rfl, hc⟩ := h _ v hv
  exact ⟨ad.add k, rfl, by rw [add_add]; exact hc⟩
section
variable {α : Type} {enc : α → Value}
def Sl (enc : α → Value) (w : World) (v : Value) (l : List α) : Prop := ∃ A c, v = .slice A l.length c ∧ l.length ≤ c ∧ c ≤ maxLen ∧ Cells w A (l.map enc)
theorem Sl.nil (enc : α → Value) (w : World) : Sl enc w (.slice none 0 0) [] := ⟨none, 0, rfl, Nat.le_refl _, by unfold maxLen; omega, Cells.nil _ _⟩
theorem Sl.mod {M : Nat → Prop} {w w' : World} {v : Value} {l : List α} (h : Sl enc w v l) (hm : Mod M w w') (hb : ∀ k, v.ownBlock = some k → ¬ M k) : Sl enc w' v l := by
  obtain ⟨A, c, rfl, h1, h2, hc⟩ := h
  refine ⟨A, c, rfl, h1, h2, hc.mod hm ?_⟩
  rintro ad rfl
  exact hb _ rfl
theorem Sl.ext {w w' : World} {v : Value} {l : List α} (h : Sl enc w v l) (hm : Ext w w') : Sl enc w' v l := h.mod hm (fun _ _ e => e)
theorem Sl.cap {w : World} {A : Option Addr} {m c : Nat} {l : List α} (h : Sl enc w (.slice A m c) l) : m = l.length ∧ l.length ≤ c := by
  obtain ⟨A', c', he, h1, _⟩ := h
  injection he with _ h2 h3
  exact ⟨h2, by omega⟩
theorem Sl.len_le {w : World} {v : Value} {l : List α} (h : Sl enc w v l) : l.length ≤ 9223372036854775807 := by
  obtain ⟨A, c, rfl, h1, h2, _⟩ := h; unfold maxLen at h2; omega
theorem Sl.lt {w : World} {v : Value} {l : List α} (h : Sl enc w v l) (hl : l ≠ []) : ∀ k, v.ownBlock = some k → k < w.heap.size := by
  obtain ⟨A, c, rfl, h1, h2, hc⟩ := h
  intro k hk
  cases l with
  | nil => exact absurd rfl hl
  | cons x xs =>
    obtain ⟨ad, rfl, hx⟩ := hc 0 (enc x) rfl
    have := block_lt_of_cell hx
    rw [block_add] at this
    simp [Value.ownBlock] at hk
    omega
def Own (enc : α → Value) (E : TypeId) (w : World) (base : Nat) (v : Value) (l : List α) : Prop := w.ownsRow base E 1 v l.length (l.map enc)
theorem Own.nil (enc : α → Value) (E : TypeId) (w : World) (base : Nat) : Own enc E w base (.slice none 0 0) [] := World.ownsRow_nil _ _ _ _
theorem Own.sl {E : TypeId} {w : World} {base : Nat} {v : Value} {l : List α} (h : Own enc E w base v l) : Sl enc w v l := by
  rcases h.2 with ⟨rfl, h0⟩ | ⟨g, cap, cur, rfl, hb, hh, h1, h2, h3, h4⟩
  · have : l = [] := List.eq_nil_of_length_eq_zero h0
    subst this
    exact Sl.nil _ _
  · refine ⟨_, cap, rfl, h1, h2, fun j v hv => ⟨_, rfl, ?_⟩⟩
    exact World.ownsRow.cells h (g := g) rfl j v hv
theorem Own.mod {E : TypeId} {M : Nat → Prop} {w w' : World} {base : Nat} {v : Value} {l : List α} (h : Own enc E w base v l) (hm : Mod M w w') (hb : ∀ k, v.ownBlock = some k → ¬ M k) : Own enc E w' base v l := by
  unfold Own World.ownsRow at *
  refine ⟨h.1, h.2.imp id ?_⟩
  rintro ⟨g, cap, cur, rfl, hb', hh, hr⟩
  exact ⟨g, cap, cur, rfl, hb', hm.heap hh (hb g rfl), hr⟩
theorem Own.ext {E : TypeId} {w w' : World} {base : Nat} {v : Value} {l : List α} (h : Own enc E w base v l) (hm : Ext w w') : Own enc E w' base v l := h.mod hm (fun _ _ e => e)
theorem Own.lt {E : TypeId} {w : World} {base : Nat} {v : Value} {l : List α} (h : Own enc E w base v l) : ∀ k, v.ownBlock = some k → base ≤ k ∧ k < w.heap.size := World.ownsRow.lt h
theorem Own.lower {E : TypeId} {w : World} {base base' : Nat} {v : Value} {l : List α} (h : Own enc E w base v l) (hb : base' ≤ base) : Own enc E w base' v l := by
  unfold Own World.ownsRow at *
  refine ⟨h.1, h.2.imp id ?_⟩
  rintro ⟨g, cap, cur, rfl, hb', hr⟩
  exact ⟨g, cap, cur, rfl, Nat.le_trans hb hb', hr⟩
end
section
variable {P : Program} {n : Nat} {Q : Post} {R : Nat → Value} {w : World} {K : Value → World → Prop} {dst : Option Tmp} {ty : TypeId} {pos : String} {af : Array Edge} {gd : Option (Nat × Bool)}
variable {α : Type} {enc : α → Value}
theorem ev_lenS {t : TypeId} {x : Operand} {v : Value} {l : List α} {e : TypeId} (ht : P.underlying t = some (.slice e)) (hs : Sl enc w v l) (hx : ev R x = v) :
    Ev P ⟨dst, .call ⟨.builtin .len, #[x], #[t]⟩, ty, pos, af, gd⟩ R w (.int .i64 l.length) := by
  obtain ⟨A, c, rfl, _⟩ := hs
  exact ev_len ht hx
theorem size_of {e : TypeId} {s : Nat} (hsz : (P.info? e).map (·.size) = some s) : (sizeOf e).run P w = .ok s w := by
  cases hq : P.info? e with
  | none => simp [hq] at hsz
  | some i =>
    have : i.size = s := by simpa [hq] using hsz
    simp [sizeOf, typeInfo, hq, this]
def elemAddr (v : Value) (m : Nat) : Value := match v with
  | .slice (some ad) _ _ => .pointer (some (ad.add m))
  | _ => .pointer none
theorem ev_index {t e : TypeId} {x i : Operand} {v : Value} {l : List α} {k : IntKind} {m : Int} (ht : P.underlying t = some (.slice e)) (hsz : (P.info? e).map (·.size) = some 1)
    (hs : Sl enc w v l) (hx : ev R x = v) (hi : ev R i = .int k m) (h0 : 0 ≤ m) (h1 : m < l.length) : Ev P ⟨dst, .indexAddr t x i, ty, pos, af, gd⟩ R w (elemAddr v m.toNat) := by
  obtain ⟨A, c, rfl, hlc, hm, hc⟩ := hs
  have hlt : m.toNat < l.length := by omega
  obtain ⟨ad, rfl, hcell⟩ := hc m.toNat (enc l[m.toNat]) (by simp [List.getElem?_eq_getElem hlt])
  have hr : (0 ≤ m ∧ m < (l.length : Int)) := ⟨h0, h1⟩
  simp [Ev, elemAddr, execOp, hx, hi, Instr.indexAt, asIntOf, run_underlying ht, hr, size_of (w := w) hsz]
theorem run_loadVar_one {t : TypeId} {p : Addr} {v : Value} {d : TypeDesc} (ht : P.underlying t = some d) (hd : (match d with | .struct _ | .array _ _ => false | _ => true) = true) (hc : w.cell? p = some v) :
    (loadVar t p).run P w = .ok v w := by
  have hagg : (isAgg t).run P w = .ok false w := by
    unfold isAgg
    rw [Sem.run_bind, run_underlying ht w]
    cases d <;> simp_all
  simp [loadVar, Sem.run_bind, hagg, load, Sem.run, hc]
theorem ev_load {t : TypeId} {x : Operand} {p : Addr} {v : Value} {d : TypeDesc} (ht : P.underlying t = some d) (hd : (match d with | .struct _ | .array _ _ => false | _ => true) = true)
    (hx : ev R x = .pointer (some p)) (hc : w.cell? p = some v) : Ev P ⟨dst, .load t x, ty, pos, af, gd⟩ R w v := by
  simp [Ev, execOp, hx, Instr.loadAt, Instr.sureAddr, Sem.run_bind, run_loadVar_one ht hd hc]
theorem ev_loadS {t : TypeId} {x : Operand} {v : Value} {l : List α} {m : Nat} {d : TypeDesc} (ht : P.underlying t = some d) (hd : (match d with | .struct _ | .array _ _ => false | _ => true) = true)
    (hs : Sl enc w v l) (hx : ev R x = elemAddr v m) (hm : m < l.length) : Ev P ⟨dst, .load t x, ty, pos, af, gd⟩ R w (enc l[m]) := by
  obtain ⟨A, c, rfl, hlc, hmx, hc⟩ := hs
  obtain ⟨ad, rfl, hcell⟩ := hc m (enc l[m]) (by simp [List.getElem?_eq_getElem hm])
  exact ev_load ht hd hx hcell
theorem ev_loadG {t : TypeId} {x : Operand} {v : Value} {l : List α} {m : Nat} {a : α} {d : TypeDesc} (ht : P.underlying t = some d) (hd : (match d with | .struct _ | .array _ _ => false | _ => true) = true)
    (hs : Sl enc w v l) (hx : ev R x = elemAddr v m) (hm : l[m]? = some a) : Ev P ⟨dst, .load t x, ty, pos, af, gd⟩ R w (enc a) := by
  obtain ⟨hlt, rfl⟩ := List.getElem?_eq_some_iff.1 hm
  exact ev_loadS ht hd hs hx hlt
theorem op_store {t : TypeId} {x y : Operand} {p : Addr} {v u : Value} (hsz : (P.info? t).map (·.size) = some 1)
    (hx : ev R x = .pointer (some p)) (hy : ev R y = v) (hv : v.cells = #[v]) (h1 : v.oneCell' = true) (hc : w.cell? p = some u) (hf : w.frozen? p = false) (h : K undef (w.setCell p v)) : OpR P ⟨dst, .store t x y, ty, pos, af, gd⟩ R w K := by
  refine OpR.unit (w' := w.setCell p v) ?_ h
  have h0 : p.add 0 = p := rfl
  have hrun : (store p v).run P w = .ok () (w.setCell p v) := by
    unfold store
    cases v <;> simp_all [Sem.run, Value.oneCell']
  simp [execOp, hx, hy, Instr.storeAt, Instr.sureAddr, storeVar, hv, size_of (w := w) hsz, storeCells, h0, hrun]
def cutV (v : Value) (lo hi : Nat) : Value := match v with
  | .slice A n c => .slice (if c = lo then A else A.map (·.add (lo * 1))) (hi - lo) (c - lo)
  | v => v
theorem cutV_block {v : Value} {l : List α} (h : Sl enc w v l) (lo hi : Nat) : (cutV v lo hi).ownBlock = v.ownBlock := by
  obtain ⟨A, c, rfl, _⟩ := h
  simp only [cutV]
  split
  · cases A <;> rfl
  · cases A with
    | none => rfl
    | some ad => simp [Value.ownBlock, block_add]
theorem Sl.cut {v : Value} {lo hi : Nat} {l : List α} (h : Sl enc w v l) (hlo : lo ≤ hi) (hhi : hi ≤ l.length) : Sl enc w (cutV v lo hi) ((l.take hi).drop lo) := by
  obtain ⟨A, c, rfl, h1, h2, hc⟩ := h
  have hlen : ((l.take hi).drop lo).length = hi - lo := by simp; omega
  refine ⟨_, c - lo, by rw [hlen]; rfl, by omega, by omega, ?_⟩
  split
  · have : (l.take hi).drop lo = [] := List.eq_nil_of_length_eq_zero (by omega)
    rw [this]; exact Cells.nil _ _
  · have := (hc.take hi).drop lo
    rw [Nat.mul_one]
    simpa [List.map_take, List.map_drop] using this
theorem Sl.cutTo {v : Value} {hi : Nat} {l : List α} (h : Sl enc w v l) (hhi : hi ≤ l.length) : Sl enc w (cutV v 0 hi) (l.take hi) := by simpa using h.cut (Nat.zero_le hi) hhi
theorem Sl.cutFrom {v : Value} {lo : Nat} {l : List α} (h : Sl enc w v l) (hlo : lo ≤ l.length) : Sl enc w (cutV v lo l.length) (l.drop lo) := by simpa using h.cut hlo (Nat.le_refl _)
theorem ev_cutTo {t e : TypeId} {x hi : Operand} {v : Value} {l : List α} {k' : IntKind} {b : Int} (ht : P.underlying t = some (.slice e)) (hsz : (P.info? e).map (·.size) = some 1)
    (hs : Sl enc w v l) (hx : ev R x = v) (hhi : ev R hi = .int k' b) (h1 : 0 ≤ b) (h2 : b ≤ l.length) :
    Ev P ⟨dst, .slice t x none (some hi) none, ty, pos, af, gd⟩ R w (cutV v 0 b.toNat) := by
  obtain ⟨A, c, rfl, hlc, hm, hc⟩ := hs
  have hb1 : 0 ≤ b ∧ b ≤ (c : Int) := ⟨by omega, by omega⟩
  simp [Ev, cutV, execOp, hx, hhi, Instr.sliceAt, Instr.slice, run_underlying ht, Instr.sliceBounds, Instr.sliceBound, asIntOf, hb1, size_of (w := w) hsz]
theorem ev_cutFrom {t e : TypeId} {x lo : Operand} {v : Value} {l : List α} {k : IntKind} {a : Int} (ht : P.underlying t = some (.slice e)) (hsz : (P.info? e).map (·.size) = some 1)
    (hs : Sl enc w v l) (hx : ev R x = v) (hlo : ev R lo = .int k a) (h0 : 0 ≤ a) (h1 : a ≤ l.length) :
    Ev P ⟨dst, .slice t x (some lo) none none, ty, pos, af, gd⟩ R w (cutV v a.toNat l.length) := by
  obtain ⟨A, c, rfl, hlc, hm, hc⟩ := hs
  have ha1 : 0 ≤ a ∧ a ≤ (l.length : Int) := ⟨h0, by omega⟩
  simp [Ev, cutV, execOp, hx, hlo, Instr.sliceAt, Instr.slice, run_underlying ht, Instr.sliceBounds, Instr.sliceBound, asIntOf, ha1, size_of (w := w) hsz]
theorem cutV_zero (A : Option Addr) (m c hi : Nat) : cutV (.slice A m c) 0 hi = .slice A hi c := by
  unfold cutV
  simp only [Nat.sub_zero, Nat.zero_mul]
  split
  · rfl
  · cases A <;> rfl
theorem Own.take {E : TypeId} {base : Nat} {v : Value} {l : List α} (h : Own enc E w base v l) {k : Nat} (hk : k ≤ l.length) : Own enc E w base (cutV v 0 k) (l.take k) := by
  unfold Own World.ownsRow at *
  have hlen : (l.take k).length = k := by simp; omega
  refine ⟨by simp, ?_⟩
  rcases h.2 with ⟨rfl, h0⟩ | ⟨g, cap, cur, rfl, hb, hh, h1, h2, h3, h4⟩
  · have : k = 0 := by omega
    subst this
    rw [cutV_zero]
    exact .inl ⟨rfl, hlen⟩
  · rw [cutV_zero, hlen]
    refine .inr ⟨g, cap, cur, rfl, hb, hh, by omega, h2, h3, ?_⟩
    have := congrArg (List.take (k * 1)) h4
    rw [List.take_take] at this
    rw [Nat.min_eq_left (by omega)] at this
    rw [this, List.map_take]
    simp
theorem Own.set {E : TypeId} {base g c : Nat} {l : List α} (h : Own enc E w base (.slice (some ⟨g, 0, none⟩) l.length c) l) (j : Nat) (a : α) :
    Own enc E (w.setCell ⟨g, j, none⟩ (enc a)) base (.slice (some ⟨g, 0, none⟩) l.length c) (l.set j a) := by
  unfold Own World.ownsRow at *
  refine ⟨by simp, ?_⟩
  rcases h.2 with ⟨h0, _⟩ | ⟨g', cap, cur, he, hb, hh, h1, h2, h3, h4⟩
  · cases h0
  · cases he
    refine .inr ⟨g, c, cur.setIfInBounds j (enc a), by simp, hb, heap_setCell_same w g j cur E (enc a) hh, by simpa using h1, h2, by simpa using h3, ?_⟩
    rw [Array.toList_setIfInBounds, List.take_set, List.length_set, h4, List.map_set]
theorem Own.form {E : TypeId} {base : Nat} {v : Value} {l : List α} (h : Own enc E w base v l) (hl : l ≠ []) : ∃ g c, v = .slice (some ⟨g, 0, none⟩) l.length c ∧ base ≤ g := by
  rcases h.2 with ⟨rfl, h0⟩ | ⟨g, cap, cur, rfl, hb, _⟩
  · exact absurd (List.eq_nil_of_length_eq_zero h0) hl
  · exact ⟨g, cap, rfl, hb⟩
theorem op_storeOwn {t : TypeId} {x y : Operand} {E base : Nat} {v u : Value} {l : List α} {a : α} {m : Nat} (hsz : (P.info? t).map (·.size) = some 1)
    (hs : Own enc E w base v l) (hx : ev R x = elemAddr v m) (hm : m < l.length) (hy : ev R y = u) (hu : u = enc a) (hc : (enc a).cells = #[enc a]) (h1 : (enc a).oneCell' = true)
    (h : ∀ w', Own enc E w' base v (l.set m a) → Mod (fun k => v.ownBlock = some k) w w' → w'.heap.size = w.heap.size → K undef w') : OpR P ⟨dst, .store t x y, ty, pos, af, gd⟩ R w K := by
  obtain ⟨g, c, rfl, hb⟩ := hs.form (by intro e; subst e; simp at hm)
  subst hu
  have hcell : w.cell? ⟨g, m, none⟩ = some (enc l[m]) := by
    have := World.ownsRow.cells hs (g := g) rfl m (enc l[m]) (by simp [List.getElem?_eq_getElem hm])
    have h0 : (⟨g, 0, none⟩ : Addr).add m = ⟨g, m, none⟩ := by unfold Addr.add; split <;> simp_all
    rwa [h0] at this
  have hfree : w.frozen? ⟨g, m, none⟩ = false := by
    rcases hs.2 with ⟨h0, _⟩ | ⟨g', cap, cur, he, _, hh, _⟩
    · cases h0
    · cases he
      simp [World.frozen?, hh]
  refine op_store (p := ⟨g, m, none⟩) hsz ?_ hy hc h1 hcell hfree (h _ (hs.set m a) ((Mod.setCell (p := ⟨g, m, none⟩) _).mono fun i _ e => by simp [Value.ownBlock, e]) (by simp))
  rw [hx]
  simp only [elemAddr]
  congr 2
  unfold Addr.add; split <;> simp_all
theorem op_append {t e : TypeId} {s x : Operand} {v u : Value} {l m : List α} {z : Value} {bytes base : Nat} (ht : P.underlying t = some (.slice e))
    (hinfo : (P.info? e).map (fun i => (i.zero, i.size, i.bytes)) = some (some z, 1, bytes)) (hz : z.cells.size = 1) (h1 : ∀ a, (enc a).oneCell' = true)
    (hs : Own enc e w base v l) (hx : ev R s = v) (hu : Sl enc w u m) (hy : ev R x = u) (hlen : (l.length + m.length) * bytes ≤ 140737488355328) (hbytes : 0 < bytes) (hbase : base ≤ w.heap.size)
    (h : ∀ v' w', Own enc e w' base v' (l ++ m) → Mod (fun k => v.ownBlock = some k) w w' → (v'.ownBlock = v.ownBlock ∨ v'.ownBlock = some w.heap.size) → K v' w') :
    OpR P ⟨dst, .call ⟨.builtin .append, #[s, x], #[t, t]⟩, ty, pos, af, gd⟩ R w K := by
  obtain ⟨A, c, rfl, hlc, hm, hc⟩ := hu
  have hinf : ∃ i, P.info? e = some i ∧ i.zero = some z ∧ i.size = 1 ∧ i.bytes = bytes := by
    cases hq : P.info? e with
    | none => simp [hq] at hinfo
    | some i => simp [hq] at hinfo; exact ⟨i, rfl, hinfo⟩
  obtain ⟨i, hi, hi1, hi2, hi3⟩ := hinf
  have hbig : l.length + m.length ≤ maxLen := by
    unfold maxLen
    have : (l.length + m.length) * 1 ≤ (l.length + m.length) * bytes := Nat.mul_le_mul_left _ hbytes
    omega
  by_cases hA : ∃ ad, A = some ad
  · obtain ⟨ad, rfl⟩ := hA
    obtain ⟨v', w', hrun, hown, hgrow, _, hblk⟩ := run_append_own_at (P := P) (w := w) base t ty e i z 1 bytes ht hi hi1 hi2 hi3 hz (by omega) v l.length (l.map enc) hs ad m.length c (m.map enc) (by simp)
      (fun j u hj => by obtain ⟨ad', h', hcell⟩ := hc j u hj; cases h'; exact hcell) (by simp; exact fun a _ => h1 a) hbig hlen hbase
    refine OpR.value (v := v') (w' := w') ?_ (h v' w' ?_ (Mod.of_grown hgrow) hblk)
    · simp [execOp, resolve, invoke, builtin, hx, hy, hrun]
    · unfold Own; simpa using hown
  · have hA0 : A = none := by cases A with
      | none => rfl
      | some ad => exact absurd ⟨ad, rfl⟩ hA
    subst hA0
    have hm0 : m = [] := by
      cases m with
      | nil => rfl
      | cons a r => obtain ⟨ad, h', _⟩ := hc 0 (enc a) rfl; cases h'
    subst hm0
    have hown0 := hs
    have hrun : (Builtin.append_ #[t, t] ty #[v, .slice none 0 c]).run P w = .ok v w := by
      obtain ⟨A', c', rfl, hl', hm', _⟩ := hs.sl
      have hn : ¬ (∃ q, TypeDesc.slice e = .int q) := fun ⟨q, hq⟩ => by cases hq
      have hle : l.length ≤ c' := hl'
      cases A' <;> simp [Builtin.append_, run_underlying ht, sizeOf, typeInfo, hi, hi2, Builtin.lenOf, Builtin.firstCells, hle, storeCells]
    refine OpR.value (v := v) (w' := w) ?_ (h v w (by simpa using hs) (Mod.refl _ _) (.inl rfl))
    simp only [List.length_nil] at hy
    simp [execOp, resolve, invoke, builtin, hx, hy, hrun]
end
end Go.Rl
set_option linter.unusedVariables false
set_option linter.unusedSimpArgs false
namespace Go.Rl
open Go.RowKit
def vb (b : UInt8) : Value := .int .u8 (b.toNat : Int)
def str (l : List UInt8) : Value := .string ⟨l.toArray⟩
theorem vb_cells (b : UInt8) : (vb b).cells = #[vb b] := rfl
theorem vb_one (b : UInt8) : (vb b).oneCell' = true := rfl
theorem str_of (s : ByteArray) : Value.string s = str s.data.toList := by unfold str; simp
section
variable {P : Program} {n : Nat} {Q : Post} {R : Nat → Value} {w : World} {K : Value → World → Prop} {dst : Option Tmp} {ty : TypeId} {pos : String} {af : Array Edge} {gd : Option (Nat × Bool)}
variable {α : Type} {enc : α → Value}
theorem Cells.load {A : Addr} {vs : List Value} (h : Cells w (some A) vs) : (loadCells A vs.length).run P w = .ok vs.toArray w :=
  run_loadCells_list (P := P) w A vs fun j v hv => by obtain ⟨ad, e, hc⟩ := h j v hv; cases e; exact hc
theorem foldl_push (l : List UInt8) : ∀ s : ByteArray, (l.map fun b => (b.toNat : Int)).foldl (fun r n => r.push (UInt8.ofNat n.toNat)) s = ⟨s.data ++ l.toArray⟩ := by
  induction l with
  | nil => intro s; simp
  | cons b r ih => intro s; simp only [List.map_cons, List.foldl_cons, ih]; simp [ByteArray.push]
theorem run_toStr {src dt e : TypeId} {v : Value} {l : List UInt8} (hs : P.underlying src = some (.slice e)) (he : P.underlying e = some (.int .u8)) (hd : P.underlying dt = some .string) (h : Sl vb w v l) :
    (convert src dt v).run P w = .ok (str l) w := by
  obtain ⟨A, c, rfl, hlc, hm, hc⟩ := h
  rw [run_convert_bytes_string w src dt e A l.length c hs he hd]
  cases A with
  | none =>
    cases l with
    | nil => rfl
    | cons b r => obtain ⟨ad, h, _⟩ := hc 0 (vb b) rfl; cases h
  | some a =>
    have h1 : (loadCells a l.length).run P w = .ok ((l.map fun b => (b.toNat : Int)).map (Value.int .u8)).toArray w := by
      have := Cells.load (P := P) hc
      rw [List.length_map] at this
      rw [this, List.map_map]
      rfl
    rw [run_bytesToString w a l.length c _ h1, foldl_push]
    simp [str]
theorem ev_toStr {src dt e : TypeId} {x : Operand} {v : Value} {l : List UInt8} (hs : P.underlying src = some (.slice e)) (he : P.underlying e = some (.int .u8)) (hd : P.underlying dt = some .string)
    (h : Sl vb w v l) (hx : ev R x = v) : Ev P ⟨dst, .convert src dt x, ty, pos, af, gd⟩ R w (str l) := by
  simp [Ev, execOp, hx, run_toStr hs he hd h]
theorem loop_bytes (bs : ByteArray) : ∀ (k i : Nat) (r : List UInt8), bs.size - i = k → ByteArray.toList.loop bs i r = r.reverse ++ bs.data.toList.drop i := by
  intro k
  induction k with
  | zero =>
    intro i r hk
    rw [ByteArray.toList.loop, if_neg (by omega)]
    rw [List.drop_eq_nil_of_le (by simp only [Array.length_toList]; exact Nat.le_of_sub_eq_zero hk)]
    simp
  | succ k ih =>
    intro i r hk
    have hlt : i < bs.size := by omega
    rw [ByteArray.toList.loop, if_pos hlt, ih (i + 1) _ (by omega)]
    have hl : i < bs.data.toList.length := by simp only [Array.length_toList]; exact hlt
    rw [List.drop_eq_getElem_cons hl]
    have : bs.get! i = bs.data.toList[i] := by
      cases bs with
      | mk d =>
        have hd : i < d.size := hlt
        simp [ByteArray.get!, getElem!_pos d i hd]
    simp [this]
theorem toList_bytes (l : List UInt8) : (⟨l.toArray⟩ : ByteArray).toList = l := by
  unfold ByteArray.toList
  rw [loop_bytes _ _ 0 [] rfl]
  simp
theorem ev_strEq {xt yt : TypeId} {x y : Operand} {a b : List UInt8} (hx : ev R x = str a) (hy : ev R y = str b) : Ev P ⟨dst, .binOp .eql xt x y yt, ty, pos, af, gd⟩ R w (.bool (decide (a = b))) := by
  simp only [Ev, execOp, hx, hy, str]
  simp [eqGuard, binOp, Op.stringOp, toList_bytes]
  by_cases h : a = b <;> simp [h]
theorem ev_strNe {xt yt : TypeId} {x y : Operand} {a b : List UInt8} (hx : ev R x = str a) (hy : ev R y = str b) : Ev P ⟨dst, .binOp .neq xt x y yt, ty, pos, af, gd⟩ R w (.bool (decide (¬ a = b))) := by
  simp only [Ev, execOp, hx, hy, str]
  simp [eqGuard, binOp, Op.stringOp, toList_bytes]
  by_cases h : a = b <;> simp [h]
theorem ev_lenS' {t : TypeId} {x : Operand} {l : List UInt8} (ht : P.underlying t = some .string) (hx : ev R x = str l) :
    Ev P ⟨dst, .call ⟨.builtin .len, #[x], #[t]⟩, ty, pos, af, gd⟩ R w (.int .i64 l.length) := by
  have := ev_lenStr (P := P) (dst := dst) (ty := ty) (pos := pos) (af := af) (gd := gd) (w := w) ht hx
  simpa [ByteArray.size] using this
def Blk (w : World) (g : Nat) (cs : List Value) (T : TypeId) : Prop := w.heap[g]? = some (.cells cs.toArray T (0, 0))
theorem Blk.mod {M : Nat → Prop} {w' : World} {g : Nat} {cs : List Value} {T : TypeId} (h : Blk w g cs T) (hm : Mod M w w') (hM : ¬ M g) : Blk w' g cs T := hm.heap h hM
theorem Blk.ext {w' : World} {g : Nat} {cs : List Value} {T : TypeId} (h : Blk w g cs T) (hm : Ext w w') : Blk w' g cs T := hm.heap h (fun e => e)
theorem Blk.lt {g : Nat} {cs : List Value} {T : TypeId} (h : Blk w g cs T) : g < w.heap.size := (Array.getElem?_eq_some_iff.1 h).1
theorem Blk.cell {g : Nat} {cs : List Value} {T : TypeId} (h : Blk w g cs T) (j : Nat) : w.cell? ⟨g, j, none⟩ = cs[j]? := by rw [cell_of_row w g j _ T (0, 0) h]; simp
theorem Blk.free {g : Nat} {cs : List Value} {T : TypeId} (h : Blk w g cs T) (j : Nat) : w.frozen? ⟨g, j, none⟩ = false := frozen_of_row w g j _ T h
theorem Blk.new (w : World) (cs : Array Value) (T : TypeId) : Blk (w.alloc (.cells cs T)) w.heap.size cs.toList T := by unfold Blk; rw [heap_alloc_new]
theorem at0 (g j : Nat) : (⟨g, 0, none⟩ : Addr).add j = ⟨g, j, none⟩ := by unfold Addr.add; split <;> simp_all
theorem atAdd (g i j : Nat) : (⟨g, i, none⟩ : Addr).add j = ⟨g, i + j, none⟩ := by unfold Addr.add; split <;> simp_all
theorem op_alloc {t : TypeId} {z : Value} {cs : List Value} (hz : (P.info? t).map (·.zero) = some (some z)) (hc : z.cells = cs.toArray)
    (h : ∀ w', Blk w' w.heap.size cs t → Ext w w' → w'.heap.size = w.heap.size + 1 → K (.pointer (some ⟨w.heap.size, 0, none⟩)) w') : OpR P ⟨dst, .alloc t, ty, pos, af, gd⟩ R w K := by
  have hz' : (zeroValue t).run P w = .ok z w := by
    cases hq : P.info? t with
    | none => simp [hq] at hz
    | some i =>
      have : i.zero = some z := by simpa [hq] using hz
      simp [zeroValue, typeInfo, hq, this]
  refine OpR.value (v := .pointer (some ⟨w.heap.size, 0, none⟩)) (w' := w.alloc (.cells z.cells t)) ?_ (h _ ?_ (Ext.alloc _ _) (by simp))
  · simp [execOp, Instr.alloc, hz', newVar, newRow]
  · have := Blk.new w z.cells t
    rwa [hc] at this ⊢
theorem op_box {t : TypeId} {x : Operand} {v : Value} {cs : List Value} (hx : ev R x = v) (hc : v.cells = cs.toArray)
    (h : ∀ w', Blk w' w.heap.size cs t → Ext w w' → w'.heap.size = w.heap.size + 1 → K (.pointer (some ⟨w.heap.size, 0, none⟩)) w') : OpR P ⟨dst, .box t x, ty, pos, af, gd⟩ R w K := by
  refine OpR.value (v := .pointer (some ⟨w.heap.size, 0, none⟩)) (w' := w.alloc (.cells v.cells t)) ?_ (h _ ?_ (Ext.alloc _ _) (by simp))
  · simp [execOp, hx, Instr.box, newVar, newRow]
  · have := Blk.new w v.cells t
    rwa [hc] at this ⊢
theorem Blk.set {g : Nat} {cs : List Value} {T : TypeId} (h : Blk w g cs T) (j : Nat) (v : Value) : Blk (w.setCell ⟨g, j, none⟩ v) g (cs.set j v) T := by
  unfold Blk at *
  rw [heap_setCell_same w g j _ T v h]
  simp
theorem op_storeB {t : TypeId} {x y : Operand} {g j : Nat} {v : Value} {cs : List Value} {T : TypeId} (hsz : (P.info? t).map (·.size) = some 1)
    (hx : ev R x = .pointer (some ⟨g, j, none⟩)) (hy : ev R y = v) (hv : v.cells = #[v]) (h1 : v.oneCell' = true) (hb : Blk w g cs T) (hj : j < cs.length)
    (h : ∀ w', Blk w' g (cs.set j v) T → Mod (fun k => k = g) w w' → w'.heap.size = w.heap.size → K undef w') : OpR P ⟨dst, .store t x y, ty, pos, af, gd⟩ R w K :=
  op_store hsz hx hy hv h1 (u := cs[j]) (by rw [hb.cell, List.getElem?_eq_getElem hj]) (hb.free j) (h _ (hb.set j v) (Mod.setCell (p := ⟨g, j, none⟩) v) (by simp))
theorem op_storeAll {t : TypeId} {x y : Operand} {g : Nat} {v : Value} {cs vs : List Value} {T : TypeId} (hsz : (P.info? t).map (·.size) = some vs.length)
    (hx : ev R x = .pointer (some ⟨g, 0, none⟩)) (hy : ev R y = v) (hv : v.cells = vs.toArray) (h1 : ∀ u ∈ vs, u.oneCell' = true) (hb : Blk w g cs T) (hl : vs.length = cs.length)
    (h : ∀ w', Blk w' g vs T → Mod (fun k => k = g) w w' → w'.heap.size = w.heap.size → K undef w') : OpR P ⟨dst, .store t x y, ty, pos, af, gd⟩ R w K := by
  have hst : (storeCells ⟨g, 0, none⟩ vs).run P w = .ok () (w.setRow g vs.toArray) := by
    have := run_storeCells_from (P := P) g T vs 0 cs.toArray w hb (by simp [hl]) h1
    simpa using this
  refine OpR.unit (w' := w.setRow g vs.toArray) ?_ (h _ (setRow_heap w g _ _ T _ hb) ⟨rfl, rfl, rfl, by simp, fun k hk hM => setRow_other w g k _ hM⟩ (by simp))
  simp [execOp, hx, hy, Instr.storeAt, Instr.sureAddr, storeVar, hv, size_of (w := w) hsz, hst]
theorem ev_loadAll {t : TypeId} {x : Operand} {g : Nat} {cs : List Value} {T : TypeId} {d : TypeDesc} (hu : P.underlying t = some d) (hd : (match d with | .struct _ | .array _ _ => true | _ => false) = true)
    (hsz : (P.info? t).map (·.size) = some cs.length) (hx : ev R x = .pointer (some ⟨g, 0, none⟩)) (hb : Blk w g cs T) : Ev P ⟨dst, .load t x, ty, pos, af, gd⟩ R w (.agg cs.toArray) := by
  have := run_loadVar_row (P := P) w g T t cs.toArray (0, 0) d hb hu hd (by simpa using hsz)
  simp [Ev, execOp, hx, Instr.loadAt, Instr.sureAddr, this]
theorem ev_loadB {t : TypeId} {x : Operand} {g j : Nat} {v : Value} {cs : List Value} {T : TypeId} {d : TypeDesc} (ht : P.underlying t = some d) (hd : (match d with | .struct _ | .array _ _ => false | _ => true) = true)
    (hx : ev R x = .pointer (some ⟨g, j, none⟩)) (hb : Blk w g cs T) (hj : cs[j]? = some v) : Ev P ⟨dst, .load t x, ty, pos, af, gd⟩ R w v := ev_load ht hd hx (by rw [hb.cell, hj])
theorem ev_indexArr {t e : TypeId} {x i : Operand} {g len : Nat} {k : IntKind} {m : Int} (ht : P.underlying t = some (.array len e)) (hsz : (P.info? e).map (·.size) = some 1)
    (hx : ev R x = .pointer (some ⟨g, 0, none⟩)) (hi : ev R i = .int k m) (h0 : 0 ≤ m) (h1 : m < len) : Ev P ⟨dst, .indexAddr t x i, ty, pos, af, gd⟩ R w (.pointer (some ⟨g, m.toNat, none⟩)) := by
  have hr : (0 ≤ m ∧ m < (len : Int)) := ⟨h0, h1⟩
  simp [Ev, execOp, hx, hi, Instr.indexAt, Instr.sureAddr, asIntOf, run_underlying ht, hr, size_of (w := w) hsz, at0]
theorem ev_fieldAddr {t : TypeId} {x : Operand} {g j f : Nat} {fs : Array Field} {fd : Field} (ht : P.underlying t = some (.struct fs)) (hf : fs[f]? = some fd) {s : Nat} (hsz : (P.info? fd.type).map (·.size) = some s) (hs : s ≠ 0)
    (hx : ev R x = .pointer (some ⟨g, j, none⟩)) : Ev P ⟨dst, .fieldAddr t x f, ty, pos, af, gd⟩ R w (.pointer (some ⟨g, j + fd.offset, none⟩)) := by
  simp [Ev, execOp, hx, Instr.fieldAt, Instr.sureAddr, run_underlying ht, hf, fieldPlace, size_of (w := w) hsz, hs, atAdd]
theorem op_lit {t e : TypeId} {len : Nat} {parts : Array (Nat × Operand)} {xs : List Operand} {l : List α} (ht : P.underlying t = some (.slice e)) (hsz : (P.info? e).map (·.size) = some 1)
    (hz : ((P.info? e).bind (·.zero)).isSome = true) (hparts : parts.toList = (xs.zipIdx 0).map fun x => (x.2, x.1)) (hv : xs.map (ev R) = l.map enc) (hc : ∀ a, (enc a).cells = #[enc a])
    (hlen : len = l.length) (hpos : 0 < len) (hsmall : len ≤ 2 ^ 24)
    (h : ∀ w', Own enc e w' w.heap.size (.slice (some ⟨w.heap.size, 0, none⟩) len len) l → Blk w' w.heap.size (l.map enc) e → Ext w w' → w'.heap.size = w.heap.size + 1 → K (.slice (some ⟨w.heap.size, 0, none⟩) len len) w') :
    OpR P ⟨dst, .buildSlice t len parts, ty, pos, af, gd⟩ R w K := by
  cases hie : P.info? e with
  | none => simp [hie] at hsz
  | some ie =>
    simp only [hie, Option.map_some, Option.some.injEq, Option.bind_some] at hsz hz
    obtain ⟨z, hzz⟩ := Option.isSome_iff_exists.1 hz
    have hpe : (parts.map fun (i, x) => (i, ev R x)).toList = ((l.map enc).zipIdx 0).map fun x => (x.2, x.1) := by
      rw [Array.toList_map, hparts, ← hv, List.zipIdx_map, List.map_map, List.map_map]
      rfl
    have hf : Instr.fill (fun i => some (i * ie.size, ie.size)) ((Array.range (len * ie.size)).map (z.cells[· % z.cells.size]!)) (parts.map fun (i, x) => (i, ev R x)).toList = some (l.map enc).toArray := by
      rw [hpe, hsz]
      exact Great.fill_flat _ _ (fun v hv => by obtain ⟨a, _, rfl⟩ := List.mem_map.1 hv; exact hc a) (by simp [hlen])
    have hrun := run_buildSlice (P := P) w t e len (parts.map fun (i, x) => (i, ev R x)) _ ie z ht hie hzz (by rw [hsz]; omega) (by rw [hsz]; omega) hf
    refine OpR.value (v := .slice (some ⟨w.heap.size, 0, none⟩) len len) (w' := w.alloc (.cells (l.map enc).toArray e)) ?_ (h _ ?_ ?_ (Ext.alloc _ _) (by simp))
    · simp [execOp, hrun]
    · unfold Own
      subst hlen
      refine ⟨by simp, .inr ⟨w.heap.size, l.length, (l.map enc).toArray, rfl, Nat.le_refl _, ?_, Nat.le_refl _, by unfold maxLen; omega, by simp, ?_⟩⟩
      · rw [heap_alloc_new]
      · rw [List.take_of_length_le (by simp)]
    · have := Blk.new w (l.map enc).toArray e
      simpa using this
theorem freeze_cell (w : World) (b : Addr) (m : Nat) (a : Addr) : (w.freeze b m).cell? a = w.cell? a := by
  unfold World.freeze
  by_cases hm : m = 0
  · rw [if_pos hm]
  · rw [if_neg hm]
    simp only [World.cell?, Array.getElem?_modify]
    by_cases h2 : b.block = a.block
    · rw [if_pos h2]
      cases hq : w.heap[a.block]? with
      | none => simp
      | some o => cases o <;> simp
    · rw [if_neg h2]
theorem freeze_mod (w : World) (b : Addr) (m : Nat) : Mod (fun k => k = b.block) w (w.freeze b m) := by
  unfold World.freeze
  by_cases hm : m = 0
  · rw [if_pos hm]; exact Mod.refl _ _
  · rw [if_neg hm]
    refine ⟨rfl, rfl, rfl, by simp, fun k hk hM => ?_⟩
    simp only [Array.getElem?_modify]; rw [if_neg (fun e => hM e.symm)]
theorem freeze_size (w : World) (b : Addr) (m : Nat) : (w.freeze b m).heap.size = w.heap.size := by unfold World.freeze; split <;> simp
theorem op_convSame {t e : TypeId} {x : Operand} {v : Value} {l : List α} (ht : P.underlying t = some (.slice e)) (he : P.underlying e = some (.int .u8)) (hs : Sl enc w v l) (hx : ev R x = v) {ad : Addr} {m c : Nat} (hv : v = .slice (some ad) m c)
    (h : ∀ w', Sl enc w' v l → Mod (fun k => v.ownBlock = some k) w w' → w'.heap.size = w.heap.size → K v w') : OpR P ⟨dst, .convert t t x, ty, pos, af, gd⟩ R w K := by
  have key : ∃ w', (markStringish ad).run P w = .ok () w' ∧ (∀ a, w'.cell? a = w.cell? a) ∧ Mod (fun k => k = ad.block) w w' ∧ w'.heap.size = w.heap.size := by
    unfold markStringish
    cases hq : w.shape? ad.block with
    | none => exact ⟨w, by simp [shape, Sem.run, hq], fun _ => rfl, Mod.refl _ _, rfl⟩
    | some p =>
      obtain ⟨e', k⟩ := p
      exact ⟨w.freeze ⟨ad.block, k, none⟩ 1, by simp [shape, freeze, Sem.run, hq], freeze_cell _ _ _, freeze_mod w ⟨ad.block, k, none⟩ 1, freeze_size _ _ _⟩
  obtain ⟨w', hrun, hcell, hmod, hsz⟩ := key
  subst hv
  refine OpR.value (v := .slice (some ad) m c) (w' := w') ?_ (h w' ?_ (hmod.mono fun i _ e => by simp [Value.ownBlock, e]) hsz)
  · simp [execOp, hx, convert, run_underlying ht, run_underlying he, hrun]
  · obtain ⟨A, c', he', h1, h2, hc⟩ := hs
    cases he'
    exact ⟨_, _, rfl, h1, h2, fun j v hv => by obtain ⟨ad', ha, hc'⟩ := hc j v hv; exact ⟨ad', ha, by rw [hcell]; exact hc'⟩⟩
end
end Go.Rl
set_option linter.unusedVariables false
namespace Go.Rl
open Go.ChangeShapes Go.WideShapes
section
variable {H : Type} {enc : TypeId × Value → H} {P : Program} {W : World} {base : Nat} {held : Bool} {t e : TypeId} {d : DataW H} {ps : List MemPlace} {ts : List TypeId} {ds : List (DataW H)} {j : Nat} {v : Value}
theorem wf_u8 {a : Int} (h : (Lit.int .u8 a).wf = true) : 0 ≤ a ∧ a < 256 := by simp [Lit.wf, IntKind.min, IntKind.max, IntKind.bits, IntKind.signed] at h; omega
theorem wf_i64 {a : Int} (h : (Lit.int .i64 a).wf = true) : -9223372036854775808 ≤ a ∧ a ≤ 9223372036854775807 := by simp [Lit.wf, IntKind.min, IntKind.max, IntKind.bits, IntKind.signed] at h; omega
end
end Go.Rl
set_option linter.unusedVariables false
set_option linter.unusedSimpArgs false
namespace Go.Rl
open Go.RowKit
section
variable {P : Program} {n : Nat} {Q : Post} {R : Nat → Value} {w : World} {K : Value → World → Prop} {dst : Option Tmp} {ty : TypeId} {pos : String} {af : Array Edge} {gd : Option (Nat × Bool)}
variable {α : Type} {enc : α → Value}
theorem ev_min {x y : Operand} {k : IntKind} {a b : Int} {ats : Array TypeId} (hx : ev R x = .int k a) (hy : ev R y = .int k b) : Ev P ⟨dst, .call ⟨.builtin .min, #[x, y], ats⟩, ty, pos, af, gd⟩ R w (.int k (min a b)) := by
  have h : (if b < a then b else a) = min a b := by omega
  simp [Ev, execOp, resolve, invoke, builtin, Builtin.min_, Builtin.min2, hx, hy, h]
theorem ev_max {x y : Operand} {k : IntKind} {a b : Int} {ats : Array TypeId} (hx : ev R x = .int k a) (hy : ev R y = .int k b) : Ev P ⟨dst, .call ⟨.builtin .max, #[x, y], ats⟩, ty, pos, af, gd⟩ R w (.int k (max a b)) := by
  have h : (if a < b then b else a) = max a b := by omega
  simp [Ev, execOp, resolve, invoke, builtin, Builtin.max_, Builtin.max2, hx, hy, h]
theorem madeCells_list (z : Value) (m : Nat) : (madeCells #[z] m) = (List.replicate m z).toArray := by
  have := toList_madeCells_one z m
  rw [← this]
theorem op_make {t e : TypeId} {x : Operand} {z : α} {bytes : Nat} {k : IntKind} {m : Int} (ht : P.underlying t = some (.slice e)) (hinfo : (P.info? e).map (fun i => (i.zero, i.size, i.bytes)) = some (some (enc z), 1, bytes)) (hz : (enc z).cells = #[enc z])
    (hx : ev R x = .int k m) (h0 : 0 ≤ m) (hbytes : bytes * m.toNat ≤ 281474976710656) (h63 : m ≤ 9223372036854775807)
    (h : ∀ w', Own enc e w' w.heap.size (.slice (some ⟨w.heap.size, 0, none⟩) m.toNat m.toNat) (List.replicate m.toNat z) → Blk w' w.heap.size (List.replicate m.toNat (enc z)) e → Ext w w' → w'.heap.size = w.heap.size + 1 → K (.slice (some ⟨w.heap.size, 0, none⟩) m.toNat m.toNat) w') :
    OpR P ⟨dst, .makeSlice t x x, ty, pos, af, gd⟩ R w K := by
  obtain ⟨j, rfl⟩ : ∃ j : Nat, m = j := ⟨m.toNat, by omega⟩
  rw [Int.toNat_natCast] at *
  have hrun := run_make_row' (P := P) t e (enc z) bytes ht hinfo hz k k j hbytes (by omega) w
  rw [madeCells_list] at hrun
  refine OpR.value (v := .slice (some ⟨w.heap.size, 0, none⟩) j j) (w' := w.alloc (.cells (List.replicate j (enc z)).toArray e)) ?_ (h _ ?_ ?_ (Ext.alloc _ _) (by simp))
  · simp [execOp, hx, hrun]
  · unfold Own
    refine ⟨by simp, .inr ⟨w.heap.size, j, (List.replicate j (enc z)).toArray, by simp, Nat.le_refl _, ?_, by simp, by unfold maxLen; omega, by simp, ?_⟩⟩
    · rw [heap_alloc_new]
    · rw [List.take_of_length_le (by simp)]; simp
  · have := Blk.new w (List.replicate j (enc z)).toArray e
    simpa using this
theorem op_appendStr {t tu e : TypeId} {s x : Operand} {v : Value} {l m : List UInt8} {base : Nat} (ht : P.underlying t = some (.slice e)) (htu : P.underlying tu = some .string)
    (hinfo : (P.info? e).map (fun i => (i.zero, i.size, i.bytes)) = some (some (.int .u8 0), 1, 1)) (hs : Own vb e w base v l) (hx : ev R s = v) (hy : ev R x = str m)
    (hlen : l.length + m.length ≤ 140737488355328) (hbase : base ≤ w.heap.size)
    (h : ∀ v' w', Own vb e w' base v' (l ++ m) → Mod (fun k => v.ownBlock = some k) w w' → K v' w') :
    OpR P ⟨dst, .call ⟨.builtin .append, #[s, x], #[t, tu]⟩, ty, pos, af, gd⟩ R w K := by
  have hinf : ∃ i, P.info? e = some i ∧ i.zero = some (.int .u8 0) ∧ i.size = 1 ∧ i.bytes = 1 := by
    cases hq : P.info? e with
    | none => simp [hq] at hinfo
    | some i => simp [hq] at hinfo; exact ⟨i, rfl, hinfo⟩
  obtain ⟨i, hi, hi1, hi2, hi3⟩ := hinf
  have hsz : (⟨m.toArray⟩ : ByteArray).size = m.length := by simp [ByteArray.size]
  obtain ⟨v', w', hrun, hown, hgrow, _⟩ := Lib.run_append_own_string (P := P) (w := w) base t tu ty e i ht htu hi hi1 hi2 hi3 v l.length (l.map vb) hs ⟨m.toArray⟩ (by unfold maxLen; omega) (by omega) hbase
  have hcells : Lib.strCells ⟨m.toArray⟩ = m.map vb := by simp [Lib.strCells, vb]
  refine OpR.value (v := v') (w' := w') ?_ (h v' w' ?_ (Mod.of_grown hgrow))
  · simp only [execOp, resolve, invoke, builtin, List.map_toArray, List.map_cons, List.map_nil, hx, hy, str]
    simp [hrun]
  · unfold Own
    rw [hsz, hcells] at hown
    simpa using hown
theorem ev_nilCheck {x : Operand} {a : Addr} (hx : ev R x = .pointer (some a)) : Ev P ⟨dst, .nilCheck x, ty, pos, af, gd⟩ R w (.pointer (some a)) := by simp [Ev, execOp, hx]
theorem run_eqNil {t e : TypeId} {p : Option Addr} (ht : P.underlying t = some (.pointer e)) : (Op.equal t (.pointer p) (.pointer none)).run P w = .ok (decide (p = none)) w := by
  show (Op.equalIn (9999 + 1) t (.pointer p) (.pointer none)).run P w = _
  generalize 9999 = d
  cases p <;> simp [Op.equalIn, run_underlying ht]
theorem ev_isNil {xt yt e : TypeId} {x y : Operand} {p : Option Addr} (ht : P.underlying xt = some (.pointer e)) (hx : ev R x = .pointer p) (hy : ev R y = .pointer none) :
    Ev P ⟨dst, .binOp .eql xt x y yt, ty, pos, af, gd⟩ R w (.bool (decide (p = none))) := by
  have h := run_eqNil (w := w) (p := p) ht
  simp only [Ev, execOp, hx, hy, eqGuard, binOp]
  simp [h]
theorem op_callv1 {f : FuncId} {fn : Func} {ats : Array TypeId} {x fv : Operand} {v1 : Value} {first captured : Array Value} (hf : P.funcs[f]? = some fn) (hn : (fn.name == "runtime.NumGoroutine") = false) (hb : fn.body.isSome = true)
    (hfv : ev R fv = .func (.func f) first captured) (hx : ev R x = v1) (h : Gives P f (first ++ #[v1] ++ captured) w K) : OpR P ⟨dst, .call ⟨.value fv, #[x], ats⟩, ty, pos, af, gd⟩ R w K :=
  OpR.enter (f := f) (args := first ++ #[v1] ++ captured) (w' := w) (by
    subst hx
    have := run_callFunc (P := P) (w := w) (first ++ #[ev R x] ++ captured) hf hn hb
    simp only [execOp, resolve, hfv, Deferred.ofValue, List.map_toArray, List.map_cons, List.map_nil, Sem.run_bind, Sem.run_pure, Result.andThen_ok, invoke]
    exact this) h
theorem op_callf1 {f : FuncId} {fn : Func} {ats : Array TypeId} {x fv : Operand} {v1 : Value} (hf : P.funcs[f]? = some fn) (hn : (fn.name == "runtime.NumGoroutine") = false) (hb : fn.body.isSome = true)
    (hfv : ev R fv = .func (.func f) #[] #[]) (hx : ev R x = v1) (h : Gives P f #[v1] w K) : OpR P ⟨dst, .call ⟨.value fv, #[x], ats⟩, ty, pos, af, gd⟩ R w K := op_callv1 hf hn hb hfv hx h
theorem ev_build {t : TypeId} {parts : Array (Nat × Operand)} {ps : List (Nat × Value)} {z : Value} {fs : Array Field} {places : Array (Nat × Nat)} {cs : List Value} (ht : P.underlying t = some (.struct fs)) (hz : (P.info? t).map (·.zero) = some (some z))
    (hpl : ∀ w, (fs.mapM fun (f : Field) => do pure (f.offset, ← sizeOf f.type)).run P w = .ok places w) {pl : List (Nat × Operand)} (hp : parts.toList = pl) (hps : (pl.map fun (i, x) => (i, ev R x)) = ps) (hf : Instr.fill (places[·]?) z.cells ps = some cs.toArray) :
    Ev P ⟨dst, .build t parts, ty, pos, af, gd⟩ R w (.agg cs.toArray) := by
  have hz' : (zeroValue t).run P w = .ok z w := by
    cases hq : P.info? t with
    | none => simp [hq] at hz
    | some i =>
      have : i.zero = some z := by simpa [hq] using hz
      simp [zeroValue, typeInfo, hq, this]
  have hps' : (parts.map fun (i, x) => (i, ev R x)).toList = ps := by rw [Array.toList_map, hp, hps]
  simp only [Ev, execOp, Instr.build, Sem.run_bind, hz', Result.andThen_ok, run_underlying ht, hpl, hps', hf, Sem.run_pure]
theorem ev_cutMax {t e : TypeId} {x hi : Operand} {v : Value} {l : List α} {k : IntKind} {b : Int} (ht : P.underlying t = some (.slice e)) (hsz : (P.info? e).map (·.size) = some 1)
    (hs : Sl enc w v l) (hx : ev R x = v) (hhi : ev R hi = .int k b) {mx : Operand} (hmx : ev R mx = .int k b) (h1 : 0 ≤ b) (h2 : b ≤ l.length) :
    Ev P ⟨dst, .slice t x none (some hi) (some mx), ty, pos, af, gd⟩ R w (match v with | .slice A _ _ => .slice (if b.toNat = 0 then A else A.map (·.add (0 * 1))) b.toNat b.toNat | v => v) := by
  obtain ⟨A, c, rfl, hlc, hm, hc⟩ := hs
  have hb1 : 0 ≤ b ∧ b ≤ (c : Int) := ⟨by omega, by omega⟩
  have hb2 : 0 ≤ b ∧ b ≤ max b 0 := ⟨by omega, by omega⟩
  simp [Ev, execOp, hx, hhi, hmx, Instr.sliceAt, Instr.slice, run_underlying ht, Instr.sliceBounds, Instr.sliceBound, asIntOf, hb1, hb2, size_of (w := w) hsz]
def capV (v : Value) (hi : Nat) : Value := match v with
  | .slice A _ _ => .slice A hi hi
  | v => v
theorem ev_cap {t e : TypeId} {x hi : Operand} {v : Value} {l : List α} {k : IntKind} {b : Int} (ht : P.underlying t = some (.slice e)) (hsz : (P.info? e).map (·.size) = some 1)
    (hs : Sl enc w v l) (hx : ev R x = v) (hhi : ev R hi = .int k b) {mx : Operand} (hmx : ev R mx = .int k b) (h1 : 0 ≤ b) (h2 : b ≤ l.length) :
    Ev P ⟨dst, .slice t x none (some hi) (some mx), ty, pos, af, gd⟩ R w (capV v b.toNat) := by
  have h := ev_cutMax (dst := dst) (ty := ty) (pos := pos) (af := af) (gd := gd) ht hsz hs hx hhi hmx h1 h2
  obtain ⟨A, c, rfl, hlc, hm, hc⟩ := hs
  have e0 : (if b.toNat = 0 then A else A.map (·.add (0 * 1))) = A := by
    split
    · rfl
    · cases A <;> rfl
  simp only [e0] at h
  exact h
theorem Sl.capV {v : Value} {hi : Nat} {l : List α} (h : Sl enc w v l) (hhi : hi ≤ l.length) : Sl enc w (capV v hi) (l.take hi) := by
  obtain ⟨A, c, rfl, h1, h2, hc⟩ := h
  have hlen : (l.take hi).length = hi := by simp; omega
  refine ⟨A, hi, by rw [hlen]; rfl, by omega, by omega, ?_⟩
  have := hc.take hi
  simpa [List.map_take] using this
theorem capV_block {v : Value} {l : List α} (h : Sl enc w v l) (hi : Nat) : (Rl.capV v hi).ownBlock = v.ownBlock := by
  obtain ⟨A, c, rfl, _⟩ := h
  cases A <;> rfl
end
theorem yielded_undef {n : Nat} {R : Nat → Value} {ops : Array Oper} {a : Act} (ha : AtR n R a) {j d : Nat} (hj : (ops[j]?).bind (·.dst) = some d) (hdn : d < n) (hb : R d = undef) : yielded ops a.tmps j = none := by
  have h1 : a.tmps[d]? = some undef := by
    have := ha.regs d
    have hl : d < a.tmps.size := by rw [ha.size]; exact hdn
    simp [hl] at this
    simp [hl, this, hb]
  simp [yielded, hj, h1, undef]
theorem RL.offU {P : Program} {n : Nat} {Q : Post} {R : Nat → Value} {w : World} {ops : Array Oper} {o : Oper} {rest : List Oper} {j : Nat} {want : Bool} {d : Nat} (hg : o.guard = some (j, want)) (hj : (ops[j]?).bind (·.dst) = some d) (hdn : d < n)
    (hb : R d = undef) (hd : dstOk n o.dst = true) (h : RL P n ops Q rest (updO R o.dst undef) w) :
    RL P n ops Q (o :: rest) R w := fun a ha => by
  refine wpList_step fun K hK => ?_
  rw [if_neg (by simp [Region.wanted, hg, yielded_undef ha hj hdn hb])]
  exact hK _ _ (h _ (ha.put hd undef))
end Go.Rl
set_option linter.unusedVariables false
set_option linter.unusedSimpArgs false
namespace Go.Rl
open Go.RowKit
section
variable {P : Program} {n : Nat} {Q : Post} {R : Nat → Value} {w : World} {K : Value → World → Prop} {dst : Option Tmp} {ty : TypeId} {pos : String} {af : Array Edge} {gd : Option (Nat × Bool)}
variable {α : Type} {enc : α → Value}
theorem run_cell {ty : TypeId} {g : Nat} {t : TypeId} {cs : List Value} {d : TypeDesc} (hb : Blk w g cs t) (hu : P.underlying ty = some d)
    (hd : (match d with | .struct _ | .array _ _ => true | _ => false) = true) (hi : (P.info? ty).map (·.size) = some cs.length) : (loadVar ty ⟨g, 0, none⟩).run P w = .ok (.agg cs.toArray) w :=
  run_loadVar_row (P := P) w g t ty cs.toArray (0, 0) d hb hu hd (by simpa using hi)
theorem RV.cellTmp {fn : Func} {p u : Tmp} {ty : TypeId} (h : fn.results = #[.cell p ty, .tmp u]) {g : Nat} {v : Value}
    (hp : R p = .pointer (some ⟨g, 0, none⟩)) (hc : (loadVar ty ⟨g, 0, none⟩).run P w = .ok v w) : RV P fn n R w (.tuple #[v, R u]) := fun a ha => by
  have h1 := ha.regs p; have h2 := ha.regs u
  rw [hp] at h1
  rw [Array.getD_eq_getD_getElem?] at h1 h2
  simp [results, h, h1, h2, hc, asAddr]
theorem ev_makeFunc {f : FuncId} {captured : Array Operand} {vs : Array Value} (h : captured.map (ev R) = vs) : Ev P ⟨dst, .makeFunc (.func f) #[] captured, ty, pos, af, gd⟩ R w (.func (.func f) #[] vs) := by
  subst h
  simp [Ev, execOp, Instr.makeFunc]
abbrev Hd := Option Addr × Nat × Nat
abbrev vh (h : Hd) : Value := .slice h.1 h.2.1 h.2.2
theorem vh_one (h : Hd) : (vh h).oneCell' = true := rfl
theorem Sl.hd {v : Value} {l : List α} (h : Sl enc w v l) : ∃ a : Hd, v = vh a := by obtain ⟨A, c, rfl, _⟩ := h; exact ⟨(A, l.length, c), rfl⟩
theorem Sl.cells1 {v : Value} {l : List α} (h : Sl enc w v l) : v.cells = #[v] := by obtain ⟨A, c, rfl, _⟩ := h; rfl
theorem Sl.one1 {v : Value} {l : List α} (h : Sl enc w v l) : v.oneCell' = true := by obtain ⟨A, c, rfl, _⟩ := h; rfl
def SlB (enc : α → Value) (b : Nat) (w : World) (v : Value) (l : List α) : Prop := Sl enc w v l ∧ (l ≠ [] → ∀ k, v.ownBlock = some k → k < b)
theorem SlB.sl {b : Nat} {v : Value} {l : List α} (h : SlB enc b w v l) : Sl enc w v l := h.1
theorem SlB.nil (enc : α → Value) (b : Nat) (w : World) : SlB enc b w (.slice none 0 0) [] := ⟨Sl.nil _ _, fun h => absurd rfl h⟩
theorem SlB.lift {b b' : Nat} {v : Value} {l : List α} (h : SlB enc b w v l) (hb : b ≤ b') : SlB enc b' w v l := ⟨h.1, fun hl k hk => Nat.lt_of_lt_of_le (h.2 hl k hk) hb⟩
theorem Sl.mod0 {M : Nat → Prop} {w w' : World} {v : Value} {l : List α} (h : Sl enc w v l) (hm : Mod M w w') (hb : l ≠ [] → ∀ k, v.ownBlock = some k → ¬ M k) : Sl enc w' v l := by
  by_cases hl : l = []
  · subst hl
    obtain ⟨A, c, h1, h2, h3, h4⟩ := h
    exact ⟨A, c, h1, h2, h3, Cells.nil _ _⟩
  · exact h.mod hm (hb hl)
theorem SlB.mod {M : Nat → Prop} {w w' : World} {b : Nat} {v : Value} {l : List α} (h : SlB enc b w v l) (hm : Mod M w w') (hb : ∀ k, k < b → ¬ M k) : SlB enc b w' v l :=
  ⟨h.1.mod0 hm fun hl k hk => hb k (h.2 hl k hk), h.2⟩
theorem SlB.ext {w w' : World} {b : Nat} {v : Value} {l : List α} (h : SlB enc b w v l) (hm : Ext w w') : SlB enc b w' v l := h.mod hm (fun _ _ e => e)
theorem SlB.cutFrom {b : Nat} {v : Value} {lo : Nat} {l : List α} (h : SlB enc b w v l) (hlo : lo ≤ l.length) : SlB enc b w (cutV v lo l.length) (l.drop lo) :=
  ⟨h.1.cutFrom hlo, fun hl k hk => h.2 (fun e => hl (by rw [e]; simp)) k (by rw [cutV_block h.1] at hk; exact hk)⟩
theorem SlB.cutTo {b : Nat} {v : Value} {hi : Nat} {l : List α} (h : SlB enc b w v l) (hhi : hi ≤ l.length) : SlB enc b w (cutV v 0 hi) (l.take hi) :=
  ⟨h.1.cutTo hhi, fun hl k hk => h.2 (fun e => hl (by rw [e]; simp)) k (by rw [cutV_block h.1] at hk; exact hk)⟩
end
end Go.Rl
set_option linter.unusedVariables false
set_option linter.unusedSimpArgs false
namespace Go.Rl
open Go.RowKit
structure Atom where
  foot : Nat → Prop
  says : World → Prop
  keep : ∀ {w w' : World}, (∀ k, foot k → k < w.heap.size → w'.heap[k]? = w.heap[k]?) → says w → says w'
structure Now (w0 : World) (F : Nat → Prop) (w : World) (L : List Atom) : Prop where
  mod : Mod F w0 w
  says : ∀ (i : Nat) a, L[i]? = some a → a.says w
  low : ∀ (i : Nat) a, L[i]? = some a → ∀ k, a.foot k → (F k ∨ w0.heap.size ≤ k) ∧ k < w.heap.size
  sep : ∀ (i j : Nat) a b, i ≠ j → L[i]? = some a → L[j]? = some b → ∀ k, a.foot k → ¬ b.foot k
abbrev none_ : Nat → Prop := fun _ => False
section
variable {w0 w w' : World} {F : Nat → Prop} {L M : List Atom} {a a' b : Atom}
theorem Now.nil (w : World) (F : Nat → Prop) : Now w F w [] := ⟨Mod.refl _ _, by simp, by simp, by simp⟩
theorem Now.one (h : a.says w) (hl : ∀ k, a.foot k → k < w.heap.size) : Now w a.foot w [a] := by
  refine ⟨Mod.refl _ _, ?_, ?_, ?_⟩
  · intro i b hb
    cases i with
    | zero => cases hb; exact h
    | succ i => simp at hb
  · intro i b hb
    cases i with
    | zero => cases hb; exact fun k hk => ⟨.inl hk, hl k hk⟩
    | succ i => simp at hb
  · intro i j b c hij hb hc
    cases i with
    | zero => cases j with
      | zero => exact absurd rfl hij
      | succ j => simp at hc
    | succ i => simp at hb
theorem Now.ext0 (h : Now w0 none_ w L) : Ext w0 w := h.mod
theorem Now.size (h : Now w0 F w L) : w0.heap.size ≤ w.heap.size := h.mod.size
theorem Now.step {G : Nat → Prop} (h : Now w0 F w L) (hm : Mod G w w') (hF : ∀ k, k < w.heap.size → G k → F k ∨ w0.heap.size ≤ k) (hG : ∀ (i : Nat) a, L[i]? = some a → ∀ k, a.foot k → ¬ G k) : Now w0 F w' L :=
  ⟨⟨hm.os.trans h.mod.os, hm.tape.trans h.mod.tape, hm.output.trans h.mod.output, Nat.le_trans h.mod.size hm.size, fun k hk hM =>
      (hm.block k (Nat.lt_of_lt_of_le hk h.mod.size) fun e => (hF k (Nat.lt_of_lt_of_le hk h.mod.size) e).elim hM (fun h => absurd hk (Nat.not_lt.2 h))).trans (h.mod.block k hk hM)⟩,
    fun i a ha => a.keep (fun k hk hlt => hm.block k hlt (hG i a ha k hk)) (h.says i a ha),
    fun i a ha k hk => ⟨(h.low i a ha k hk).1, Nat.lt_of_lt_of_le (h.low i a ha k hk).2 hm.size⟩, h.sep⟩
theorem Now.ext (h : Now w0 F w L) (he : Ext w w') : Now w0 F w' L := h.step he (fun _ _ e => e.elim) (fun _ _ _ _ _ e => e)
theorem Now.add (h : Now w0 F w L) (hs : a.says w) (hf : ∀ k, a.foot k → w0.heap.size ≤ k ∧ k < w.heap.size) (hd : ∀ (i : Nat) b, L[i]? = some b → ∀ k, b.foot k → ¬ a.foot k) : Now w0 F w (a :: L) := by
  refine ⟨h.mod, ?_, ?_, ?_⟩
  · intro i b hb
    cases i with
    | zero => cases hb; exact hs
    | succ i => exact h.says i b (by simpa using hb)
  · intro i b hb
    cases i with
    | zero => cases hb; exact fun k hk => ⟨.inr (hf k hk).1, (hf k hk).2⟩
    | succ i => exact h.low i b (by simpa using hb)
  · intro i j b c hij hb hc
    cases i with
    | zero =>
      cases hb
      cases j with
      | zero => exact absurd rfl hij
      | succ j => exact fun k hk hk' => hd j c (by simpa using hc) k hk' hk
    | succ i =>
      cases j with
      | zero => cases hc; exact hd i b (by simpa using hb)
      | succ j => exact h.sep i j b c (by omega) (by simpa using hb) (by simpa using hc)
theorem Now.push (h : Now w0 F w L) (he : Ext w w') (hs : a.says w') (hf : ∀ k, a.foot k → w.heap.size ≤ k ∧ k < w'.heap.size) : Now w0 F w' (a :: L) :=
  (h.ext he).add hs (fun k hk => ⟨Nat.le_trans h.size (hf k hk).1, (hf k hk).2⟩) (fun i b hb k hk hk' => by
    have := (h.low i b hb k hk).2
    have := (hf k hk').1
    omega)
theorem Now.upd (h : Now w0 F w L) (i : Nat) (hi : L[i]? = some a) (hm : Mod a.foot w w') (hs : a'.says w') (hf : ∀ k, a'.foot k → (a.foot k ∨ w.heap.size ≤ k) ∧ k < w'.heap.size) : Now w0 F w' (L.set i a') := by
  have hlt : i < L.length := (List.getElem?_eq_some_iff.1 hi).1
  have old : ∀ j c, j ≠ i → L[j]? = some c → ∀ k, c.foot k → ¬ a.foot k := fun j c hj hc k hk hk' => h.sep j i c a hj hc hi k hk hk'
  have get : ∀ j c, (L.set i a')[j]? = some c → (j = i ∧ c = a') ∨ (j ≠ i ∧ L[j]? = some c) := by
    intro j c hc
    rw [List.getElem?_set] at hc
    by_cases hj : i = j
    · subst hj
      rw [if_pos rfl, if_pos hlt] at hc
      exact .inl ⟨rfl, (Option.some.inj hc).symm⟩
    · rw [if_neg hj] at hc
      exact .inr ⟨fun e => hj e.symm, hc⟩
  have up : ∀ k, a.foot k → F k ∨ w0.heap.size ≤ k := fun k hk => (h.low i a hi k hk).1
  refine ⟨⟨hm.os.trans h.mod.os, hm.tape.trans h.mod.tape, hm.output.trans h.mod.output, Nat.le_trans h.mod.size hm.size, fun k hk hM =>
      (hm.block k (Nat.lt_of_lt_of_le hk h.mod.size) fun e => (up k e).elim hM (fun h => absurd hk (Nat.not_lt.2 h))).trans (h.mod.block k hk hM)⟩, ?_, ?_, ?_⟩
  · intro j c hc
    rcases get j c hc with ⟨_, rfl⟩ | ⟨hj, hc⟩
    · exact hs
    · exact c.keep (fun k hk hlt => hm.block k hlt (old j c hj hc k hk)) (h.says j c hc)
  · intro j c hc k hk
    rcases get j c hc with ⟨_, rfl⟩ | ⟨hj, hc⟩
    · exact ⟨(hf k hk).1.elim (up k) (fun e => .inr (Nat.le_trans h.size e)), (hf k hk).2⟩
    · exact ⟨(h.low j c hc k hk).1, Nat.lt_of_lt_of_le (h.low j c hc k hk).2 hm.size⟩
  · intro j j' c c' hjj hc hc' k hk hk'
    rcases get j c hc with ⟨rfl, rfl⟩ | ⟨hj, hc⟩ <;> rcases get j' c' hc' with ⟨rfl, rfl⟩ | ⟨hj', hc'⟩
    · exact hjj rfl
    · rcases (hf k hk).1 with e | e
      · exact old j' c' hj' hc' k hk' e
      · exact absurd (h.low j' c' hc' k hk').2 (Nat.not_lt.2 e)
    · rename_i hc0
      rcases (hf k hk').1 with e | e
      · exact old j c hj hc0 k hk e
      · exact absurd (h.low j c hc0 k hk).2 (Nat.not_lt.2 e)
    · exact h.sep j j' c c' hjj (by assumption) hc' k hk hk'
theorem Now.sub (h : Now w0 F w L) (p : List Nat) (hp : p.Nodup) (hM : M.map some = p.map (fun i => L[i]?)) : Now w0 F w M := by
  have get : ∀ (j : Nat) c, M[j]? = some c → ∃ i, p[j]? = some i ∧ L[i]? = some c := by
    intro j c hc
    have h1 : (M.map some)[j]? = some (some c) := by rw [List.getElem?_map, hc]; rfl
    rw [hM, List.getElem?_map] at h1
    cases hq : p[j]? with
    | none => rw [hq] at h1; cases h1
    | some i => rw [hq] at h1; exact ⟨i, rfl, Option.some.inj h1⟩
  refine ⟨h.mod, ?_, ?_, ?_⟩
  · intro j c hc
    obtain ⟨i, _, hi⟩ := get j c hc
    exact h.says i c hi
  · intro j c hc
    obtain ⟨i, _, hi⟩ := get j c hc
    exact h.low i c hi
  · intro j j' c c' hjj hc hc'
    obtain ⟨i, hj, hi⟩ := get j c hc
    obtain ⟨i', hj', hi'⟩ := get j' c' hc'
    refine h.sep i i' c c' ?_ hi hi'
    rintro rfl
    obtain ⟨hl, e⟩ := List.getElem?_eq_some_iff.1 hj
    obtain ⟨hl', e'⟩ := List.getElem?_eq_some_iff.1 hj'
    exact hjj ((List.getElem_inj hp).1 (e.trans e'.symm))
theorem Now.call0 (h : Now w0 F w L) (hc : Now w none_ w' M) : Now w0 F w' (M ++ L) := by
  have he := h.ext hc.mod
  have get : ∀ (j : Nat) c, (M ++ L)[j]? = some c → (j < M.length ∧ M[j]? = some c) ∨ (M.length ≤ j ∧ L[j - M.length]? = some c) := by
    intro j c hj
    rcases Nat.lt_or_ge j M.length with h | h
    · rw [List.getElem?_append_left h] at hj; exact .inl ⟨h, hj⟩
    · rw [List.getElem?_append_right h] at hj; exact .inr ⟨h, hj⟩
  have new : ∀ (j : Nat) c, M[j]? = some c → ∀ k, c.foot k → w.heap.size ≤ k ∧ k < w'.heap.size := fun j c hj k hk => ⟨(hc.low j c hj k hk).1.elim (fun e => e.elim) id, (hc.low j c hj k hk).2⟩
  refine ⟨he.mod, ?_, ?_, ?_⟩
  · intro j c hj
    rcases get j c hj with ⟨_, e⟩ | ⟨_, e⟩
    · exact hc.says _ c e
    · exact he.says _ c e
  · intro j c hj k hk
    rcases get j c hj with ⟨_, e⟩ | ⟨_, e⟩
    · exact ⟨.inr (Nat.le_trans h.size (new _ c e k hk).1), (new _ c e k hk).2⟩
    · exact he.low _ c e k hk
  · intro i j c d hij hi hj k hk hk'
    rcases get i c hi with ⟨l1, e1⟩ | ⟨l1, e1⟩ <;> rcases get j d hj with ⟨l2, e2⟩ | ⟨l2, e2⟩
    · exact hc.sep i j c d hij e1 e2 k hk hk'
    · have := (new _ c e1 k hk).1; have := (h.low _ d e2 k hk').2; omega
    · have := (new _ d e2 k hk').1; have := (h.low _ c e1 k hk).2; omega
    · exact he.sep (i - M.length) (j - M.length) c d (by omega) e1 e2 k hk hk'
end
section
variable {α : Type} {enc : α → Value} {w0 w w' : World} {F : Nat → Prop} {L M : List Atom}
def Atom.own (enc : α → Value) (E : TypeId) (v : Value) (l : List α) : Atom where
  foot k := v.ownBlock = some k
  says w := Own enc E w 0 v l
  keep := by
    intro w w' h hs
    unfold Own World.ownsRow at *
    refine ⟨hs.1, hs.2.imp id ?_⟩
    rintro ⟨g, cap, cur, rfl, hb', hh, hr⟩
    exact ⟨g, cap, cur, rfl, hb', (h g rfl (Array.getElem?_eq_some_iff.1 hh).1).trans hh, hr⟩
def Atom.blk (g : Nat) (cs : List Value) (T : TypeId) : Atom where
  foot k := k = g
  says w := Blk w g cs T
  keep := by
    intro w w' h hs
    unfold Blk at *
    exact (h g rfl (Array.getElem?_eq_some_iff.1 hs).1).trans hs
def Atom.fam (enc : α → Value) (hs : List Hd) (ls : List (List α)) : Atom where
  foot k := ∃ h ∈ hs, (vh h).ownBlock = some k
  says w := hs.length = ls.length ∧ ∀ (i : Nat) h l, hs[i]? = some h → ls[i]? = some l → Sl enc w (vh h) l ∧ ∀ k, (vh h).ownBlock = some k → k < w.heap.size
  keep := by
    intro w w' hb ⟨h1, h2⟩
    refine ⟨h1, fun i h l hi hl => ?_⟩
    have h3 := h2 i h l hi hl
    obtain ⟨⟨A, c, he, g1, g2, hc⟩, hlt⟩ := h3
    have key : ∀ k, (vh h).ownBlock = some k → w'.heap[k]? = w.heap[k]? := fun k hk => hb k ⟨h, List.mem_of_getElem? hi, hk⟩ (hlt k hk)
    refine ⟨⟨A, c, he, g1, g2, fun j v hv => ?_⟩, fun k hk => ?_⟩
    · obtain ⟨ad, e, hcell⟩ := hc j v hv
      refine ⟨ad, e, ?_⟩
      rw [World.cell?_of_block (key _ (by rw [he, e, block_add]; rfl)), hcell]
    · have e := key k hk
      have hl := hlt k hk
      rw [Array.getElem?_eq_getElem hl] at e
      exact (Array.getElem?_eq_some_iff.1 e).1
theorem Now.own (h : Now w0 F w L) (i : Nat) {E : TypeId} {v : Value} {l : List α} (hi : L[i]? = some (.own enc E v l)) : Own enc E w 0 v l := h.says i _ hi
theorem Now.sl (h : Now w0 F w L) (i : Nat) {E : TypeId} {v : Value} {l : List α} (hi : L[i]? = some (.own enc E v l)) : Sl enc w v l := (h.own i hi).sl
theorem Now.blk (h : Now w0 F w L) (i : Nat) {g : Nat} {cs : List Value} {T : TypeId} (hi : L[i]? = some (.blk g cs T)) : Blk w g cs T := h.says i _ hi
theorem Own.lift {E : TypeId} {v : Value} {l : List α} {base base' : Nat} (h : Own enc E w base v l) (hb : ∀ k, v.ownBlock = some k → base' ≤ k) : Own enc E w base' v l := by
  unfold Own World.ownsRow at *
  refine ⟨h.1, h.2.imp id ?_⟩
  rintro ⟨g, cap, cur, rfl, _, hr⟩
  exact ⟨g, cap, cur, rfl, hb g rfl, hr⟩
theorem Now.ownOut (h : Now w0 none_ w L) (i : Nat) {E : TypeId} {v : Value} {l : List α} (hi : L[i]? = some (.own enc E v l)) : Own enc E w w0.heap.size v l :=
  (h.own i hi).lift fun k hk => (h.low i _ hi k hk).1.elim (fun e => e.elim) id
theorem Now.addNil (h : Now w0 F w L) (enc : α → Value) (E : TypeId) : Now w0 F w (.own enc E (.slice none 0 0) [] :: L) :=
  h.add (Own.nil _ _ _ _) (fun k hk => by cases hk) (fun _ _ _ _ _ hk => by cases hk)
theorem Now.pushOwn (h : Now w0 F w L) {E : TypeId} {v : Value} {l : List α} (ho : Own enc E w' w.heap.size v l) (he : Ext w w') : Now w0 F w' (.own enc E v l :: L) :=
  h.push he (ho.lower (Nat.zero_le _)) (fun k hk => ho.lt k hk)
theorem Now.pushBlk (h : Now w0 F w L) {g : Nat} {cs : List Value} {T : TypeId} (hb : Blk w' g cs T) (he : Ext w w') (hg : w.heap.size ≤ g) : Now w0 F w' (.blk g cs T :: L) :=
  h.push he hb (fun k hk => by cases hk; exact ⟨hg, hb.lt⟩)
end
section
variable {P : Program} {n : Nat} {Q : Post} {R : Nat → Value} {w0 w : World} {F : Nat → Prop} {L : List Atom} {K : Value → World → Prop} {dst : Option Tmp} {ty : TypeId} {pos : String} {af : Array Edge} {gd : Option (Nat × Bool)}
variable {α : Type} {enc : α → Value}
theorem opN_append {t e : TypeId} {s x : Operand} {v u : Value} {l m : List α} {z : Value} {bytes : Nat} (ht : P.underlying t = some (.slice e))
    (hinfo : (P.info? e).map (fun i => (i.zero, i.size, i.bytes)) = some (some z, 1, bytes)) (hz : z.cells.size = 1) (h1 : ∀ a, (enc a).oneCell' = true)
    (hN : Now w0 F w L) (i : Nat) (hi : L[i]? = some (.own enc e v l)) (hx : ev R s = v) (hu : Sl enc w u m) (hy : ev R x = u) (hlen : (l.length + m.length) * bytes ≤ 140737488355328) (hbytes : 0 < bytes)
    (h : ∀ v' w', Now w0 F w' (L.set i (.own enc e v' (l ++ m))) → K v' w') :
    OpR P ⟨dst, .call ⟨.builtin .append, #[s, x], #[t, t]⟩, ty, pos, af, gd⟩ R w K :=
  op_append ht hinfo hz h1 (hN.own i hi) hx hu hy hlen hbytes (Nat.zero_le _) fun v' w' ho hm hk => h v' w' <| hN.upd i hi hm ho fun k hk' => by
    have hlt := (ho.lt k hk').2
    refine ⟨?_, hlt⟩
    rcases hk with e | e
    · exact .inl (e.symm.trans hk')
    · exact .inr (Nat.le_of_eq (Option.some.inj (e.symm.trans hk')))
theorem opN_make {t e : TypeId} {x : Operand} {z : α} {bytes : Nat} {k : IntKind} {m : Int} (ht : P.underlying t = some (.slice e)) (hinfo : (P.info? e).map (fun i => (i.zero, i.size, i.bytes)) = some (some (enc z), 1, bytes)) (hz : (enc z).cells = #[enc z])
    (hN : Now w0 F w L) (hx : ev R x = .int k m) (h0 : 0 ≤ m) (hbytes : bytes * m.toNat ≤ 281474976710656) (h63 : m ≤ 9223372036854775807)
    (h : ∀ v w', Now w0 F w' (.own enc e v (List.replicate m.toNat z) :: L) → K v w') :
    OpR P ⟨dst, .makeSlice t x x, ty, pos, af, gd⟩ R w K :=
  op_make ht hinfo hz hx h0 hbytes h63 fun w' ho _ he _ => h _ w' (hN.pushOwn ho he)
theorem opN_lit {t e : TypeId} {len : Nat} {parts : Array (Nat × Operand)} {xs : List Operand} {l : List α} (ht : P.underlying t = some (.slice e)) (hsz : (P.info? e).map (·.size) = some 1)
    (hz : ((P.info? e).bind (·.zero)).isSome = true) (hparts : parts.toList = (xs.zipIdx 0).map fun x => (x.2, x.1)) (hv : xs.map (ev R) = l.map enc) (hc : ∀ a, (enc a).cells = #[enc a])
    (hlen : len = l.length) (hpos : 0 < len) (hsmall : len ≤ 2 ^ 24) (hN : Now w0 F w L)
    (h : ∀ g w', Now w0 F w' (.own enc e (.slice (some ⟨g, 0, none⟩) len len) l :: L) → K (.slice (some ⟨g, 0, none⟩) len len) w') :
    OpR P ⟨dst, .buildSlice t len parts, ty, pos, af, gd⟩ R w K :=
  op_lit ht hsz hz hparts hv hc hlen hpos hsmall fun w' ho _ he _ => h _ w' (hN.pushOwn ho he)
theorem opN_alloc {t : TypeId} {z : Value} {cs : List Value} (hz : (P.info? t).map (·.zero) = some (some z)) (hc : z.cells = cs.toArray) (hN : Now w0 F w L)
    (h : ∀ g w', Now w0 F w' (.blk g cs t :: L) → K (.pointer (some ⟨g, 0, none⟩)) w') : OpR P ⟨dst, .alloc t, ty, pos, af, gd⟩ R w K :=
  op_alloc hz hc fun w' hb he _ => h _ w' (hN.pushBlk hb he (Nat.le_refl _))
theorem opN_box {t : TypeId} {x : Operand} {v : Value} {cs : List Value} (hx : ev R x = v) (hc : v.cells = cs.toArray) (hN : Now w0 F w L)
    (h : ∀ g w', Now w0 F w' (.blk g cs t :: L) → K (.pointer (some ⟨g, 0, none⟩)) w') : OpR P ⟨dst, .box t x, ty, pos, af, gd⟩ R w K :=
  op_box hx hc fun w' hb he _ => h _ w' (hN.pushBlk hb he (Nat.le_refl _))
theorem opN_store {t : TypeId} {x y : Operand} {g j : Nat} {v : Value} {cs : List Value} {T : TypeId} (hsz : (P.info? t).map (·.size) = some 1)
    (hx : ev R x = .pointer (some ⟨g, j, none⟩)) (hy : ev R y = v) (hv : v.cells = #[v]) (h1 : v.oneCell' = true) (hN : Now w0 F w L) (i : Nat) (hi : L[i]? = some (.blk g cs T)) (hj : j < cs.length)
    (h : ∀ w', Now w0 F w' (L.set i (.blk g (cs.set j v) T)) → K undef w') : OpR P ⟨dst, .store t x y, ty, pos, af, gd⟩ R w K :=
  op_storeB hsz hx hy hv h1 (hN.blk i hi) hj fun w' hb hm hs => h w' (hN.upd i hi hm hb fun k hk => ⟨.inl hk, by cases hk; exact hb.lt⟩)
theorem opN_storeAll {t : TypeId} {x y : Operand} {g : Nat} {v : Value} {cs vs : List Value} {T : TypeId} (hsz : (P.info? t).map (·.size) = some vs.length)
    (hx : ev R x = .pointer (some ⟨g, 0, none⟩)) (hy : ev R y = v) (hv : v.cells = vs.toArray) (h1 : ∀ u ∈ vs, u.oneCell' = true) (hN : Now w0 F w L) (i : Nat) (hi : L[i]? = some (.blk g cs T)) (hl : vs.length = cs.length)
    (h : ∀ w', Now w0 F w' (L.set i (.blk g vs T)) → K undef w') : OpR P ⟨dst, .store t x y, ty, pos, af, gd⟩ R w K :=
  op_storeAll hsz hx hy hv h1 (hN.blk i hi) hl fun w' hb hm hs => h w' (hN.upd i hi hm hb fun k hk => ⟨.inl hk, by cases hk; exact hb.lt⟩)
theorem opN_storeOwn {t : TypeId} {x y : Operand} {E : TypeId} {v u : Value} {l : List α} {a : α} {m : Nat} (hsz : (P.info? t).map (·.size) = some 1)
    (hN : Now w0 F w L) (i : Nat) (hi : L[i]? = some (.own enc E v l)) (hx : ev R x = elemAddr v m) (hm : m < l.length) (hy : ev R y = u) (hu : u = enc a) (hc : (enc a).cells = #[enc a]) (h1 : (enc a).oneCell' = true)
    (h : ∀ w', Now w0 F w' (L.set i (.own enc E v (l.set m a))) → K undef w') : OpR P ⟨dst, .store t x y, ty, pos, af, gd⟩ R w K :=
  op_storeOwn hsz (hN.own i hi) hx hm hy hu hc h1 fun w' ho hmm hs => h w' (hN.upd i hi hmm ho fun k hk => ⟨.inl hk, (ho.lt k hk).2⟩)
end
theorem Now.pick {w0 w : World} {F : Nat → Prop} {L : List Atom} {a : Atom} (h : Now w0 F w L) (i : Nat) (hi : L[i]? = some a) : Now w a.foot w [a] :=
  Now.one (h.says i a hi) fun k hk => (h.low i a hi k hk).2
def Off (F : Nat → Prop) {α : Type} (v : Value) (l : List α) : Prop := l ≠ [] → ∀ k, v.ownBlock = some k → ¬ F k
theorem Off.none {α : Type} (v : Value) (l : List α) : Off none_ v l := fun _ _ _ h => h
theorem Sl.off {α : Type} {enc : α → Value} {M : Nat → Prop} {w w' : World} {v : Value} {l : List α} (h : Sl enc w v l) (ho : Off M v l) (hm : Mod M w w') : Sl enc w' v l := h.mod0 hm ho
end Go.Rl
set_option linter.unusedVariables false
set_option linter.unusedSimpArgs false
namespace Go.Rl
open Go.RowKit
theorem wr_i64 {a : Int} (h0 : -9223372036854775808 ≤ a) (h1 : a ≤ 9223372036854775807) : IntKind.i64.wrap a = a := wrap_i64 h0 h1
section
variable {P : Program} {n : Nat} {Q : Post} {R : Nat → Value} {w0 w : World} {F : Nat → Prop} {L : List Atom} {K : Value → World → Prop} {dst : Option Tmp} {ty : TypeId} {pos : String} {af : Array Edge} {gd : Option (Nat × Bool)}
variable {α : Type} {enc : α → Value}
theorem ev_notP {xt : TypeId} {x : Operand} {p : Prop} [Decidable p] (hx : ev R x = .bool (decide p)) : Ev P ⟨dst, .unOp .not xt x, ty, pos, af, gd⟩ R w (.bool (decide (¬ p))) := by
  have h := ev_not (P := P) (w := w) (dst := dst) (ty := ty) (pos := pos) (af := af) (gd := gd) (xt := xt) hx
  rwa [← decide_not] at h
theorem Now.relist (h : Now w0 F w L) (i : Nat) {E : TypeId} {v : Value} {l l' : List α} (hi : L[i]? = some (.own enc E v l)) (e : l = l') : Now w0 F w (L.set i (.own enc E v l')) := by
  subst e
  have : L.set i (.own enc E v l) = L := by
    apply List.ext_getElem?
    intro j
    rw [List.getElem?_set]
    split
    · subst j; split
      · exact hi.symm
      · rename_i h1; rw [List.getElem?_eq_none (by omega)]
    · rfl
  rw [this]; exact h
theorem ev_loadSub {t : TypeId} {x : Operand} {g j m : Nat} {cs : List Value} {T : TypeId} {d : TypeDesc} (hu : P.underlying t = some d) (hd : d.isRow = true)
    (hsz : (P.info? t).map (·.size) = some m) (hx : ev R x = .pointer (some ⟨g, j, none⟩)) (hb : Blk w g cs T) (hj : j + m ≤ cs.length) : Ev P ⟨dst, .load t x, ty, pos, af, gd⟩ R w (.agg ((cs.drop j).take m).toArray) := by
  have hl : ((cs.drop j).take m).length = m := by simp; omega
  have := run_loadVar_mid (P := P) w g j t ((cs.drop j).take m) d (fun i v hi => by
    rw [hb.cell]
    rw [List.getElem?_take] at hi
    split at hi
    · rwa [List.getElem?_drop] at hi
    · cases hi) hu hd (by rw [hl]; exact hsz)
  simp [Ev, execOp, hx, Instr.loadAt, Instr.sureAddr, this]
theorem opN_storeSub {t : TypeId} {x y : Operand} {g j : Nat} {v : Value} {cs vs : List Value} {T : TypeId} (hsz : (P.info? t).map (·.size) = some vs.length)
    (hx : ev R x = .pointer (some ⟨g, j, none⟩)) (hy : ev R y = v) (hv : v.cells = vs.toArray) (h1 : ∀ u ∈ vs, u.oneCell' = true) (hN : Now w0 F w L) (i : Nat) (hi : L[i]? = some (.blk g cs T)) (hl : j + vs.length ≤ cs.length)
    (h : ∀ w', Now w0 F w' (L.set i (.blk g (cs.take j ++ vs ++ cs.drop (j + vs.length)) T)) → K undef w') : OpR P ⟨dst, .store t x y, ty, pos, af, gd⟩ R w K := by
  have hb := hN.blk i hi
  have hst : (storeCells ⟨g, j, none⟩ vs).run P w = .ok () (w.setRow g (cs.take j ++ vs ++ cs.drop (j + vs.length)).toArray) := by
    have := run_storeCells_at (P := P) g j T vs 0 cs.toArray w hb (by simpa using hl) h1
    simpa using this
  have hb' : Blk (w.setRow g (cs.take j ++ vs ++ cs.drop (j + vs.length)).toArray) g (cs.take j ++ vs ++ cs.drop (j + vs.length)) T := setRow_heap w g _ _ T _ hb
  refine OpR.unit (w' := w.setRow g (cs.take j ++ vs ++ cs.drop (j + vs.length)).toArray) ?_ (h _ (hN.upd i hi ⟨rfl, rfl, rfl, by simp, fun k hk hM => setRow_other w g k _ hM⟩ hb' fun k hk => ⟨.inl hk, by cases hk; exact hb'.lt⟩))
  simp [execOp, hx, hy, Instr.storeAt, Instr.sureAddr, storeVar, hv, size_of (w := w) hsz, hst]
theorem ev_makeFuncL {f : FuncId} {captured : Array Operand} {xs : List Operand} {vs : List Value} (hx : captured = xs.toArray) (h : xs.map (ev R) = vs) : Ev P ⟨dst, .makeFunc (.func f) #[] captured, ty, pos, af, gd⟩ R w (.func (.func f) #[] vs.toArray) := by
  subst hx h
  exact ev_makeFunc (by simp)
theorem Own.relist {E : TypeId} {base : Nat} {v : Value} {l l' : List α} (h : Own enc E w base v l) (e : l = l') : Own enc E w base v l' := e ▸ h
theorem op_callw1 {f : FuncId} {fn : Func} {ats : Array TypeId} {fv : Operand} {x0 : Operand} {v0 : Value} {first captured args : Array Value} (hf : P.funcs[f]? = some fn) (hn : (fn.name == "runtime.NumGoroutine") = false) (hb : fn.body.isSome = true)
    (hargs : first ++ #[v0] ++ captured = args) (hfv : ev R fv = .func (.func f) first captured) (hx0 : ev R x0 = v0) (h : Gives P f args w K) : OpR P ⟨dst, .call ⟨.value fv, #[x0], ats⟩, ty, pos, af, gd⟩ R w K :=
  OpR.enter (f := f) (args := args) (w' := w) (by
    subst hx0 hargs
    have := run_callFunc (P := P) (w := w) (first ++ #[ev R x0] ++ captured) hf hn hb
    simp only [execOp, resolve, hfv, Deferred.ofValue, List.map_toArray, List.map_cons, List.map_nil, Sem.run_bind, Sem.run_pure, Result.andThen_ok, invoke]
    exact this) h
theorem op_callw2 {f : FuncId} {fn : Func} {ats : Array TypeId} {fv : Operand} {x0 x1 : Operand} {v0 v1 : Value} {first captured args : Array Value} (hf : P.funcs[f]? = some fn) (hn : (fn.name == "runtime.NumGoroutine") = false) (hb : fn.body.isSome = true)
    (hargs : first ++ #[v0, v1] ++ captured = args) (hfv : ev R fv = .func (.func f) first captured) (hx0 : ev R x0 = v0) (hx1 : ev R x1 = v1) (h : Gives P f args w K) : OpR P ⟨dst, .call ⟨.value fv, #[x0, x1], ats⟩, ty, pos, af, gd⟩ R w K :=
  OpR.enter (f := f) (args := args) (w' := w) (by
    subst hx0 hx1 hargs
    have := run_callFunc (P := P) (w := w) (first ++ #[ev R x0, ev R x1] ++ captured) hf hn hb
    simp only [execOp, resolve, hfv, Deferred.ofValue, List.map_toArray, List.map_cons, List.map_nil, Sem.run_bind, Sem.run_pure, Result.andThen_ok, invoke]
    exact this) h
theorem fold_put (off : Nat) : ∀ (vs : List Value) (k : Nat) (cells : List Value), off + k + vs.length ≤ cells.length →
    (vs.zipIdx k).foldl (fun (cs : Array Value) (x : Value × Nat) => cs.setIfInBounds (off + x.2) x.1) cells.toArray = (cells.take (off + k) ++ vs ++ cells.drop (off + k + vs.length)).toArray := by
  intro vs
  induction vs with
  | nil => intro k cells h; simp
  | cons v vs ih =>
    intro k cells h
    simp only [List.length_cons] at h
    simp only [List.zipIdx_cons, List.foldl_cons, List.setIfInBounds_toArray]
    rw [ih (k + 1) (cells.set (off + k) v) (by simp; omega)]
    have hk : off + k < cells.length := by omega
    congr 1
    rw [List.set_eq_take_append_cons_drop, if_pos hk]
    have h1 : (cells.take (off + k)).length = off + k := by simp; omega
    have e1 : (cells.take (off + k) ++ v :: cells.drop (off + k + 1)).take (off + (k + 1)) = cells.take (off + k) ++ [v] := by
      rw [List.take_append, List.take_of_length_le (by omega), h1]
      congr 1
      rw [show off + (k + 1) - (off + k) = 1 by omega]; simp
    have e2 : (cells.take (off + k) ++ v :: cells.drop (off + k + 1)).drop (off + (k + 1) + vs.length) = cells.drop (off + k + (vs.length + 1)) := by
      rw [List.drop_append, List.drop_eq_nil_of_le (by omega), h1]
      rw [show off + (k + 1) + vs.length - (off + k) = vs.length + 1 by omega]
      simp only [List.nil_append, List.drop_succ_cons, List.drop_drop]
      congr 1; omega
    rw [e1, e2]
    simp
theorem fill_step {place : Nat → Option (Nat × Nat)} {cells : List Value} {i off : Nat} {v : Value} {vs : List Value} {rest : List (Nat × Value)} {r : Option (Array Value)} (hc : v.cells = vs.toArray) (hp : place i = some (off, vs.length)) (hl : off + vs.length ≤ cells.length)
    (h : Instr.fill place (cells.take off ++ vs ++ cells.drop (off + vs.length)).toArray rest = r) : Instr.fill place cells.toArray ((i, v) :: rest) = r := by
  rw [Instr.fill]
  simp only [hp, hc]
  have hf := fold_put off vs 0 cells hl
  simp only [Nat.add_zero] at hf
  have h2 : ¬ (cells.length < off + vs.length) := by omega
  simp only [List.size_toArray, ne_eq, not_true_eq_false, decide_false, Bool.false_or, gt_iff_lt, decide_eq_true_eq, if_neg h2]
  have hz : vs.toArray.zipIdx = (vs.zipIdx 0).toArray := by apply Array.ext'; simp
  rw [hz, List.foldl_toArray, hf]; exact h
theorem ev_buildL {t : TypeId} {parts : Array (Nat × Operand)} {ps : List (Nat × Value)} {z : Value} {fs : Array Field} {places : Array (Nat × Nat)} {zc cs : List Value} (ht : P.underlying t = some (.struct fs)) (hz : (P.info? t).map (·.zero) = some (some z))
    (hpl : ∀ w, (fs.mapM fun (f : Field) => do pure (f.offset, ← sizeOf f.type)).run P w = .ok places w) {pl : List (Nat × Operand)} (hp : parts.toList = pl) (hps : (pl.map fun (i, x) => (i, ev R x)) = ps) (hzc : z.cells = zc.toArray) (hf : Instr.fill (places[·]?) zc.toArray ps = some cs.toArray) :
    Ev P ⟨dst, .build t parts, ty, pos, af, gd⟩ R w (.agg cs.toArray) := ev_build ht hz hpl hp hps (by rw [hzc]; exact hf)
def scopeQ (Q : Post) : Post := fun e R w => match e with
  | .goto _ => False
  | e => Q e R w
theorem RW.scope {c : Code} (h : RW P n c (scopeQ Q) R w) : RW P n (.scope c) Q R w := fun a ha => by
  refine wp_scope_straight (wp_mono (h a ha) ?_)
  rintro e a' w' ⟨R', hR, hQ⟩
  cases e with
  | goto l => exact hQ.elim
  | _ => exact ⟨R', hR, hQ⟩
theorem scopeR (h : Q .ret R w) : scopeQ Q .ret R w := h
theorem NoP.scope (h : NoP Q) : NoP (scopeQ Q) := h
theorem RW.label {l : Nat} (h : Q .normal R w) : RW P n (.label l) Q R w := fun _ ha => wp_label ⟨R, ha, h⟩
end
def foots (M : List Atom) : Nat → Prop := fun k => ∃ a ∈ M, a.foot k
section
variable {w0 w w' : World} {F : Nat → Prop} {L M N : List Atom} {a : Atom} {α : Type} {enc : α → Value}
theorem Now.pickL (h : Now w0 F w L) (p : List Nat) (hp : p.Nodup) (hM : M.map some = p.map (fun i => L[i]?)) : Now w (foots M) w M := by
  have hs := h.sub p hp hM
  exact ⟨Mod.refl _ _, hs.says, fun i a ha k hk => ⟨.inl ⟨a, List.mem_of_getElem? ha, hk⟩, (hs.low i a ha k hk).2⟩, hs.sep⟩
theorem Now.callA {M' : List Atom} (h : Now w0 F w (M ++ N)) (hc : Now w (foots M) w' M') : Now w0 F w' (M' ++ N) := by
  have getN : ∀ (j : Nat) c, N[j]? = some c → (M ++ N)[M.length + j]? = some c := fun j c hj => by rw [List.getElem?_append_right (by omega)]; simpa using hj
  have split : ∀ (j : Nat) c, (M' ++ N)[j]? = some c → (j < M'.length ∧ M'[j]? = some c) ∨ (M'.length ≤ j ∧ N[j - M'.length]? = some c) := by
    intro j c hj
    rcases Nat.lt_or_ge j M'.length with h | h
    · rw [List.getElem?_append_left h] at hj; exact .inl ⟨h, hj⟩
    · rw [List.getElem?_append_right h] at hj; exact .inr ⟨h, hj⟩
  have footM : ∀ k, foots M k → ∃ (i : Nat) (b : Atom), i < M.length ∧ (M ++ N)[i]? = some b ∧ b.foot k := by
    rintro k ⟨b, hb, hk⟩
    obtain ⟨i, hi⟩ := List.mem_iff_getElem?.1 hb
    have hl := (List.getElem?_eq_some_iff.1 hi).1
    exact ⟨i, b, hl, by rw [List.getElem?_append_left hl]; exact hi, hk⟩
  have lowM : ∀ k, foots M k → (F k ∨ w0.heap.size ≤ k) := fun k hk => by
    obtain ⟨i, b, _, hi, hb⟩ := footM k hk
    exact (h.low i b hi k hb).1
  have off : ∀ (j : Nat) c, N[j]? = some c → ∀ k, c.foot k → ¬ foots M k := fun j c hj k hk hm => by
    obtain ⟨i, b, hl, hi, hb⟩ := footM k hm
    exact h.sep i (M.length + j) b c (by omega) hi (getN j c hj) k hb hk
  have part : ∀ (i : Nat) c, M'[i]? = some c → ∀ (j : Nat) d, N[j]? = some d → ∀ k, c.foot k → ¬ d.foot k := fun i c hi j d hj k hk hk' => by
    rcases (hc.low i c hi k hk).1 with e | e
    · exact off j d hj k hk' e
    · have := (h.low _ d (getN j d hj) k hk').2; omega
  refine ⟨⟨hc.mod.os.trans h.mod.os, hc.mod.tape.trans h.mod.tape, hc.mod.output.trans h.mod.output, Nat.le_trans h.mod.size hc.mod.size, fun k hk hM =>
      (hc.mod.block k (Nat.lt_of_lt_of_le hk h.mod.size) fun e => (lowM k e).elim hM (fun h => absurd hk (Nat.not_lt.2 h))).trans (h.mod.block k hk hM)⟩, ?_, ?_, ?_⟩
  · intro j c hj
    rcases split j c hj with ⟨_, e⟩ | ⟨_, e⟩
    · exact hc.says _ c e
    · exact c.keep (fun k hk hlt => hc.mod.block k hlt (off _ c e k hk)) (h.says _ c (getN _ c e))
  · intro j c hj k hk
    rcases split j c hj with ⟨_, e⟩ | ⟨_, e⟩
    · have hl := hc.low _ c e k hk
      exact ⟨hl.1.elim (lowM k) (fun e => .inr (Nat.le_trans h.size e)), hl.2⟩
    · have hl := h.low _ c (getN _ c e) k hk
      exact ⟨hl.1, Nat.lt_of_lt_of_le hl.2 hc.mod.size⟩
  · intro i j c d hij hi hj k hk hk'
    rcases split i c hi with ⟨l1, e1⟩ | ⟨l1, e1⟩ <;> rcases split j d hj with ⟨l2, e2⟩ | ⟨l2, e2⟩
    · exact hc.sep i j c d hij e1 e2 k hk hk'
    · exact part _ c e1 _ d e2 k hk hk'
    · exact part _ d e2 _ c e1 k hk' hk
    · exact h.sep (M.length + (i - M'.length)) (M.length + (j - M'.length)) c d (by omega) (getN _ c e1) (getN _ d e2) k hk hk'
def Els (F : Nat → Prop) (enc : α → Value) (w : World) (hs : List Hd) (ls : List (List α)) : Prop :=
  hs.length = ls.length ∧ ∀ (i : Nat) h l, hs[i]? = some h → ls[i]? = some l → Sl enc w (vh h) l ∧ Off F (vh h) l
theorem Els.nil (F : Nat → Prop) (enc : α → Value) (w : World) : Els F enc w [] [] := ⟨rfl, fun i h l hi => by simp at hi⟩
theorem Els.cons {h : Hd} {l : List α} {hs : List Hd} {ls : List (List α)} (h1 : Sl enc w (vh h) l) (h2 : Off F (vh h) l) (ht : Els F enc w hs ls) : Els F enc w (h :: hs) (l :: ls) := by
  refine ⟨by simp [ht.1], fun i h' l' hi hl => ?_⟩
  cases i with
  | zero => cases hi; cases hl; exact ⟨h1, h2⟩
  | succ i => exact ht.2 i h' l' (by simpa using hi) (by simpa using hl)
theorem Els.snoc {h : Hd} {l : List α} {hs : List Hd} {ls : List (List α)} (ht : Els F enc w hs ls) (h1 : Sl enc w (vh h) l) (h2 : Off F (vh h) l) : Els F enc w (hs ++ [h]) (ls ++ [l]) := by
  refine ⟨by simp [ht.1], fun i h' l' hi hl => ?_⟩
  have hq := ht.1
  rcases Nat.lt_or_ge i hs.length with hlt | hge
  · rw [List.getElem?_append_left hlt] at hi
    rw [List.getElem?_append_left (by omega)] at hl
    exact ht.2 i h' l' hi hl
  · rw [List.getElem?_append_right hge] at hi
    rw [List.getElem?_append_right (by omega)] at hl
    have h0 : i - hs.length = 0 := by
      rcases Nat.eq_zero_or_pos (i - hs.length) with e | e
      · exact e
      · rw [List.getElem?_eq_none (by simp; omega)] at hi; cases hi
    rw [← hq, h0] at hl
    rw [h0] at hi
    cases hi; cases hl
    exact ⟨h1, h2⟩
theorem Els.mod {hs : List Hd} {ls : List (List α)} (h : Els F enc w hs ls) (hm : Mod F w w') : Els F enc w' hs ls :=
  ⟨h.1, fun i h' l hi hl => ⟨(h.2 i h' l hi hl).1.off (h.2 i h' l hi hl).2 hm, (h.2 i h' l hi hl).2⟩⟩
def Sl2 (F : Nat → Prop) (enc : α → Value) (w : World) (v : Value) (ls : List (List α)) : Prop :=
  ∃ hs : List Hd, (Sl vh w v hs ∧ Off F v hs) ∧ Els F enc w hs ls
theorem Sl2.mod {v : Value} {ls : List (List α)} (h : Sl2 F enc w v ls) (hm : Mod F w w') : Sl2 F enc w' v ls := by
  obtain ⟨hs, ⟨h1, h2⟩, h3⟩ := h
  exact ⟨hs, ⟨h1.off h2 hm, h2⟩, h3.mod hm⟩
theorem Sl2.ext {v : Value} {ls : List (List α)} (h : Sl2 none_ enc w v ls) (hm : Ext w w') : Sl2 none_ enc w' v ls := h.mod hm
end
section
variable {w0 w w' : World} {F : Nat → Prop} {L M N : List Atom} {α : Type} {enc : α → Value}
theorem Now.famNil (h : Now w0 F w L) (enc : α → Value) : Now w0 F w (.fam enc [] [] :: L) :=
  h.add ⟨rfl, fun i h l hi => by simp at hi⟩ (fun k hk => by obtain ⟨h, hh, _⟩ := hk; cases hh) (fun _ _ _ _ _ hk => by obtain ⟨h, hh, _⟩ := hk; cases hh)
theorem Now.els (h : Now w0 F w L) (i : Nat) {hs : List Hd} {ls : List (List α)} (hi : L[i]? = some (.fam enc hs ls)) : Els none_ enc w hs ls := by
  have hf : (Atom.fam enc hs ls).says w := h.says i _ hi
  exact ⟨hf.1, fun q h' l hq hl => ⟨(hf.2 q h' l hq hl).1, Off.none _ _⟩⟩
theorem Els.ext {hs : List Hd} {ls : List (List α)} (h : Els none_ enc w hs ls) (he : Ext w w') : Els none_ enc w' hs ls := h.mod he
end
section
variable {P : Program} {n : Nat} {Q : Post} {R : Nat → Value} {w0 w w' : World} {F : Nat → Prop} {L : List Atom} {K : Value → World → Prop} {dst : Option Tmp} {ty : TypeId} {pos : String} {af : Array Edge} {gd : Option (Nat × Bool)}
variable {α : Type} {enc : α → Value}
def Atom.sl (enc : α → Value) (v : Value) (l : List α) : Atom where
  foot k := v.ownBlock = some k
  says w := Sl enc w v l ∧ ∀ k, v.ownBlock = some k → k < w.heap.size
  keep := by
    intro w w' hb ⟨⟨A, c, he, g1, g2, hc⟩, hlt⟩
    have key : ∀ k, v.ownBlock = some k → w'.heap[k]? = w.heap[k]? := fun k hk => hb k hk (hlt k hk)
    refine ⟨⟨A, c, he, g1, g2, fun j v hv => ?_⟩, fun k hk => ?_⟩
    · obtain ⟨ad, e, hcell⟩ := hc j v hv
      refine ⟨ad, e, ?_⟩
      rw [World.cell?_of_block (key _ (by rw [he, e, block_add]; rfl)), hcell]
    · have e := key k hk
      have hl := hlt k hk
      rw [Array.getElem?_eq_getElem hl] at e
      exact (Array.getElem?_eq_some_iff.1 e).1
theorem Now.slr (h : Now w0 F w L) (i : Nat) {v : Value} {l : List α} (hi : L[i]? = some (.sl enc v l)) : Sl enc w v l := (h.says i _ hi).1
theorem opN_toBytes {src dt e : TypeId} {x : Operand} {l : List UInt8} (hs : P.underlying src = some .string) (hd : P.underlying dt = some (.slice e)) (he : P.underlying e = some (.int .u8)) (hx : ev R x = str l) (hlen : l.length ≤ 140737488355328) (hN : Now w0 F w L)
    (h : ∀ v w', Now w0 F w' (.sl vb v l :: L) → K v w') : OpR P ⟨dst, .convert src dt x, ty, pos, af, gd⟩ R w K := by
  have hrun := run_bytes_of_string (P := P) w src dt e ⟨l.toArray⟩ hs hd he
  have hsz : (⟨l.toArray⟩ : ByteArray).size = l.length := by simp [ByteArray.size]
  rw [hsz] at hrun
  have hge := grownCap_ge w l.length 0 e
  have hcm : grownCap w l.length 0 e ≤ maxLen := grownCap_le_maxLen w l.length 0 e (by unfold maxLen; omega)
  generalize grownCap w l.length 0 e = cap at hrun hge hcm
  have hnew : (w.drew.alloc (.cells (bytesRow ⟨l.toArray⟩ cap) e ((bytesRow ⟨l.toArray⟩ cap).size, (bytesRow ⟨l.toArray⟩ cap).size + 1))).heap[w.heap.size]? = some (.cells (bytesRow ⟨l.toArray⟩ cap) e ((bytesRow ⟨l.toArray⟩ cap).size, (bytesRow ⟨l.toArray⟩ cap).size + 1)) := by
    have := heap_alloc_new w.drew (.cells (bytesRow ⟨l.toArray⟩ cap) e ((bytesRow ⟨l.toArray⟩ cap).size, (bytesRow ⟨l.toArray⟩ cap).size + 1))
    exact this
  have hext : Ext w (w.drew.alloc (.cells (bytesRow ⟨l.toArray⟩ cap) e ((bytesRow ⟨l.toArray⟩ cap).size, (bytesRow ⟨l.toArray⟩ cap).size + 1))) := (Ext.drew w).trans (Ext.alloc _ _)
  have hsl : Sl vb (w.drew.alloc (.cells (bytesRow ⟨l.toArray⟩ cap) e ((bytesRow ⟨l.toArray⟩ cap).size, (bytesRow ⟨l.toArray⟩ cap).size + 1))) (.slice (some ⟨w.heap.size, 0, none⟩) l.length cap) l := by
    refine ⟨_, cap, rfl, hge, hcm, fun j v hj => ⟨_, rfl, ?_⟩⟩
    rw [at0, cell_of_row _ _ _ _ _ _ hnew]
    rw [List.getElem?_map] at hj
    cases hq : l[j]? with
    | none => rw [hq] at hj; cases hj
    | some b =>
      rw [hq] at hj
      simp only [Option.map_some, Option.some.injEq] at hj
      subst hj
      have hjl := (List.getElem?_eq_some_iff.1 hq).1
      have hb := (List.getElem?_eq_some_iff.1 hq).2
      simp [bytesRow, vb, Array.getElem?_append, hjl, hb]
  refine OpR.value (v := .slice (some ⟨w.heap.size, 0, none⟩) l.length cap) ?_ (h _ _ (hN.push hext ⟨hsl, fun k hk => ?_⟩ fun k hk => ?_))
  · simp only [execOp, hx, str]
    simp [hrun]
  · cases (Option.some.inj hk); simp
  · cases (Option.some.inj hk); exact ⟨Nat.le_refl _, by simp⟩
end
section
variable {w0 w w' : World} {F : Nat → Prop} {L M N : List Atom} {α : Type} {enc : α → Value}
theorem Now.turn {a a' : Atom} (h : Now w0 F w L) (i : Nat) (hi : L[i]? = some a) (hs : a'.says w) (hf : ∀ k, a'.foot k → a.foot k) : Now w0 F w (L.set i a') :=
  h.upd i hi (Mod.refl _ _) hs fun k hk => ⟨.inl (hf k hk), (h.low i a hi k (hf k hk)).2⟩
theorem Now.ownSl (h : Now w0 F w L) (i : Nat) {E : TypeId} {v : Value} {l : List α} (hi : L[i]? = some (.own enc E v l)) : Now w0 F w (L.set i (.sl enc v l)) :=
  h.turn i hi ⟨(h.own i hi).sl, fun k hk => ((h.own i hi).lt k hk).2⟩ (fun _ hk => hk)
theorem Now.famPushS {h : Hd} {l : List α} {hs : List Hd} {ls : List (List α)} (hN : Now w0 F w (.sl enc (vh h) l :: L)) (j : Nat) (hj : L[j]? = some (.fam enc hs ls)) : Now w0 F w (L.set j (.fam enc (hs ++ [h]) (ls ++ [l]))) := by
  have ho : Sl enc w (vh h) l ∧ ∀ k, (vh h).ownBlock = some k → k < w.heap.size := hN.says 0 _ rfl
  have hf : (Atom.fam enc hs ls).says w := hN.says (j + 1) _ (by simpa using hj)
  have hlt : j < L.length := (List.getElem?_eq_some_iff.1 hj).1
  have foot : ∀ k, (Atom.fam enc (hs ++ [h]) (ls ++ [l])).foot k → (Atom.fam enc hs ls).foot k ∨ (vh h).ownBlock = some k := by
    rintro k ⟨h', hm, hk⟩
    rcases List.mem_append.1 hm with e | e
    · exact .inl ⟨h', e, hk⟩
    · rw [List.mem_singleton] at e; subst e; exact .inr hk
  have get : ∀ (i : Nat) c, (L.set j (.fam enc (hs ++ [h]) (ls ++ [l])))[i]? = some c → (i = j ∧ c = .fam enc (hs ++ [h]) (ls ++ [l])) ∨ (i ≠ j ∧ L[i]? = some c) := by
    intro i c hc
    rw [List.getElem?_set] at hc
    by_cases e : j = i
    · subst e; rw [if_pos rfl, if_pos hlt] at hc; exact .inl ⟨rfl, (Option.some.inj hc).symm⟩
    · rw [if_neg e] at hc; exact .inr ⟨fun x => e x.symm, hc⟩
  have old : ∀ (i : Nat) c, L[i]? = some c → (∀ k, c.foot k → ¬ (vh h).ownBlock = some k) ∧ (i ≠ j → ∀ k, c.foot k → ¬ (Atom.fam enc hs ls).foot k) := fun i c hc =>
    ⟨fun k hk e => hN.sep (i + 1) 0 c _ (by omega) (by simpa using hc) rfl k hk e, fun hi k hk e => hN.sep (i + 1) (j + 1) c _ (by omega) (by simpa using hc) (by simpa using hj) k hk e⟩
  refine ⟨hN.mod, ?_, ?_, ?_⟩
  · intro i c hc
    rcases get i c hc with ⟨_, rfl⟩ | ⟨_, hc⟩
    · refine ⟨by simp [hf.1], fun q h' l' hq hl => ?_⟩
      rcases Nat.lt_or_ge q hs.length with hq1 | hq1
      · rw [List.getElem?_append_left hq1] at hq
        rw [List.getElem?_append_left (by rw [← hf.1]; exact hq1)] at hl
        exact hf.2 q h' l' hq hl
      · rw [List.getElem?_append_right hq1] at hq
        rw [List.getElem?_append_right (by rw [← hf.1]; exact hq1), ← hf.1] at hl
        have hz : q - hs.length = 0 := by
          rcases Nat.eq_zero_or_pos (q - hs.length) with e | e
          · exact e
          · rw [List.getElem?_eq_none (by simp; omega)] at hq; cases hq
        rw [hz] at hq hl
        cases hq; cases hl
        exact ⟨ho.1, fun k hk => ho.2 k hk⟩
    · exact hN.says (i + 1) c (by simpa using hc)
  · intro i c hc k hk
    rcases get i c hc with ⟨_, rfl⟩ | ⟨_, hc⟩
    · rcases foot k hk with e | e
      · exact hN.low (j + 1) _ (by simpa using hj) k e
      · exact hN.low 0 _ rfl k e
    · exact hN.low (i + 1) c (by simpa using hc) k hk
  · intro i i' c c' hne hc hc' k hk hk'
    rcases get i c hc with ⟨rfl, rfl⟩ | ⟨hi, hc⟩ <;> rcases get i' c' hc' with ⟨rfl, rfl⟩ | ⟨hi', hc'⟩
    · exact hne rfl
    · rcases foot k hk with e | e
      · exact (old i' c' hc').2 hi' k hk' e
      · exact (old i' c' hc').1 k hk' e
    · rcases foot k hk' with e | e
      · exact (old i c ‹_›).2 hi k hk e
      · exact (old i c ‹_›).1 k hk e
    · exact hN.sep (i + 1) (i' + 1) c c' (by omega) (by simpa using ‹L[i]? = some c›) (by simpa using hc') k hk hk'
theorem Now.famPush {E : TypeId} {h : Hd} {l : List α} {hs : List Hd} {ls : List (List α)} (hN : Now w0 F w (.own enc E (vh h) l :: L)) (j : Nat) (hj : L[j]? = some (.fam enc hs ls)) : Now w0 F w (L.set j (.fam enc (hs ++ [h]) (ls ++ [l]))) :=
  Now.famPushS (h := h) (l := l) (hN.ownSl 0 rfl) j hj
end
section
variable {P : Program} {R : Nat → Value} {w0 w w' : World} {F : Nat → Prop} {L : List Atom} {K : Value → World → Prop} {dst : Option Tmp} {ty : TypeId} {pos : String} {af : Array Edge} {gd : Option (Nat × Bool)} {α : Type} {enc : α → Value}
theorem opN_lit0 {t e : TypeId} {parts : Array (Nat × Operand)} (enc : α → Value) (ht : P.underlying t = some (.slice e)) (hsz : (P.info? e).map (·.size) = some 1) (hparts : parts = #[]) (hN : Now w0 F w L)
    (h : ∀ v w', Now w0 F w' (.sl enc v [] :: L) → K v w') : OpR P ⟨dst, .buildSlice t 0 parts, ty, pos, af, gd⟩ R w K := by
  subst hparts
  refine OpR.value (v := .slice (some ⟨w.heap.size, 0, none⟩) 0 0) (w' := w.alloc (.cells #[] e)) ?_ (h _ _ (hN.push (Ext.alloc _ _) ⟨⟨_, 0, rfl, Nat.le_refl _, by unfold maxLen; omega, Cells.nil _ _⟩, fun k hk => ?_⟩ fun k hk => ?_))
  · simp [execOp, Instr.buildSlice, run_underlying ht, size_of (w := w) hsz, Instr.fill, newRow]
    congr 2
    apply Array.ext'
    simp
  · cases (Option.some.inj hk); simp
  · cases (Option.some.inj hk); exact ⟨Nat.le_refl _, by simp⟩
theorem Els.append {hs hs2 : List Hd} {ls ls2 : List (List α)} (h : Els F enc w hs ls) (h2 : Els F enc w hs2 ls2) : Els F enc w (hs ++ hs2) (ls ++ ls2) := by
  refine ⟨by simp [h.1, h2.1], fun i hd l hi hl => ?_⟩
  have e := h.1
  rcases Nat.lt_or_ge i hs.length with hlt | hge
  · rw [List.getElem?_append_left hlt] at hi
    rw [List.getElem?_append_left (by omega)] at hl
    exact h.2 i hd l hi hl
  · rw [List.getElem?_append_right hge] at hi
    rw [List.getElem?_append_right (by omega), ← e] at hl
    exact h2.2 _ hd l hi hl
end
end Go.Rl
set_option linter.unusedVariables false
namespace Go.Rl
open Go.ChangeShapes Go.WideShapes
inductive Sh where
  | int (k : IntKind)
  | bool
  | str
  | sl (e : Sh)
  | nil
  | cons (f : Sh) (r : Sh)
def Sh.cells : Sh → Nat
  | .int _ | .bool | .str | .sl _ => 1
  | .nil => 0
  | .cons f r => f.cells + r.cells
def Sh.ty : Sh → Type
  | .int _ => Int
  | .bool => Bool
  | .str => List UInt8
  | .sl e => List e.ty
  | .nil => Unit
  | .cons f r => f.ty × r.ty
def Sh.rd (w : World) : (s : Sh) → List Value → s.ty → Prop
  | .int k, cs, n => cs = [.int k n] ∧ (Lit.int k n).wf = true
  | .bool, cs, b => cs = [.bool b]
  | .str, cs, l => cs = [Rl.str l] ∧ List.length (α := UInt8) l ≤ maxLen
  | .sl e, cs, l => ∃ A c, cs = [.slice A (List.length (α := e.ty) l) c] ∧ List.length (α := e.ty) l ≤ c ∧ c ≤ maxLen ∧ ∀ (i : Nat) (a : e.ty), (show List e.ty from l)[i]? = some a →
      ∃ cs', cs'.length = e.cells ∧ e.rd w cs' a ∧ ∀ (j : Nat) v, cs'[j]? = some v → ∃ ad, A = some ad ∧ w.cell? (ad.add (i * e.cells + j)) = some v
  | .nil, cs, _ => cs = []
  | .cons f r, cs, a => f.rd w (cs.take f.cells) a.1 ∧ r.rd w (cs.drop f.cells) a.2
theorem Sh.rd_len {w : World} : ∀ (s : Sh) {cs : List Value} {a : s.ty}, s.rd w cs a → cs.length = s.cells
  | .int k, cs, a, h => by rw [h.1]; rfl
  | .bool, cs, a, h => by rw [show cs = _ from h]; rfl
  | .str, cs, a, h => by rw [h.1]; rfl
  | .sl e, cs, a, h => by obtain ⟨A, c, rfl, _⟩ := h; rfl
  | .nil, cs, a, h => by rw [show cs = [] from h]; rfl
  | .cons f r, cs, a, h => by
    have h1 := f.rd_len h.1
    have h2 := r.rd_len h.2
    simp only [List.length_take, List.length_drop] at h1 h2
    simp only [Sh.cells]
    rcases Nat.lt_or_ge cs.length f.cells with hl | hl
    · rw [Nat.min_eq_right (by omega)] at h1
      omega
    · omega
def Sh.fit (P : Program) : Sh → TypeId ⊕ (List Field × Nat) → Bool
  | .int k, .inl t => match P.underlying t with
    | some (.int k') => decide (k' = k)
    | _ => false
  | .bool, .inl t => match P.underlying t with
    | some .bool => true
    | _ => false
  | .str, .inl t => match P.underlying t with
    | some .string => true
    | _ => false
  | .sl e, .inl t => match P.underlying t with
    | some (.slice te) => P.cellsOf te == e.cells && e.fit P (.inl te)
    | _ => false
  | .nil, .inl t => match P.underlying t with
    | some (.struct fs) => fs.toList.isEmpty && P.cellsOf t == 0
    | _ => false
  | .cons f r, .inl t => match P.underlying t with
    | some (.struct fs) => match fs.toList with
      | fd :: fds => P.cellsOf t == f.cells + r.cells && fd.offset == 0 && P.cellsOf fd.type == f.cells && f.fit P (.inl fd.type) && r.fit P (.inr (fds, f.cells))
      | _ => false
    | _ => false
  | .nil, .inr (fds, _) => fds.isEmpty
  | .cons f r, .inr (fds, off) => match fds with
    | fd :: fds => fd.offset == off && P.cellsOf fd.type == f.cells && f.fit P (.inl fd.type) && r.fit P (.inr (fds, off + f.cells))
    | _ => false
  | _, .inr _ => false
structure Bulk (H : Type) where
  one : DataW H → Nat
  all : List (DataW H) → Nat
  nil : all [] = 0
  cons : ∀ d r, all (d :: r) = one d + all r
  pos : ∀ d, 1 ≤ one d
  string : ∀ l, l.length + 1 ≤ one (.lit (.string l))
  slice : ∀ l r, all l + 1 ≤ one (.slice l r)
  agg : ∀ l, all l ≤ one (.agg l)
section
variable {H : Type} {enc : TypeId × Value → H} {P : Program} {w : World} {base : Nat} {spare : Nat → Bool} {held : Bool}
theorem size_all (l : List (DataW H)) : (l.map fun d => SizeOf.sizeOf d).sum ≤ SizeOf.sizeOf l := by
  induction l with
  | nil => simp
  | cons d l ih => simp only [List.map_cons, List.sum_cons, List.cons.sizeOf_spec]; omega
theorem size_str (l : List UInt8) : l.length ≤ SizeOf.sizeOf l := by
  induction l with
  | nil => simp
  | cons d l ih => simp only [List.length_cons, List.cons.sizeOf_spec]; omega
noncomputable def Bulk.size (H : Type) : Bulk H where
  one d := SizeOf.sizeOf d
  all l := (l.map fun d => SizeOf.sizeOf d).sum
  nil := rfl
  cons _ _ := rfl
  pos d := by cases d <;> simp only [DataW.lit.sizeOf_spec, DataW.nil.sizeOf_spec, DataW.ptr.sizeOf_spec, DataW.slice.sizeOf_spec, DataW.agg.sizeOf_spec, DataW.iface.sizeOf_spec, DataW.map.sizeOf_spec, DataW.held.sizeOf_spec] <;> omega
  string l := by have := size_str l; simp only [DataW.lit.sizeOf_spec, Lit.string.sizeOf_spec]; omega
  slice l r := by have := size_all l; simp only [DataW.slice.sizeOf_spec]; omega
  agg l := by have := size_all l; simp only [DataW.agg.sizeOf_spec]; omega
end
section
variable {H : Type} {enc : TypeId × Value → H} {P : Program} {W : World} {base : Nat} {held : Bool} {t : TypeId} {d : DataW H} {ps : List MemPlace} {v : Value} {fs : Array Field}
end
end Go.Rl
set_option linter.unusedVariables false
set_option linter.unusedSimpArgs false
set_option linter.unusedSectionVars false
namespace Go.Rl
open Go.RowKit
section
variable {κ : Type} [DecidableEq κ]
abbrev Ent (κ : Type) := κ × Value × Nat
end
section
variable {P : Program} {n : Nat} {Q : Post} {R : Nat → Value} {w0 w : World} {F : Nat → Prop} {L : List Atom} {K : Value → World → Prop} {dst : Option Tmp} {ty : TypeId} {pos : String} {af : Array Edge} {gd : Option (Nat × Bool)}
variable {κ : Type} [DecidableEq κ] {ke : κ → Value} {l : List (Ent κ)} {clock b : Nat}
end
end Go.Rl
set_option linter.unusedVariables false
set_option linter.unusedSimpArgs false
namespace Go.Rl
section
variable {P : Program} {ops : Array Oper} {Qa : Exit → Act → World → Prop} {S : World → Prop} {e : Nat}
def wpAnyE (P : Program) (ops : Array Oper) (Q : Exit → Act → World → Prop) (S : World → Prop) (e : Nat) : Nat → Array Bool → Act → World → Prop
  | 0, listed, a, w => Region.ready .any ops listed = [] ∧ Q .normal a w
  | fuel + 1, listed, a, w => (Region.ready .any ops listed = [] → Q .normal a w) ∧
      ∀ i ∈ Region.ready .any ops listed, wpOp P ops Q i (fun a' w' => (i ≠ e → S w') ∧ wpAnyE P ops Q S e fuel (listed.setIfInBounds i true) a' w') a w
theorem wpAny_of_E : ∀ (fuel : Nat) (listed : Array Bool) (a : Act) (w : World), wpAnyE P ops Qa S e fuel listed a w → wpAny P .any ops Qa fuel listed a w
  | 0, _, _, _, h => h
  | fuel + 1, _, _, _, h => ⟨h.1, fun i hi => wpOp_mono (fun a' w' h' => wpAny_of_E fuel _ a' w' h'.2) (h.2 i hi)⟩
def waits (ops : Array Oper) (e i : Nat) : Bool := match ops[e]? with
  | some o => o.after.any fun x => Region.binds .any x && x.on == i
  | none => true
theorem waits_ready {i : Nat} {listed : Array Bool} (hw : waits ops e i = true) (hi : i ∈ Region.ready .any ops listed) : e ∉ Region.ready .any ops listed := fun he => by
  obtain ⟨_, o, ho, hall⟩ := mem_ready.1 he
  unfold waits at hw
  rw [ho] at hw
  simp only [Array.any_eq_true, Bool.and_eq_true, beq_iff_eq] at hw
  obtain ⟨q, hq, hb, hon⟩ := hw
  have h1 := hall _ (Array.getElem_mem hq) hb
  have h0 := (mem_ready.1 hi).1
  rw [hon] at h1
  rcases Nat.lt_or_ge i listed.size with h' | h'
  · simp [h'] at h0 h1; rw [h0] at h1; cases h1
  · simp [Array.getElem?_eq_none h'] at h1
theorem wpAnyE_first {i : Nat} {oi : Oper} {v : Value} (hi : ops[i]? = some oi) (hie : i ≠ e) (hwt : waits ops e i = true) (hsel : ∀ (j : Nat) (o : Oper) cs b, ops[j]? = some o → o.op ≠ .select cs b)
    (hQ : ∀ c a w, Qa (.panic c) (a.put oi.dst v) w → Qa (.panic c) a w) :
    ∀ (fuel : Nat) (listed : Array Bool) (a : Act) (w : World),
      (∀ j oj, ops[j]? = some oj → j ≠ i → listed.getD j true = false → (∀ x ∈ oj.after, Region.binds .any x = true → x.on ≠ i) → oi.apart ops oj = true) →
      i ∈ Region.ready .any ops listed → YieldsIf P ops S oi v a → S w →
      wpAnyE P ops Qa S e fuel (listed.setIfInBounds i true) (a.put oi.dst v) w → wpAnyE P ops Qa S e (fuel + 1) listed a w := by
  intro fuel
  induction fuel with
  | zero =>
    intro listed a w _ hr hy hS H
    refine ⟨fun h => (by rw [h] at hr; cases hr), fun j hj => ?_⟩
    by_cases hji : j = i
    · subst hji; exact hy.wpOp hi hS ⟨fun _ => hS, H⟩
    · have := ready_mono hj hji
      rw [H.1] at this
      cases this
  | succ fuel ih =>
    intro listed a w hfree hr hy hS H
    refine ⟨fun h => (by rw [h] at hr; cases hr), fun j hj => ?_⟩
    by_cases hji : j = i
    · subst hji; exact hy.wpOp hi hS ⟨fun _ => hS, H⟩
    · have hje : j ≠ e := fun h => waits_ready hwt hr (h ▸ hj)
      have h1 := H.2 j (ready_mono hj hji)
      obtain ⟨hjun, oj, hoj, hall⟩ := mem_ready.1 hj
      have hnot : ∀ x ∈ oj.after, Region.binds .any x = true → x.on ≠ i := fun x hx hb heq => by
        have h1 := hall x hx hb
        have h0 := (mem_ready.1 hr).1
        rw [heq] at h1
        rcases Nat.lt_or_ge i listed.size with h' | h'
        · simp [h'] at h0 h1; rw [h0] at h1; cases h1
        · simp [Array.getElem?_eq_none h'] at h1
      have h2 := wpOp_putIf hoj (hfree j oj hoj hji hjun hnot) (fun cs b => hsel i oi cs b hi) (fun cs b => hsel j oj cs b hoj) hQ hy h1
      have hfree' : ∀ k ok, ops[k]? = some ok → k ≠ i → (listed.setIfInBounds j true).getD k true = false →
          (∀ x ∈ ok.after, Region.binds .any x = true → x.on ≠ i) → oi.apart ops ok = true := fun k ok hk hki hun hno => by
        refine hfree k ok hk hki ?_ hno
        by_cases hjk : j = k
        · subst hjk; exact hjun
        · rw [getD_set_ne true hjk] at hun; exact hun
      refine wpOp_mono (fun a' w' h3 => ⟨fun _ => h3.2.1 hje, ih (listed.setIfInBounds j true) a' w' hfree' (ready_mono hr (Ne.symm hji)) h3.1 (h3.2.1 hje) ?_⟩) h2
      rw [Array.setIfInBounds_comm _ _ hji]
      exact h3.2.2
end
def RE (P : Program) (n : Nat) (ops : Array Oper) (Q : Post) (S : World → Prop) (e : Nat) (fuel : Nat) (listed : Array Bool) (R : Nat → Value) (w : World) : Prop :=
  ∀ a, AtR n R a → wpAnyE P ops (Q.up n) S e fuel listed a w
section
variable {P : Program} {n : Nat} {Q : Post} {R : Nat → Value} {w : World} {ops : Array Oper} {S : World → Prop} {e fuel : Nat} {listed : Array Bool}
theorem RW.drawE {id : Nat} (hm : P.follows .mixedOrders = true) (S : World → Prop) (e : Nat)
    (h : RE P n ops Q S e ops.size (Array.replicate ops.size false) R w.drew) : RW P n (.region id ops true) Q R w := fun a ha => wp_region_any hm (wpAny_of_E _ _ _ _ (h a ha))
theorem RE.done (hr : Region.ready .any ops listed = []) (h : Q .normal R w) : RE P n ops Q S e fuel listed R w := fun a ha => by
  cases fuel with
  | zero => exact ⟨hr, R, ha, h⟩
  | succ f => exact ⟨fun _ => ⟨R, ha, h⟩, by rw [hr]; simp⟩
theorem RE.take {i : Nat} {o : Oper} {v : Value} (hi : ops[i]? = some o) (hie : i ≠ e) (hwt : waits ops e i = true) (hg : o.guard = none) (hs : Region.noSelect ops = true)
    (hf : Region.free .any ops listed i = true) (hr : (Region.ready .any ops listed).contains i = true) (hp : NoP Q) (hd : dstOk n o.dst = true) (hS : S w) (h : ∀ w, S w → Ev P o R w v)
    (hn : RE P n ops Q S e fuel (listed.setIfInBounds i true) (updO R o.dst v) w) : RE P n ops Q S e (fuel + 1) listed R w := fun a ha =>
  wpAnyE_first hi hie hwt (Region.noSelect_spec hs) (fun c a w => up_panic hp _ _ a w) fuel listed a w (Region.free_spec hi hf) (by simpa using hr) (.inl ⟨by simp [Region.wanted, hg], fun w hw => by rw [ha.eval]; exact h w hw⟩) hS (hn _ (ha.put hd v))
theorem RE.only {i : Nat} {o : Oper} (hr : Region.ready .any ops listed = [i]) (hi : ops[i]? = some o) (hg : o.guard = none) (hd : dstOk n o.dst = true)
    (h : OpR P o R w (fun v w' => S w' ∧ RE P n ops Q S e fuel (listed.setIfInBounds i true) (updO R o.dst v) w')) : RE P n ops Q S e (fuel + 1) listed R w := fun a ha => by
  refine ⟨fun h0 => (by rw [hr] at h0; cases h0), fun j hj => ?_⟩
  have : j = i := by rw [hr] at hj; simpa using hj
  subst this
  unfold wpOp
  simp only [hi, Region.wanted, hg, if_true]
  refine .inl (OpR.wp ha hd h fun v w' hv hat => ⟨fun _ => hv.1, hv.2 _ hat⟩)
end
end Go.Rl
set_option linter.unusedVariables false
set_option linter.unusedSimpArgs false
namespace Go.Rl
open Go.RowKit
abbrev XF (ro : Option Nat) : Fence := { Fence.wide with round := ro }
structure AtX (ds : List Deferred) (n : Nat) (R : Nat → Value) (a : Act) : Prop where
  size : a.tmps.size = n
  regs : ∀ t, a.tmps.getD t undef = R t
  defs : a.defers = ds
def over (ds : List Deferred) (a : Act) : Act := { a with defers := a.defers ++ ds }
theorem AtX.at0 {ds : List Deferred} {n : Nat} {R : Nat → Value} {a : Act} (h : AtX ds n R a) : AtR n R { a with defers := [] } := ⟨h.size, h.regs, rfl⟩
theorem AtX.eval {ds : List Deferred} {n : Nat} {R : Nat → Value} {a : Act} (h : AtX ds n R a) : a.eval = ev R := by
  funext x; cases x <;> simp only [Act.eval, ev]; exact h.regs _
theorem AtR.atX {ds : List Deferred} {n : Nat} {R : Nat → Value} {a : Act} (h : AtR n R a) : AtX ds n R (over ds a) := ⟨h.size, h.regs, by simp [over, h.defs]⟩
theorem AtX.over0 {ds : List Deferred} {n : Nat} {R : Nat → Value} {a : Act} (h : AtX ds n R a) : over ds { a with defers := [] } = a := by
  have := h.defs; subst this; cases a; rfl
theorem over_put (ds : List Deferred) (a : Act) (d : Option Tmp) (v : Value) : over ds (a.put d v) = (over ds a).put d v := by cases d <;> rfl
theorem AtX.put {ds : List Deferred} {n : Nat} {R : Nat → Value} {a : Act} (h : AtX ds n R a) {dst : Option Tmp} (hd : dstOk n dst = true) (v : Value) : AtX ds n (updO R dst v) (a.put dst v) := by
  have := (h.at0.put hd v).atX (ds := ds)
  rwa [over_put, h.over0] at this
abbrev XPost := Exit → List Deferred → (Nat → Value) → World → Prop
def XPost.up (n : Nat) (Q : XPost) : Exit → Act → World → Prop := fun e a w => ∃ R ds, AtX ds n R a ∧ Q e ds R w
def XW (P : Program) (ro : Option Nat) (n : Nat) (c : Code) (Q : XPost) (ds : List Deferred) (R : Nat → Value) (w : World) : Prop := ∀ a, AtX ds n R a → c.wpIn (XF ro) 0 P (XPost.up n Q) a w
def XL (P : Program) (ro : Option Nat) (n : Nat) (ops : Array Oper) (Q : XPost) (l : List Oper) (ds : List Deferred) (R : Nat → Value) (w : World) : Prop := ∀ a, AtX ds n R a → wpListIn (XF ro) 0 P ops (XPost.up n Q) l a w
def OpX (P : Program) (ro : Option Nat) (o : Oper) (R : Nat → Value) (w : World) (K : Value → World → Prop) : Prop :=
  ∀ n ds a, AtX ds n R a → o.wpIn (XF ro) 0 P a w (fun a' w' => ∃ v, a' = a.put o.dst v ∧ K v w') (fun _ _ _ => False)
def notDefer (o : Oper) : Bool := match o.op with
  | .defer _ => false
  | _ => true
theorem notDefer.ne {o : Oper} (h : notDefer o = true) : ∀ c, o.op ≠ .defer c := fun c e => by simp [notDefer, e] at h
section
variable {P : Program} {ro : Option Nat} {n : Nat} {Q : XPost} {R : Nat → Value} {w : World} {ds : List Deferred}
theorem calls_x {f : FuncId} {args : Array Value} {K : Ending → World → Prop} {m : Nat} (h : Calls P f args w K) : CallsIn (XF ro) m P f args w K := (callsIn_wide (n := m)).2 h
theorem rows_x {row : String} {args : Array Value} {K : Value → World → Prop} {m : Nat} (h : Rows P row args w K) : RowsIn (XF ro) m P row args w K := fun c cs _ => by
  obtain ⟨v, w', hk, hs⟩ := h c cs
  exact ⟨v, w', hk, (stepsIn_wide (P := P)).2 hs⟩
theorem op_in {o : Oper} (hnd : notDefer o = true) {a : Act} {K K' : Act → World → Prop} {Qa Qb : Exit → Act → World → Prop} (h : o.wp P a w K Qa) (hp : ∀ c a w, ¬ Qa (.panic c) a w) (ho : ∀ a w, ¬ Qa .outgrown a w)
    (go : ∀ a1 w', K a1 w' → K' (over ds a1) w') : o.wpIn (XF ro) 0 P (over ds a) w K' Qb := by
  refine ⟨fun _ _ => trivial, ?_⟩
  have hev : (over ds a).eval = a.eval := by funext x; cases x <;> rfl
  rw [Oper.semAt_eq _ _ _ (notDefer.ne hnd), hev]
  unfold Oper.wp at h
  generalize (execOp a.eval o).run P w = r at *
  have no : ¬ LetsOut Qa := fun ⟨a, w, hx⟩ => ho a w hx
  cases r with
  | ok x w' =>
    cases x <;> simp only [Oper.upon, Oper.uponIn] at h ⊢
    case value v => rw [← over_put]; exact go _ _ h
    case skip => rw [← over_put]; exact go _ _ h
    case defer d =>
      have := go _ _ h
      rw [over_put] at this
      exact this
    case enter f args =>
      refine ⟨fun e => (by cases e), CallsIn.mono (calls_x h) fun e w'' he => ?_⟩
      cases e with
      | returned v => simp only at he ⊢; rw [← over_put]; exact go _ _ he
      | panicked c => exact (hp _ _ _ he).elim
      | outgrown => exact (no he).elim
    case row row args =>
      refine ⟨fun e => (by cases e), RowsIn.mono (rows_x h) fun v w'' he => ?_⟩
      rw [← over_put]; exact go _ _ he
  | halt x w' =>
    cases x <;> simp only [Oper.upon, Oper.uponIn] at h ⊢
    case panic u => exact (hp _ _ _ h).elim
theorem list_in {ops : Array Oper} {Qa Qb : Exit → Act → World → Prop} (hp : ∀ c a w, ¬ Qa (.panic c) a w) (ho : ∀ a w, ¬ Qa .outgrown a w) (hq : ∀ a w, Qa .normal a w → Qb .normal (over ds a) w) :
    ∀ (l : List Oper) (hnd : l.all notDefer = true) (a : Act) (w : World), wpList P ops Qa l a w → wpListIn (XF ro) 0 P ops Qb l (over ds a) w := by
  intro l
  induction l with
  | nil => exact fun _ a w h => hq a w h
  | cons o l ih =>
    intro hnd a w h
    simp only [List.all_cons, Bool.and_eq_true] at hnd
    simp only [wpList] at h
    simp only [wpListIn]
    have ht : (over ds a).tmps = a.tmps := rfl
    rw [ht]
    split
    · rename_i hw
      rw [if_pos hw] at h
      refine h.elim (fun h => op_in hnd.1 h hp ho fun a1 w' hk => ih hnd.2 a1 w' hk) (fun h => ?_)
      obtain ⟨_, a, w, hx⟩ := h
      exact (ho a w hx).elim
    · rename_i hw
      rw [if_neg hw] at h
      refine ⟨fun _ _ => trivial, ?_⟩
      rw [← over_put]
      exact ih hnd.2 _ w h
theorem any_in {ops : Array Oper} (hnd : ops.toList.all notDefer = true) {Qa Qb : Exit → Act → World → Prop} (hp : ∀ c a w, ¬ Qa (.panic c) a w) (ho : ∀ a w, ¬ Qa .outgrown a w) (hq : ∀ a w, Qa .normal a w → Qb .normal (over ds a) w) :
    ∀ (fuel : Nat) (listed : Array Bool) (a : Act) (w : World), wpAny P .any ops Qa fuel listed a w → wpAnyIn (XF ro) 0 P .any ops Qb fuel listed (over ds a) w := by
  intro fuel
  induction fuel with
  | zero => exact fun listed a w h => ⟨h.1, hq _ _ h.2⟩
  | succ fuel ih =>
    intro listed a w h
    refine ⟨fun e => hq _ _ (h.1 e), fun i hi => ?_⟩
    have h1 := h.2 i hi
    unfold wpOp at h1
    unfold wpOpIn
    cases hio : ops[i]? with
    | none => rw [hio] at h1; exact ih _ _ _ h1
    | some o =>
      have hn : notDefer o = true := List.all_eq_true.1 hnd o (by
        have : ops.toList[i]? = some o := by simpa using hio
        exact List.mem_of_getElem? this)
      rw [hio] at h1
      simp only at h1 ⊢
      have ht : (over ds a).tmps = a.tmps := rfl
      rw [ht]
      split
      · rename_i hw
        rw [if_pos hw] at h1
        refine h1.elim (fun h => op_in hn h hp ho fun a1 w' hk => ih _ a1 w' hk) (fun h => ?_)
        obtain ⟨_, a, w, hx⟩ := h
        exact (ho a w hx).elim
      · rename_i hw
        rw [if_neg hw] at h1
        refine ⟨fun _ _ => trivial, ?_⟩
        rw [← over_put]
        exact ih _ _ w h1
def onlyN (K : (Nat → Value) → World → Prop) : Post := fun e R w => match e with
  | .normal => K R w
  | _ => False
theorem onlyN_p {K : (Nat → Value) → World → Prop} (c : List PanicEntry) (a : Act) (w : World) : ¬ (Post.up n (onlyN K)) (.panic c) a w := fun ⟨_, _, h⟩ => h
theorem onlyN_o {K : (Nat → Value) → World → Prop} (a : Act) (w : World) : ¬ (Post.up n (onlyN K)) .outgrown a w := fun ⟨_, _, h⟩ => h
theorem onlyN_q {a : Act} (h : (Post.up n (onlyN fun R w => Q .normal ds R w)) .normal a w) : XPost.up n Q .normal (over ds a) w := by
  obtain ⟨R, ha, hq⟩ := h
  exact ⟨R, ds, ha.atX, hq⟩
theorem onlyNi {K : (Nat → Value) → World → Prop} (h : K R w) : onlyN K .normal R w := h
theorem onlyNP {K : (Nat → Value) → World → Prop} : NoP (onlyN K) := fun _ _ _ h => h
theorem XW.mono {c : Code} {Q' : XPost} (h : XW P ro n c Q ds R w) (hq : ∀ e ds R w, Q e ds R w → Q' e ds R w) : XW P ro n c Q' ds R w :=
  fun a ha => wpIn_mono (h a ha) fun _ _ _ ⟨R', ds', hR, hQ⟩ => ⟨R', ds', hR, hq _ _ _ _ hQ⟩
def thenY (K : List Deferred → (Nat → Value) → World → Prop) (Q : XPost) : XPost := fun e ds R w => match e with
  | .normal => K ds R w
  | e => Q e ds R w
theorem XW.seq {x y : Code} (h : XW P ro n x (thenY (fun ds R w => XW P ro n y Q ds R w) Q) ds R w) : XW P ro n (.seq x y) Q ds R w := fun a ha => by
  refine wpIn_seq (wpIn_mono (h a ha) ?_)
  rintro e a' w' ⟨R', ds', hR, hQ⟩
  cases e with
  | normal => exact hQ a' hR
  | _ => exact ⟨R', ds', hR, hQ⟩
theorem XW.skip (h : Q .normal ds R w) : XW P ro n .skip Q ds R w := fun _ ha => wpIn_skip ⟨R, ds, ha, h⟩
theorem XW.exit {id : Nat} (h : Q (.exit id) ds R w) : XW P ro n (.exit id) Q ds R w := fun _ ha => wpIn_exit ⟨R, ds, ha, h⟩
theorem XW.ret (h : Q .ret ds R w) : XW P ro n .ret Q ds R w := fun _ ha => wpIn_ret ⟨R, ds, ha, h⟩
theorem XW.cond {c : Operand} {x y : Code} (b : Bool) (hc : ev R c = .bool b) (ht : b = true → XW P ro n x Q ds R w) (hf : b = false → XW P ro n y Q ds R w) : XW P ro n (.cond c x y) Q ds R w :=
  fun a ha => wpIn_cond_split (t := b) (by rw [ha.eval]; exact hc) (fun e => ht e a ha) (fun e => hf e a ha)
theorem XW.condT {c : Operand} {x y : Code} (hc : ev R c = .bool true) (ht : XW P ro n x Q ds R w) : XW P ro n (.cond c x y) Q ds R w := XW.cond true hc (fun _ => ht) (fun e => by cases e)
theorem XW.condF {c : Operand} {x y : Code} (hc : ev R c = .bool false) (ht : XW P ro n y Q ds R w) : XW P ro n (.cond c x y) Q ds R w := XW.cond false hc (fun e => by cases e) (fun _ => ht)
theorem XW.condP {c : Operand} {x y : Code} (p : Prop) [Decidable p] (hc : Rl.ev R c = .bool (decide p)) (ht : p → XW P ro n x Q ds R w) (hf : ¬ p → XW P ro n y Q ds R w) : XW P ro n (.cond c x y) Q ds R w :=
  XW.cond (decide p) hc (fun e => ht (of_decide_eq_true e)) (fun e => hf (of_decide_eq_false e))
def blockY (id : Nat) (Q : XPost) : XPost := fun e ds R w => match e with
  | .exit id' => if id' = id then Q .normal ds R w else Q (.exit id') ds R w
  | e => Q e ds R w
theorem XW.block {id : Nat} {c : Code} (h : XW P ro n c (blockY id Q) ds R w) : XW P ro n (.block id c) Q ds R w := fun a ha => by
  refine wpIn_block (wpIn_mono (h a ha) ?_)
  rintro e a' w' ⟨R', ds', hR, hQ⟩
  cases e with
  | exit id' =>
    simp only [Exit.inBlock]
    simp only [blockY] at hQ
    split
    · rename_i e; rw [if_pos e] at hQ; exact ⟨R', ds', hR, hQ⟩
    · rename_i e; rw [if_neg e] at hQ; exact ⟨R', ds', hR, hQ⟩
  | _ => exact ⟨R', ds', hR, hQ⟩
theorem least {J : Nat → Prop} : ∀ k, J k → ∃ m, J m ∧ ∀ j, J j → m ≤ j := by
  intro k
  induction k using Nat.strongRecOn with
  | _ k ih =>
    intro h
    by_cases hx : ∃ j, j < k ∧ J j
    · obtain ⟨j, hj, h⟩ := hx; exact ih j hj h
    · exact ⟨k, h, fun j hj => Nat.le_of_not_lt fun hl => hx ⟨j, hl, hj⟩⟩
theorem XW.loop {c : Code} (I : Nat → (Nat → Value) → World → Prop) (k0 : Nat) (h0 : I k0 R w)
    (round : ∀ k R w, I k R w → XW P ro n c (thenY (fun ds' R' w' => ds' = ds ∧ ∃ k', k' < k ∧ I k' R' w') Q) ds R w) : XW P ro n (.loop c) Q ds R w := fun a ha => by
  let J : Act → World → Nat → Prop := fun a w k => ∃ R, AtX ds n R a ∧ I k R w
  have hm : ∀ a w, ∃ m, (∃ k, J a w k) → J a w m ∧ ∀ j, J a w j → m ≤ j := fun a w => by
    by_cases h : ∃ k, J a w k
    · obtain ⟨k, hk⟩ := h
      obtain ⟨m, hm⟩ := least (J := J a w) k hk
      exact ⟨m, fun _ => hm⟩
    · exact ⟨0, fun h' => absurd h' h⟩
  refine wpIn_loop (fun a w => ∃ k, J a w k) (fun a w => Classical.choose (hm a w)) ⟨k0, R, ha, h0⟩ ?_
  intro a' w' hI
  obtain ⟨⟨R', hR', hI'⟩, hleast⟩ := Classical.choose_spec (hm a' w') hI
  refine wpIn_mono (round _ R' w' hI' a' hR') ?_
  rintro e a'' w'' ⟨R'', ds'', hR'', hQ⟩
  cases e with
  | normal =>
    obtain ⟨rfl, k', hk, hI'⟩ := hQ
    have hx : ∃ k, J a'' w'' k := ⟨k', R'', hR'', hI'⟩
    exact ⟨hx, Nat.lt_of_le_of_lt ((Classical.choose_spec (hm a'' w'') hx).2 k' ⟨R'', hR'', hI'⟩) hk⟩
  | _ => exact ⟨R'', ds'', hR'', hQ⟩
theorem xthenN {K : List Deferred → (Nat → Value) → World → Prop} (h : K ds R w) : thenY K Q .normal ds R w := h
theorem xthenX {K : List Deferred → (Nat → Value) → World → Prop} {id : Nat} (h : Q (.exit id) ds R w) : thenY K Q (.exit id) ds R w := h
theorem xthenR {K : List Deferred → (Nat → Value) → World → Prop} (h : Q .ret ds R w) : thenY K Q .ret ds R w := h
theorem xblockN {id : Nat} (h : Q .normal ds R w) : blockY id Q .normal ds R w := h
theorem xblockHit {id : Nat} (h : Q .normal ds R w) : blockY id Q (.exit id) ds R w := by unfold blockY; simp only [if_true]; exact h
theorem XW.region {id : Nat} {l : List Oper} (hnd : l.all notDefer = true) (h : RL P n l.toArray (onlyN fun R w => Q .normal ds R w) l R w) : XW P ro n (.region id l.toArray false) Q ds R w := fun a ha => by
  have := list_in (ro := ro) (ds := ds) (Qb := XPost.up n Q) onlyN_p onlyN_o (fun a w h => onlyN_q h) l hnd _ w (h _ ha.at0)
  rw [ha.over0] at this
  exact wpIn_region_lit this
theorem XW.regionY {id : Nat} {l : List Oper} (h : XL P ro n l.toArray Q l ds R w) : XW P ro n (.region id l.toArray false) Q ds R w := fun a ha => wpIn_region_lit (h a ha)
theorem XW.drawE {id : Nat} {ops : Array Oper} (hm : P.follows .mixedOrders = true) (hnd : ops.toList.all notDefer = true) (S : World → Prop) (e : Nat)
    (h : RE P n ops (onlyN fun R w => Q .normal ds R w) S e ops.size (Array.replicate ops.size false) R w.drew) : XW P ro n (.region id ops true) Q ds R w := fun a ha => by
  have := any_in (ro := ro) (ds := ds) (Qb := XPost.up n Q) hnd onlyN_p onlyN_o (fun a w h => onlyN_q h) _ _ _ _ (wpAny_of_E _ _ _ _ (h _ ha.at0))
  rw [ha.over0] at this
  exact wpIn_region_any hm this
theorem OpX.of {o : Oper} {K : Value → World → Prop} (hnd : notDefer o = true) (h : OpR P o R w K) : OpX P ro o R w K := fun m ds a ha => by
  have := op_in (ro := ro) (ds := ds) (Qb := fun _ _ _ => False) (K' := fun a' w' => ∃ v, a' = a.put o.dst v ∧ K v w') hnd (h m _ ha.at0) (fun _ _ _ h => h) (fun _ _ h => h) (by
    rintro a1 w' ⟨v, rfl, hk⟩
    exact ⟨v, by rw [over_put, ha.over0], hk⟩)
  rwa [ha.over0] at this
theorem OpX.wp {o : Oper} {K : Value → World → Prop} {next : Act → World → Prop} {Q' : Exit → Act → World → Prop} {a : Act} (ha : AtX ds n R a) (hd : dstOk n o.dst = true) (h : OpX P ro o R w K)
    (go : ∀ v w', K v w' → ∀ (_ : AtX ds n (updO R o.dst v) (a.put o.dst v)), next (a.put o.dst v) w') : o.wpIn (XF ro) 0 P a w next Q' := by
  have h := h n ds a ha
  refine ⟨h.1, ?_⟩
  have h := h.2
  have go' : ∀ a' w', (∃ v, a' = a.put o.dst v ∧ K v w') → next a' w' := by
    rintro a' w' ⟨v, rfl, hv⟩
    exact go v w' hv (ha.put hd v)
  generalize (o.semAt (XF ro).round a.eval).run P w = r at *
  cases r with
  | ok x w' =>
    cases x <;> simp only [Oper.uponIn] at h ⊢ <;> first
      | exact go' _ _ h
      | exact ⟨h.1, CallsIn.mono h.2 (fun e w'' he => by cases e <;> first | exact go' _ _ he | exact he.elim | exact (by obtain ⟨_, _, hx⟩ := he; exact hx.elim))⟩
      | exact ⟨h.1, RowsIn.mono h.2 (fun _ _ he => go' _ _ he)⟩
      | exact ⟨h.1, RoundIn.mono h.2 (fun e w'' he => by cases e <;> first | exact go' _ _ he | exact he.elim | exact (by obtain ⟨_, _, hx⟩ := he; exact hx.elim))⟩
  | halt x w' => cases x <;> simp only [Oper.uponIn] at h ⊢
theorem XL.nil {ops : Array Oper} (h : Q .normal ds R w) : XL P ro n ops Q [] ds R w := fun _ ha => wpListIn_nil ⟨R, ds, ha, h⟩
theorem XL.op {ops : Array Oper} {o : Oper} {rest : List Oper} (hg : o.guard = none) (hd : dstOk n o.dst = true) (h : OpX P ro o R w (fun v w' => XL P ro n ops Q rest ds (updO R o.dst v) w')) :
    XL P ro n ops Q (o :: rest) ds R w := fun a ha => wpListIn_plain hg fun K hK => OpX.wp ha hd h fun v w' hv hat => hK _ _ (hv _ hat)
theorem XL.ev {ops : Array Oper} {o : Oper} {rest : List Oper} {v : Value} (hg : o.guard = none) (hd : dstOk n o.dst = true) (hnd : notDefer o = true) (h : Ev P o R w v) (hn : XL P ro n ops Q rest ds (updO R o.dst v) w) :
    XL P ro n ops Q (o :: rest) ds R w := XL.op hg hd (OpX.of hnd (OpR.ev h hn))
theorem yieldedX {ops : Array Oper} {a : Act} (ha : AtX ds n R a) {j d : Nat} {b : Bool} (hj : (ops[j]?).bind (·.dst) = some d) (hdn : d < n) (hb : R d = .bool b) : yielded ops a.tmps j = some b := yielded_of ha.at0 hj hdn hb
theorem XL.on {ops : Array Oper} {o : Oper} {rest : List Oper} {j : Nat} {want : Bool} {d : Nat} (hg : o.guard = some (j, want)) (hj : (ops[j]?).bind (·.dst) = some d) (hdn : d < n)
    (hb : R d = .bool want) (hd : dstOk n o.dst = true) (h : OpX P ro o R w (fun v w' => XL P ro n ops Q rest ds (updO R o.dst v) w')) : XL P ro n ops Q (o :: rest) ds R w := fun a ha => by
  refine wpListIn_step fun K hK => ?_
  simp only [Region.wanted, hg, yieldedX ha hj hdn hb, beq_self_eq_true, if_true]
  exact OpX.wp ha hd h fun v w' hv hat => hK _ _ (hv _ hat)
theorem XL.onEv {ops : Array Oper} {o : Oper} {rest : List Oper} {j : Nat} {want : Bool} {d : Nat} {v : Value} (hg : o.guard = some (j, want)) (hj : (ops[j]?).bind (·.dst) = some d) (hdn : d < n)
    (hb : R d = .bool want) (hd : dstOk n o.dst = true) (hnd : notDefer o = true) (h : Ev P o R w v) (hn : XL P ro n ops Q rest ds (updO R o.dst v) w) : XL P ro n ops Q (o :: rest) ds R w := XL.on hg hj hdn hb hd (OpX.of hnd (OpR.ev h hn))
theorem XL.off {ops : Array Oper} {o : Oper} {rest : List Oper} {j : Nat} {want : Bool} {d : Nat} (hg : o.guard = some (j, want)) (hj : (ops[j]?).bind (·.dst) = some d) (hdn : d < n)
    (hb : R d = .bool (!want)) (hd : dstOk n o.dst = true) (hn : XL P ro n ops Q rest ds (updO R o.dst undef) w) : XL P ro n ops Q (o :: rest) ds R w := fun a ha => by
  refine wpListIn_step fun K hK => ?_
  have : Region.wanted o (yielded ops a.tmps) = false := by cases want <;> simp [Region.wanted, hg, yieldedX ha hj hdn hb]
  rw [if_neg (by rw [this]; simp)]
  exact ⟨fun _ _ => trivial, hK _ _ (hn _ (ha.put hd undef))⟩
end
section
variable {P : Program} {ro : Option Nat} {n : Nat} {Q : XPost} {R : Nat → Value} {w : World} {ds : List Deferred} {dst : Option Tmp} {ty : TypeId} {pos : String} {af : Array Edge} {gd : Option (Nat × Bool)}
def YGives (P : Program) (l : Nat) (args : Array Value) (w : World) (K : Value → World → Prop) : Prop :=
  ∃ f tmps asg body, (Instr.yield l args).run P w = .ok (.round l f tmps asg body) w ∧ RoundIn Fence.wide 0 P l f tmps asg body w fun e w' => ∃ v, e = .returned v ∧ K v w'
theorem YGives.mono {l : Nat} {args : Array Value} {K K' : Value → World → Prop} (h : YGives P l args w K) (hk : ∀ v w', K v w' → K' v w') : YGives P l args w K' := by
  obtain ⟨f, tmps, asg, body, h1, h2⟩ := h
  exact ⟨f, tmps, asg, body, h1, h2.mono fun e w' ⟨v, he, hv⟩ => ⟨v, he, hk _ _ hv⟩⟩
theorem opX_of_round {o : Oper} {l : Nat} {args : Array Value} {K : Value → World → Prop} (hnd : notDefer o = true) (hrun : ∀ r, (Instr.yield l args).run P w = .ok r w → (execOp (ev R) o).run P w = .ok r w) (h : YGives P l args w K) : OpX P ro o R w K := fun m ds a ha => by
  obtain ⟨f, tmps, asg, body, h1, h2⟩ := h
  refine ⟨fun _ _ => trivial, ?_⟩
  rw [Oper.semAt_eq _ _ _ (notDefer.ne hnd), ha.eval, hrun _ h1]
  simp only [Oper.uponIn]
  refine ⟨fun e => (by cases e), RoundIn.mono (F := XF ro) h2 ?_⟩
  rintro e w' ⟨v, rfl, hv⟩
  exact ⟨v, rfl, hv⟩
theorem opX_yield1 {K : Value → World → Prop} {ats : Array TypeId} {fv x0 : Operand} {v0 : Value} {l : Nat} (hfv : ev R fv = .func (.yield l) #[] #[]) (hx0 : ev R x0 = v0) (h : YGives P l #[v0] w K) :
    OpX P ro ⟨dst, .call ⟨.value fv, #[x0], ats⟩, ty, pos, af, gd⟩ R w K := opX_of_round rfl (fun r hr => by
  subst hx0
  simp only [execOp, resolve, hfv, Deferred.ofValue, List.map_toArray, List.map_cons, List.map_nil, Sem.run_bind, Sem.run_pure, Result.andThen_ok, invoke]
  simpa using hr) h
def mark (D : Nat) : List Deferred := [{ target := .collected D, args := #[] }]
def endX (P : Program) (fn : Func) (n : Nat) (K : Value → World → Prop) : XPost := fun e ds R w => (e = .ret ∨ e = .normal) ∧
  ((ds = [] ∧ ∃ v, RV P fn n R w v ∧ K v w) ∨ ∃ D, ds = mark D ∧ w.heap[D]? = some (.deferred (some [])) ∧ ∃ v, RV P fn n R (w.putObj D (.deferred none)) v ∧ K v (w.putObj D (.deferred none)))
theorem Gives.startX {f : FuncId} {fn : Func} {c : Code} {args : Array Value} {K : Value → World → Prop} (hf : P.funcs[f]? = some fn) (hb : fn.body = some c)
    (hs : args.size ≤ fn.ntmps) (h : XW P none fn.ntmps c (endX P fn fn.ntmps K) [] (fun t => args.getD t undef) w) : Gives P f args w K := by
  refine (callsIn_wide (n := 0)).1 (callsIn_of_wp_marks (F := XF none) hf hb trivial ?_)
  refine wpIn_mono (h _ ⟨by rw [Array.size_append, Array.size_replicate]; omega, fun t => ?_, rfl⟩) ?_
  · by_cases ht : t < args.size
    · simp [Array.getElem?_append_left ht]
    · have h0 : args[t]? = .none := Array.getElem?_eq_none (by omega)
      simp only [Array.getD_eq_getD_getElem?, h0]
      rw [Array.getElem?_append_right (by omega), Array.getElem?_replicate]
      split <;> rfl
  · rintro e a w' ⟨R', ds', hR, he, hQ⟩
    have key : LeavesInM (XF none) 0 P fn a.tmps (fun e w' => ∃ v, e = .returned v ∧ K v w') a.defers .returning w' := by
      rcases hQ with ⟨rfl, v, hv, hk⟩ | ⟨D, rfl, hD, v, hv, hk⟩
      · rw [hR.defs]
        exact ⟨v, hv { a with defers := [] } hR.at0, v, rfl, hk⟩
      · rw [hR.defs]
        exact ⟨by simp, .inl ⟨D, _, rfl, run_takeDeferred hD, v, hv { a with defers := [] } hR.at0, v, rfl, hk⟩⟩
    rcases he with rfl | rfl <;> exact key
theorem xretI {fn : Func} {K : Value → World → Prop} {v : Value} (h : RV P fn n R w v) (hk : K v w) : endX P fn n K .ret [] R w := ⟨.inl rfl, .inl ⟨rfl, v, h, hk⟩⟩
theorem xretN {fn : Func} {K : Value → World → Prop} {v : Value} (h : RV P fn n R w v) (hk : K v w) : endX P fn n K .normal [] R w := ⟨.inr rfl, .inl ⟨rfl, v, h, hk⟩⟩
end
section
variable {P : Program} {w0 w w' : World} {F : Nat → Prop} {L M N : List Atom}
def Atom.obj (l : Nat) (o : Obj) : Atom where
  foot k := k = l
  says w := w.heap[l]? = some o
  keep := by
    intro w w' h hs
    exact (h l rfl (Array.getElem?_eq_some_iff.1 hs).1).trans hs
theorem mod_putObj (w : World) (l : Nat) (o : Obj) : Mod (fun k => k = l) w (w.putObj l o) :=
  ⟨rfl, rfl, rfl, by simp [World.putObj], fun k _ hk => World.putObj_heap_other hk⟩
theorem Now.putObj (h : Now w0 F w L) (i : Nat) {l : Nat} {o : Obj} (o' : Obj) (hi : L[i]? = some (.obj l o)) : Now w0 F (w.putObj l o') (L.set i (.obj l o')) := by
  have hs : w.heap[l]? = some o := h.says i _ hi
  have hl := (Array.getElem?_eq_some_iff.1 hs).1
  exact h.upd i hi (mod_putObj w l o') (World.putObj_heap_same hl) fun k hk => ⟨.inl hk, by cases hk; simpa [World.putObj] using hl⟩
def Atom.all (L : List Atom) : Atom where
  foot := foots L
  says w := (∀ (i : Nat) a, L[i]? = some a → a.says w) ∧ (∀ (i : Nat) a, L[i]? = some a → ∀ k, a.foot k → k < w.heap.size) ∧ ∀ (i j : Nat) a b, i ≠ j → L[i]? = some a → L[j]? = some b → ∀ k, a.foot k → ¬ b.foot k
  keep := by
    rintro w w' hb ⟨h1, h2, h3⟩
    refine ⟨fun i a hi => a.keep (fun k hk hlt => hb k ⟨a, List.mem_of_getElem? hi, hk⟩ hlt) (h1 i a hi), fun i a hi k hk => ?_, h3⟩
    have hl := h2 i a hi k hk
    have e := hb k ⟨a, List.mem_of_getElem? hi, hk⟩ hl
    rw [Array.getElem?_eq_getElem hl] at e
    exact (Array.getElem?_eq_some_iff.1 e).1
theorem foots_all : foots [Atom.all L] = foots L := by
  funext k
  exact propext ⟨fun ⟨a, ha, hk⟩ => by rw [List.mem_singleton] at ha; subst ha; exact hk, fun h => ⟨_, List.mem_singleton.2 rfl, h⟩⟩
theorem Now.pack (h : Now w0 F w (L ++ M)) : Now w0 F w (.all L :: M) := by
  have hL : ∀ (i : Nat) a, L[i]? = some a → (L ++ M)[i]? = some a := fun i a hi => by rw [List.getElem?_append_left (List.getElem?_eq_some_iff.1 hi).1]; exact hi
  have hM : ∀ (i : Nat) a, M[i]? = some a → (L ++ M)[L.length + i]? = some a := fun i a hi => by rw [List.getElem?_append_right (by omega)]; simpa using hi
  have hsep : ∀ (j : Nat) b, M[j]? = some b → ∀ k, foots L k → ¬ b.foot k := by
    rintro j b hj k ⟨a, ha, hk⟩ hk'
    obtain ⟨i, hi⟩ := List.mem_iff_getElem?.1 ha
    have := (List.getElem?_eq_some_iff.1 hi).1
    exact h.sep i (L.length + j) a b (by omega) (hL i a hi) (hM j b hj) k hk hk'
  refine ⟨h.mod, ?_, ?_, ?_⟩
  · intro i a hi
    cases i with
    | zero =>
      cases hi
      exact ⟨fun i a hi => h.says i a (hL i a hi), fun i a hi k hk => (h.low i a (hL i a hi) k hk).2, fun i j a b hij hi hj => h.sep i j a b hij (hL i a hi) (hL j b hj)⟩
    | succ i => exact h.says _ a (hM i a (by simpa using hi))
  · intro i a hi k hk
    cases i with
    | zero =>
      cases hi
      obtain ⟨b, hb, hk⟩ := hk
      obtain ⟨i, hi⟩ := List.mem_iff_getElem?.1 hb
      exact h.low i b (hL i b hi) k hk
    | succ i => exact h.low _ a (hM i a (by simpa using hi)) k hk
  · intro i j a b hij hi hj k hk hk'
    cases i with
    | zero =>
      cases hi
      cases j with
      | zero => exact hij rfl
      | succ j => exact hsep j b (by simpa using hj) k hk hk'
    | succ i =>
      cases j with
      | zero => cases hj; exact hsep i a (by simpa using hi) k hk' hk
      | succ j => exact h.sep (L.length + i) (L.length + j) a b (by omega) (hM i a (by simpa using hi)) (hM j b (by simpa using hj)) k hk hk'
theorem Now.unpack (h : Now w0 F w (.all L :: M)) : Now w0 F w (L ++ M) := by
  have hA : (Atom.all L).says w := h.says 0 _ rfl
  obtain ⟨h1, h2, h3⟩ := hA
  have get : ∀ (i : Nat) a, (L ++ M)[i]? = some a → L[i]? = some a ∨ (L.length ≤ i ∧ M[i - L.length]? = some a) := by
    intro i a hi
    rcases Nat.lt_or_ge i L.length with hl | hl
    · rw [List.getElem?_append_left hl] at hi; exact .inl hi
    · rw [List.getElem?_append_right hl] at hi; exact .inr ⟨hl, hi⟩
  have hsep : ∀ (i : Nat) a (j : Nat) b, L[i]? = some a → M[j]? = some b → ∀ k, a.foot k → ¬ b.foot k := fun i a j b hi hj k hk hk' =>
    h.sep 0 (j + 1) _ b (by omega) rfl (by simpa using hj) k ⟨a, List.mem_of_getElem? hi, hk⟩ hk'
  refine ⟨h.mod, ?_, ?_, ?_⟩
  · intro i a hi
    rcases get i a hi with hi | ⟨_, hi⟩
    · exact h1 i a hi
    · exact h.says (i - L.length + 1) a (by simpa using hi)
  · intro i a hi k hk
    rcases get i a hi with hi | ⟨_, hi⟩
    · exact h.low 0 _ rfl k ⟨a, List.mem_of_getElem? hi, hk⟩
    · exact h.low (i - L.length + 1) a (by simpa using hi) k hk
  · intro i j a b hij hi hj k hk hk'
    rcases get i a hi with hi | ⟨_, hi⟩ <;> rcases get j b hj with hj | ⟨_, hj⟩
    · exact h3 i j a b hij hi hj k hk hk'
    · exact hsep i a _ b hi hj k hk hk'
    · exact hsep j b _ a hj hi k hk' hk
    · exact h.sep (i - L.length + 1) (j - L.length + 1) a b (by omega) (by simpa using hi) (by simpa using hj) k hk hk'
theorem Now.all1 (h : Now w0 F w L) : Now w0 F w [.all L] := Now.pack (M := []) (by rwa [List.append_nil])
theorem Now.un1 (h : Now w0 F w [.all L]) : Now w0 F w L := by have := h.unpack; rwa [List.append_nil] at this
theorem Now.offB {M : List Atom} {a : Atom} {α : Type} {v : Value} {l : List α} (h : Now w0 F w L) (p : List Nat) (hM : M.map some = p.map (fun i => L[i]?)) (j : Nat) (hj : L[j]? = some a) (hij : (p.all fun i => i != j) = true) (hv : ∀ k, v.ownBlock = some k → a.foot k) : Off (foots M) v l := by
  rintro hl k hk ⟨b, hb, hf⟩
  have h2 : some b ∈ M.map some := List.mem_map.2 ⟨b, hb, rfl⟩
  rw [hM] at h2
  obtain ⟨i, hi0, hi⟩ := List.mem_map.1 h2
  have hne : i ≠ j := by simpa using List.all_eq_true.1 hij i hi0
  exact h.sep j i _ b (fun e => hne e.symm) hj hi k (hv k hk) hf
theorem xretM {n : Nat} {R : Nat → Value} {fn : Func} {K : Value → World → Prop} {D : Nat} {e : Exit} (h : Now w0 F w L) (he : e = .ret ∨ e = .normal) (i : Nat) (hi : L[i]? = some (.obj D (.deferred (some []))))
    (hk : ∀ w', Now w0 F w' (L.set i (.obj D (.deferred none))) → ∃ v, RV P fn n R w' v ∧ K v w') : endX P fn n K e (mark D) R w :=
  ⟨he, .inr ⟨D, rfl, h.says i _ hi, hk _ (h.putObj i _ hi)⟩⟩
end
inductive Run {σ ε π : Type} (T : σ → ε → Bool → σ → Prop) (p : ε → π) (s0 : σ) : List π → σ → Prop
  | nil : Run T p s0 [] s0
  | snoc {pre : List π} {s s' : σ} {x : ε} : Run T p s0 pre s → T s x true s' → Run T p s0 (pre ++ [p x]) s'
def Stop {σ ε π : Type} (T : σ → ε → Bool → σ → Prop) (p : ε → π) (s0 : σ) (xs : List π) (s' : σ) : Prop := ∃ pre x post s, Run T p s0 pre s ∧ xs = pre ++ p x :: post ∧ T s x false s'
def YSpec {σ ε π : Type} (P : Program) (l : Nat) (C : Bool → σ → Atom) (T : σ → ε → Bool → σ → Prop) (p : ε → π) (s0 : σ) (xs : List π) (Rd : (Nat → Prop) → ε → World → Prop) (enc : ε → Array Value) : Prop :=
  ∀ s x pre post w, Run T p s0 pre s → xs = pre ++ p x :: post → Now w (foots [C true s]) w [C true s] → Rd (foots [C true s]) x w →
    YGives P l (enc x) w fun v w' => ∃ b s', v = .bool b ∧ T s x b s' ∧ Now w (foots [C true s]) w' [C b s']
def setL (R : Nat → Value) : List (Tmp × Value) → Nat → Value
  | [] => R
  | (t, v) :: l => setL (upd R t v) l
theorem AtX.setL {ds : List Deferred} {n : Nat} : ∀ (l : List (Tmp × Value)) {R : Nat → Value} {tmps : Array Value}, (∀ x ∈ l, x.1 < n) → AtX ds n R ⟨tmps, ds⟩ →
    AtX ds n (Rl.setL R l) ⟨l.foldl (fun ts x => ts.setIfInBounds x.1 x.2) tmps, ds⟩ := by
  intro l
  induction l with
  | nil => exact fun _ h => h
  | cons x l ih =>
    intro R tmps hl h
    have := h.put (dst := some x.1) (by simpa [dstOk] using hl x (by simp)) x.2
    exact ih (fun y hy => hl y (List.mem_cons_of_mem _ hy)) this
section
variable {P : Program} {ro : Option Nat} {n : Nat} {Q : XPost} {R : Nat → Value} {w0 w : World} {F : Nat → Prop} {L M : List Atom}
def roundQ {σ : Type} (T : Bool → σ → Prop) (FF : Nat → Prop) (l D : Nat) (rc : LoopState → Option Code → Loop) (S : σ → List Atom) (w : World) : XPost := fun e ds R w' =>
  (e = .normal ∧ ∃ s', T true s' ∧ Now w FF w' (.obj l (.loop (rc .busy none)) :: .obj D (.deferred (some [])) :: S s')) ∨
  (e = .ret ∧ ∃ s', T false s' ∧ Now w FF w' (.obj l (.loop (rc .busy none)) :: .obj D (.deferred (some [])) :: S s'))
def assignQ (P : Program) (l n : Nat) (body : Code) (Qb : XPost) (FF : Nat → Prop) (L0 : List Atom) (w : World) : XPost := fun e ds R w' => e = .normal ∧ ds = [] ∧ w' = w ∧ ∀ w2, Now w FF w2 L0 → XW P (some l) n body Qb [] R w2
theorem assignQi {l : Nat} {body : Code} {Qb : XPost} {FF : Nat → Prop} {L0 : List Atom} (h : ∀ w2, Now w FF w2 L0 → XW P (some l) n body Qb [] R w2) : assignQ P l n body Qb FF L0 w .normal [] R w := ⟨rfl, rfl, rfl, h⟩
theorem roundQn {σ : Type} {T : Bool → σ → Prop} {FF : Nat → Prop} {l D : Nat} {rc : LoopState → Option Code → Loop} {S : σ → List Atom} {w w' : World} {ds : List Deferred} (s' : σ) (hT : T true s') (h : Now w FF w' (.obj l (.loop (rc .busy none)) :: .obj D (.deferred (some [])) :: S s')) : roundQ T FF l D rc S w .normal ds R w' := .inl ⟨rfl, s', hT, h⟩
theorem XW.rangeG {σ ε π : Type} {g : Operand} {ps : Array Tmp} {asg body : Code} {gf : FuncId} {fn : Func} {lb : Array Value} {p : ε → π} {enc : ε → Array Value} {Rd : (Nat → Prop) → ε → World → Prop} {xs : List π}
    (S : σ → List Atom) (T : σ → ε → Bool → σ → Prop) (s0 : σ)
    (hN : Now w0 F w (S s0 ++ M)) (hg : ev R g = .func (.func gf) #[] lb) (hf : P.funcs[gf]? = some fn) (hn : (fn.name == "runtime.NumGoroutine") = false) (hb : fn.body.isSome = true)
    (hit : ∀ (l : Nat) (C : Bool → σ → Atom) (w : World), YSpec P l C T p s0 xs Rd enc → Now w0 F w (C true s0 :: M) → Gives P gf (#[.func (.yield l) #[] #[]] ++ lb) w fun _ w' => ∃ s', (Run T p s0 xs s' ∧ Now w0 F w' [C true s']) ∨ (Stop T p s0 xs s' ∧ Now w0 F w' [C false s']))
    (hps : ∀ x, (enc x).size = ps.size) (hlt : ∀ t ∈ ps.toList, t < n)
    (hbody : ∀ (l D : Nat) (rc : LoopState → Option Code → Loop) (FF : Nat → Prop) (s : σ) (x : ε) (pre post : List π) (w : World), Run T p s0 pre s → xs = pre ++ p x :: post → Rd FF x w → Now w FF w (.obj l (.loop (rc .ready none)) :: .obj D (.deferred (some [])) :: S s) →
      XW P (some l) n asg (assignQ P l n body (roundQ (T s x) FF l D rc S w) FF (.obj l (.loop (rc .busy none)) :: .obj D (.deferred (some [])) :: S s) w) [] (setL R (ps.toList.zip (enc x).toList)) w)
    (hdone : ∀ (l D : Nat) (o : Obj) (s : σ) (w : World), Run T p s0 xs s → Now w0 F w (.obj l o :: .obj D (.deferred (some [])) :: S s) → Q .normal (mark D) R w)
    (hret : ∀ (l D : Nat) (o : Obj) (s : σ) (w : World), Stop T p s0 xs s → Now w0 F w (.obj l o :: .obj D (.deferred (some [])) :: S s) → Q .ret (mark D) R w) :
    XW P none n (.rangeFunc g ps asg body) Q [] R w := fun a ha => by
  refine wpIn_rangeFunc ?_
  intro fid _
  obtain ⟨rc, hrc⟩ : ∃ rc : LoopState → Option Code → Loop, rc = fun st pe => { state := st, pending := pe, fn := fid, tmps := a.tmps, params := ps, assign := asg, body, defers := w.heap.size } := ⟨_, rfl⟩
  obtain ⟨W1, hW1⟩ : ∃ W1, (w.alloc (.deferred (some []))).alloc (.loop (rc .ready none)) = W1 := ⟨_, rfl⟩
  let O : Bool → Atom := fun b => .obj (w.heap.size + 1) (.loop (bif b then rc .ready none else rc .done (some .ret)))
  let D : Atom := .obj w.heap.size (.deferred (some []))
  let C : Bool → σ → Atom := fun b s => .all (O b :: D :: S s)
  have hN1 : Now w0 F W1 (C true s0 :: M) := by
    have h1 : Now w0 F (w.alloc (.deferred (some []))) (D :: (S s0 ++ M)) := hN.push (Ext.alloc _ _) (World.alloc_heap_new w _) fun k hk => by cases hk; exact ⟨Nat.le_refl _, by simp⟩
    have h2 : Now w0 F W1 (O true :: D :: (S s0 ++ M)) := by
      rw [← hW1]
      refine h1.push (Ext.alloc _ _) ?_ fun k hk => ?_
      · have := World.alloc_heap_new (w.alloc (.deferred (some []))) (.loop (rc .ready none))
        rwa [World.size_alloc] at this
      · cases hk; simp
    exact Now.pack (L := O true :: D :: S s0) h2
  have hnd : (fn.name == "runtime.NumGoroutine") = false := hn
  have hspec : YSpec P (w.heap.size + 1) C T p s0 xs Rd enc := by
    intro s x pre post w1 hrun hxs h1 hrd
    have hF : foots [C true s] = foots (O true :: D :: S s) := foots_all
    have h1 : Now w1 (foots [C true s]) w1 (O true :: D :: S s) := h1.un1
    have hl : w1.heap[w.heap.size + 1]? = some (.loop (rc .ready none)) := h1.says 0 _ rfl
    have hy := run_yield (P := P) (args := enc x) hl (by rw [hrc]; exact hps x)
    rw [hrc] at hy
    refine ⟨fid, _, asg, body, hy, roundIn_of_wpIn trivial ?_⟩
    have hb1 := hbody (w.heap.size + 1) w.heap.size rc _ s x pre post w1 hrun hxs hrd h1
    have hat : AtX [] n (setL R (ps.toList.zip (enc x).toList)) ⟨(ps.zip (enc x)).foldl (fun tmps (t, a) => tmps.setIfInBounds t a) a.tmps, []⟩ := by
      have := AtX.setL (ds := []) (n := n) (ps.toList.zip (enc x).toList) (R := R) (tmps := a.tmps) (fun y hy => hlt _ (List.of_mem_zip hy).1) ⟨ha.size, ha.regs, rfl⟩
      rw [← Array.foldl_toList, Array.toList_zip]
      exact this
    refine wpIn_mono (hb1 _ hat) ?_
    rintro e a1 w2 ⟨R1, ds1, hR1, rfl, rfl, rfl, hgo⟩
    refine ⟨_, run_beginRound hl (by rw [hrc]), ?_⟩
    have h2 : Now w2 (foots [C true s]) (w2.putObj (w.heap.size + 1) (.loop { rc .ready none with state := .busy })) (.obj (w.heap.size + 1) (.loop { rc .ready none with state := .busy }) :: D :: S s) := h1.putObj 0 _ rfl
    have eb : ({ rc .ready none with state := .busy } : Loop) = rc .busy none := by rw [hrc]
    rw [eb] at h2 ⊢
    refine wpIn_mono (hgo _ h2 a1 hR1) ?_
    have fin : ∀ (b : Bool) (s' : σ) (w3 : World), T s x b s' → Now w2 (foots [C true s]) w3 (.obj (w.heap.size + 1) (.loop (rc .busy none)) :: .obj w.heap.size (.deferred (some [])) :: S s') →
        ∃ v w', (Instr.endRound (w.heap.size + 1) (bif b then none else some .ret)).run P w3 = .ok v w' ∧ ∃ u, Ending.returned v = .returned u ∧ ∃ b s', u = .bool b ∧ T s x b s' ∧ Now w2 (foots [C true s]) w' [C b s'] := by
      intro b s' w3 hT h3
      have hl3 : w3.heap[w.heap.size + 1]? = some (.loop (rc .busy none)) := h3.says 0 _ rfl
      refine ⟨_, _, run_endRound _ hl3, _, rfl, b, s', by cases b <;> rfl, hT, ?_⟩
      have h4 := h3.putObj 0 (.loop { rc .busy none with state := if (bif b then none else some Code.ret : Option Code).isNone then .ready else .done, pending := bif b then none else some .ret }) rfl
      have e4 : ({ rc .busy none with state := if (bif b then none else some Code.ret : Option Code).isNone then .ready else .done, pending := bif b then none else some .ret } : Loop) = bif b then rc .ready none else rc .done (some .ret) := by
        rw [hrc]; cases b <;> rfl
      rw [e4] at h4 ⊢
      exact Now.all1 (L := O b :: D :: S s') h4
    rintro e a2 w3 ⟨R3, ds3, _, ⟨rfl, s', hT, h3⟩ | ⟨rfl, s', hT, h3⟩⟩
    · exact fin true s' w3 hT h3
    · exact fin false s' w3 hT h3
  refine ⟨w.heap.size + 1, mark w.heap.size, W1, { target := .fn (.func gf) lb, args := #[.func (.yield (w.heap.size + 1)) #[] #[]] }, W1, gf, #[.func (.yield (w.heap.size + 1)) #[] #[]] ++ lb, W1, ?_, ?_, fun _ _ => trivial, ?_, fun e => (by cases e), ?_⟩
  · rw [← hW1, hrc]; exact run_enterLoop_outer _ _ _ _ _
  · have hg' : a.eval g = .func (.func gf) #[] lb := by rw [ha.eval]; exact hg
    simp only [resolve, hg']
    simp [go_sem]
  · have := run_callFunc (P := P) (w := W1) (#[.func (.yield (w.heap.size + 1)) #[] #[]] ++ lb) hf hnd hb
    simpa [invoke] using this
  · refine CallsIn.mono (calls_x (hit (w.heap.size + 1) C W1 hspec hN1)) ?_
    rintro e w2 ⟨v, rfl, s', ⟨hrun, h2⟩ | ⟨hrun, h2⟩⟩
    · have h3 : Now w0 F w2 (O true :: D :: S s') := h2.un1
      have hl : w2.heap[w.heap.size + 1]? = some (.loop (rc .ready none)) := h3.says 0 _ rfl
      have hend : (Instr.endLoop (w.heap.size + 1)).run P w2 = .ok (none) (w2.putObj (w.heap.size + 1) (.loop { rc .ready none with state := .exhausted })) := by
        have := run_endLoop (P := P) hl (by rw [hrc]; simp)
        rw [hrc] at this ⊢; exact this
      refine ⟨none, _, hend, ?_⟩
      refine ⟨R, mark w.heap.size, ⟨ha.size, ha.regs, by simp [ha.defs]⟩, ?_⟩
      exact hdone _ _ _ s' _ hrun (h3.putObj 0 _ rfl)
    · have h3 : Now w0 F w2 (O false :: D :: S s') := h2.un1
      have hl : w2.heap[w.heap.size + 1]? = some (.loop (rc .done (some .ret))) := h3.says 0 _ rfl
      have hend : (Instr.endLoop (w.heap.size + 1)).run P w2 = .ok (some .ret) (w2.putObj (w.heap.size + 1) (.loop { rc .done (some .ret) with state := .exhausted })) := by
        have := run_endLoop (P := P) hl (by rw [hrc]; simp)
        rw [hrc] at this ⊢; exact this
      refine ⟨some .ret, _, hend, ?_⟩
      refine wpIn_ret ⟨R, mark w.heap.size, ⟨ha.size, ha.regs, by simp [ha.defs]⟩, ?_⟩
      exact hret _ _ _ s' _ hrun (h3.putObj 0 _ rfl)
end
end Go.Rl
set_option linter.unusedVariables false
set_option linter.unusedSimpArgs false
namespace Go.Rl
def stQ (n : Nat) (ops : Array Oper) (i : Nat) : Bool := match ops[i]? with
  | some o => dstOk n o.dst && (match o.guard with
    | none => true
    | some (j, _) => match (ops[j]?).bind (·.dst) with
      | some d => decide (d < n)
      | none => false)
  | none => false
def okQ (n : Nat) (ops : Array Oper) (e : Nat) : List (Nat × Nat) → Array Bool → Bool
  | [], _ => true
  | (i, k) :: r, listed => stQ n ops i && (match k with
    | 0 => Region.free .any ops listed i && (Region.ready .any ops listed).contains i && !(i == e) && waits ops e i
    | 1 => Region.ready .any ops listed == [i]
    | _ => Region.ready .any ops listed == [i] && i == e) && okQ n ops e r (listed.setIfInBounds i true)
def RQ (P : Program) (n : Nat) (ops : Array Oper) (Q : Post) (S : World → Prop) (e fuel : Nat) (st : List (Nat × Nat)) (listed : Array Bool) (R : Nat → Value) (w : World) : Prop :=
  okQ n ops e st listed = true → Region.noSelect ops = true → NoP Q → S w → RE P n ops Q S e fuel listed R w
section
variable {P : Program} {n : Nat} {Q : Post} {R : Nat → Value} {w : World} {ops : Array Oper} {S : World → Prop} {e fuel i k : Nat} {st : List (Nat × Nat)} {listed : Array Bool} {o : Oper} {v : Value}
theorem ok_head (h : okQ n ops e ((i, k) :: st) listed = true) : stQ n ops i = true ∧ okQ n ops e st (listed.setIfInBounds i true) = true := by
  simp only [okQ, Bool.and_eq_true] at h
  exact ⟨h.1.1, h.2⟩
theorem ok_take (h : okQ n ops e ((i, 0) :: st) listed = true) : Region.free .any ops listed i = true ∧ (Region.ready .any ops listed).contains i = true ∧ i ≠ e ∧ waits ops e i = true := by
  simp only [okQ, Bool.and_eq_true, Bool.not_eq_true', beq_eq_false_iff_ne] at h
  exact ⟨h.1.2.1.1.1, h.1.2.1.1.2, h.1.2.1.2, h.1.2.2⟩
theorem ok_only (h : okQ n ops e ((i, 1) :: st) listed = true) : Region.ready .any ops listed = [i] := by
  simp only [okQ, Bool.and_eq_true, beq_iff_eq] at h
  exact h.1.2
theorem ok_last (h : okQ n ops e ((i, 2) :: st) listed = true) : Region.ready .any ops listed = [i] ∧ i = e := by
  simp only [okQ, Bool.and_eq_true, beq_iff_eq] at h
  exact h.1.2
theorem st_dst (h : stQ n ops i = true) (hi : ops[i]? = some o) : dstOk n o.dst = true := by
  unfold stQ at h
  rw [hi] at h
  simp only [Bool.and_eq_true] at h
  exact h.1
theorem st_guard {j d : Nat} {b : Bool} (h : stQ n ops i = true) (hi : ops[i]? = some o) (hg : o.guard = some (j, b)) (hj : (ops[j]?).bind (·.dst) = some d) : d < n := by
  unfold stQ at h
  rw [hi] at h
  simp only [hg, hj, Bool.and_eq_true, decide_eq_true_eq] at h
  exact h.2
theorem RE.takeY {i : Nat} {o : Oper} {v : Value} (hi : ops[i]? = some o) (hie : i ≠ e) (hwt : waits ops e i = true) (hs : Region.noSelect ops = true)
    (hf : Region.free .any ops listed i = true) (hr : (Region.ready .any ops listed).contains i = true) (hp : NoP Q) (hd : dstOk n o.dst = true) (hS : S w) (hy : ∀ a, AtR n R a → YieldsIf P ops S o v a)
    (hn : RE P n ops Q S e fuel (listed.setIfInBounds i true) (updO R o.dst v) w) : RE P n ops Q S e (fuel + 1) listed R w := fun a ha =>
  wpAnyE_first hi hie hwt (Region.noSelect_spec hs) (fun c a w => up_panic hp _ _ a w) fuel listed a w (Region.free_spec hi hf) (by simpa using hr) (hy a ha) hS (hn _ (ha.put hd v))
theorem RQ.ev (hi : ops[i]? = some o) (hg : o.guard = none) (h : ∀ w, S w → Ev P o R w v) (hn : RQ P n ops Q S e fuel st (listed.setIfInBounds i true) (updO R o.dst v) w) : RQ P n ops Q S e (fuel + 1) ((i, 0) :: st) listed R w := fun hok hs hp hS => by
  obtain ⟨h1, h2⟩ := ok_head hok
  obtain ⟨g1, g2, g3, g4⟩ := ok_take hok
  exact RE.takeY hi g3 g4 hs g1 g2 hp (st_dst h1 hi) hS (fun a ha => .inl ⟨by simp [Region.wanted, hg], fun w hw => by rw [ha.eval]; exact h w hw⟩) (hn h2 hs hp hS)
theorem RQ.on {j d : Nat} {want : Bool} (hi : ops[i]? = some o) (hg : o.guard = some (j, want)) (hj : (ops[j]?).bind (·.dst) = some d) (hb : R d = .bool want) (h : ∀ w, S w → Ev P o R w v) (hn : RQ P n ops Q S e fuel st (listed.setIfInBounds i true) (updO R o.dst v) w) :
    RQ P n ops Q S e (fuel + 1) ((i, 0) :: st) listed R w := fun hok hs hp hS => by
  obtain ⟨h1, h2⟩ := ok_head hok
  obtain ⟨g1, g2, g3, g4⟩ := ok_take hok
  exact RE.takeY hi g3 g4 hs g1 g2 hp (st_dst h1 hi) hS (fun a ha => .inl ⟨by simp [Region.wanted, hg, yielded_of ha hj (st_guard h1 hi hg hj) hb], fun w hw => by rw [ha.eval]; exact h w hw⟩) (hn h2 hs hp hS)
theorem RQ.skipBy (hi : ops[i]? = some o) (hy : ∀ a, AtR n R a → stQ n ops i = true → Region.wanted o (yielded ops a.tmps) = false) (hn : RQ P n ops Q S e fuel st (listed.setIfInBounds i true) (updO R o.dst undef) w) :
    RQ P n ops Q S e (fuel + 1) ((i, k) :: st) listed R w := fun hok hs hp hS => by
  obtain ⟨h1, h2⟩ := ok_head hok
  have hn := hn h2 hs hp hS
  have go : Region.ready .any ops listed = [i] → RE P n ops Q S e (fuel + 1) listed R w := fun hr a ha => by
    refine ⟨fun h0 => (by rw [hr] at h0; cases h0), fun j hj => ?_⟩
    have : j = i := by rw [hr] at hj; simpa using hj
    subst this
    unfold wpOp
    simp only [hi, hy a ha h1, Bool.false_eq_true, if_false]
    exact ⟨fun _ => hS, hn _ (ha.put (st_dst h1 hi) undef)⟩
  match k, hok with
  | 0, hok =>
    obtain ⟨g1, g2, g3, g4⟩ := ok_take hok
    exact RE.takeY hi g3 g4 hs g1 g2 hp (st_dst h1 hi) hS (fun a ha => .inr ⟨hy a ha h1, rfl⟩) hn
  | 1, hok => exact go (ok_only hok)
  | k + 2, hok =>
    refine go ?_
    simp only [okQ, Bool.and_eq_true, beq_iff_eq] at hok
    exact hok.1.2.1
theorem RQ.off {j d : Nat} {want : Bool} (hi : ops[i]? = some o) (hg : o.guard = some (j, want)) (hj : (ops[j]?).bind (·.dst) = some d) (hb : R d = .bool (!want)) (hn : RQ P n ops Q S e fuel st (listed.setIfInBounds i true) (updO R o.dst undef) w) :
    RQ P n ops Q S e (fuel + 1) ((i, k) :: st) listed R w := RQ.skipBy hi (fun a ha h1 => by cases want <;> simp [Region.wanted, hg, yielded_of ha hj (st_guard h1 hi hg hj) hb]) hn
theorem RQ.offU {j d : Nat} {want : Bool} (hi : ops[i]? = some o) (hg : o.guard = some (j, want)) (hj : (ops[j]?).bind (·.dst) = some d) (hb : R d = undef) (hn : RQ P n ops Q S e fuel st (listed.setIfInBounds i true) (updO R o.dst undef) w) :
    RQ P n ops Q S e (fuel + 1) ((i, k) :: st) listed R w := RQ.skipBy hi (fun a ha h1 => by simp [Region.wanted, hg, yielded_undef ha hj (st_guard h1 hi hg hj) hb]) hn
theorem RQ.do (hi : ops[i]? = some o) (hg : o.guard = none) (h : OpR P o R w (fun v w' => S w' ∧ RQ P n ops Q S e fuel st (listed.setIfInBounds i true) (updO R o.dst v) w')) : RQ P n ops Q S e (fuel + 1) ((i, 1) :: st) listed R w := fun hok hs hp hS a ha => by
  obtain ⟨h1, h2⟩ := ok_head hok
  have hr := ok_only hok
  refine ⟨fun h0 => (by rw [hr] at h0; cases h0), fun j hj => ?_⟩
  have : j = i := by rw [hr] at hj; simpa using hj
  subst this
  unfold wpOp
  simp only [hi, Region.wanted, hg, if_true]
  exact .inl (OpR.wp ha (st_dst h1 hi) h fun v w' hv hat => ⟨fun _ => hv.1, hv.2 h2 hs hp hv.1 _ hat⟩)
theorem RQ.doOn {j d : Nat} {want : Bool} (hi : ops[i]? = some o) (hg : o.guard = some (j, want)) (hj : (ops[j]?).bind (·.dst) = some d) (hb : R d = .bool want)
    (h : OpR P o R w (fun v w' => S w' ∧ RQ P n ops Q S e fuel st (listed.setIfInBounds i true) (updO R o.dst v) w')) : RQ P n ops Q S e (fuel + 1) ((i, 1) :: st) listed R w := fun hok hs hp hS a ha => by
  obtain ⟨h1, h2⟩ := ok_head hok
  have hr := ok_only hok
  refine ⟨fun h0 => (by rw [hr] at h0; cases h0), fun q hq => ?_⟩
  have : q = i := by rw [hr] at hq; simpa using hq
  subst this
  unfold wpOp
  simp only [hi, Region.wanted, hg, yielded_of ha hj (st_guard h1 hi hg hj) hb, beq_self_eq_true, if_true]
  exact .inl (OpR.wp ha (st_dst h1 hi) h fun v w' hv hat => ⟨fun _ => hv.1, hv.2 h2 hs hp hv.1 _ hat⟩)
def RZ (P : Program) (n : Nat) (ops : Array Oper) (Q : Post) (S : World → Prop) (e fuel : Nat) (listed : Array Bool) (R : Nat → Value) (w : World) : Prop := RE P n ops Q S e fuel listed R w
theorem RQ.last (hi : ops[i]? = some o) (hg : o.guard = none) (h : OpR P o R w (fun v w' => RZ P n ops Q S e fuel (listed.setIfInBounds i true) (updO R o.dst v) w')) : RQ P n ops Q S e (fuel + 1) ((i, 2) :: st) listed R w := fun hok hs hp hS a ha => by
  obtain ⟨h1, h2⟩ := ok_head hok
  obtain ⟨hr, rfl⟩ := ok_last hok
  refine ⟨fun h0 => (by rw [hr] at h0; cases h0), fun j hj => ?_⟩
  have : j = i := by rw [hr] at hj; simpa using hj
  subst this
  unfold wpOp
  simp only [hi, Region.wanted, hg, if_true]
  exact .inl (OpR.wp ha (st_dst h1 hi) h fun v w' hv hat => ⟨fun h => absurd rfl h, hv _ hat⟩)
theorem RZ.done (hr : Region.ready .any ops listed = []) (h : Q .normal R w) : RZ P n ops Q S e fuel listed R w := RE.done hr h
theorem RQ.done (hr : Region.ready .any ops listed = []) (h : Q .normal R w) : RQ P n ops Q S e fuel [] listed R w := fun _ _ _ _ => RE.done hr h
theorem RQ.two {i j : Nat} {o o' : Oper} (st st' : List (Nat × Nat)) (hr : Region.ready .any ops listed = [i, j]) (hi : ops[i]? = some o) (hg : o.guard = none) (hj : ops[j]? = some o') (hg' : o'.guard = none)
    (hok : (okQ n ops e st (listed.setIfInBounds i true) && okQ n ops e st' (listed.setIfInBounds j true) && stQ n ops i && stQ n ops j) = true)
    (h : OpR P o R w (fun v w' => S w' ∧ RQ P n ops Q S e fuel st (listed.setIfInBounds i true) (updO R o.dst v) w'))
    (h' : OpR P o' R w (fun v w' => S w' ∧ RQ P n ops Q S e fuel st' (listed.setIfInBounds j true) (updO R o'.dst v) w')) : RQ P n ops Q S e (fuel + 1) [] listed R w := fun _ hs hp hS a ha => by
  simp only [Bool.and_eq_true] at hok
  obtain ⟨⟨⟨h1, h2⟩, h3⟩, h4⟩ := hok
  refine ⟨fun h0 => (by rw [hr] at h0; cases h0), fun q hq => ?_⟩
  rw [hr] at hq
  simp only [List.mem_cons, List.not_mem_nil, or_false] at hq
  rcases hq with rfl | rfl
  · unfold wpOp
    simp only [hi, Region.wanted, hg, if_true]
    exact .inl (OpR.wp ha (st_dst h3 hi) h fun v w' hv hat => ⟨fun _ => hv.1, hv.2 h1 hs hp hv.1 _ hat⟩)
  · unfold wpOp
    simp only [hj, Region.wanted, hg', if_true]
    exact .inl (OpR.wp ha (st_dst h4 hj) h' fun v w' hv hat => ⟨fun _ => hv.1, hv.2 h2 hs hp hv.1 _ hat⟩)
end
section
variable {P : Program} {ro : Option Nat} {n : Nat} {Q : Post} {X : XPost} {R : Nat → Value} {w : World} {ops : Array Oper} {ds : List Deferred} {id : Nat}
theorem RW.drawR (hm : P.follows .mixedOrders = true) (S : World → Prop) (e : Nat) (st : List (Nat × Nat)) (hp : NoP Q) (hok : (okQ n ops e st (Array.replicate ops.size false) && Region.noSelect ops) = true) (hS : S w.drew)
    (h : RQ P n ops Q S e ops.size st (Array.replicate ops.size false) R w.drew) : RW P n (.region id ops true) Q R w := by
  simp only [Bool.and_eq_true] at hok
  exact RW.drawE hm S e (h hok.1 hok.2 hp hS)
theorem XW.drawR (hm : P.follows .mixedOrders = true) (hnd : ops.toList.all notDefer = true) (S : World → Prop) (e : Nat) (st : List (Nat × Nat)) (hok : (okQ n ops e st (Array.replicate ops.size false) && Region.noSelect ops) = true) (hS : S w.drew)
    (h : RQ P n ops (onlyN fun R w => X .normal ds R w) S e ops.size st (Array.replicate ops.size false) R w.drew) : XW P ro n (.region id ops true) X ds R w := by
  simp only [Bool.and_eq_true] at hok
  exact XW.drawE hm hnd S e (h hok.1 hok.2 onlyNP hS)
end
end Go.Rl
set_option linter.unusedVariables false
set_option linter.unusedSimpArgs false
namespace Go.Rl
section
variable {w0 w w' : World} {F : Nat → Prop} {L M R : List Atom} {a a' : Atom}
def Apart (a b : Atom) : Prop := ∀ k, a.foot k → ¬ b.foot k
theorem Apart.symm {a b : Atom} (h : Apart a b) : Apart b a := fun k hb ha => h k ha hb
theorem Now.iff : Now w0 F w L ↔ Mod F w0 w ∧ (∀ a ∈ L, a.says w) ∧ (∀ a ∈ L, ∀ k, a.foot k → (F k ∨ w0.heap.size ≤ k) ∧ k < w.heap.size) ∧ L.Pairwise Apart := by
  constructor
  · intro h
    refine ⟨h.mod, fun a ha => ?_, fun a ha => ?_, ?_⟩
    · obtain ⟨i, hi⟩ := List.getElem?_of_mem ha; exact h.says i a hi
    · obtain ⟨i, hi⟩ := List.getElem?_of_mem ha; exact h.low i a hi
    · rw [List.pairwise_iff_getElem]
      intro i j hi hj hij
      exact h.sep i j _ _ (by omega) (List.getElem?_eq_getElem hi) (List.getElem?_eq_getElem hj)
  · rintro ⟨h1, h2, h3, h4⟩
    rw [List.pairwise_iff_getElem] at h4
    refine ⟨h1, fun i a ha => h2 a (List.mem_of_getElem? ha), fun i a ha => h3 a (List.mem_of_getElem? ha), fun i j a b hij ha hb => ?_⟩
    obtain ⟨hi, rfl⟩ := List.getElem?_eq_some_iff.1 ha
    obtain ⟨hj, rfl⟩ := List.getElem?_eq_some_iff.1 hb
    rcases Nat.lt_or_gt_of_ne hij with h | h
    · exact h4 i j hi hj h
    · exact (h4 j i hj hi h).symm
def Atom.exs (B : Nat → Prop) (Φ : List Atom → Prop) : Atom where
  foot := B
  says w := ∃ L, Φ L ∧ Now w B w L
  keep := by
    rintro w w' hb ⟨L, hΦ, hN⟩
    rw [Now.iff] at hN
    have up : ∀ a ∈ L, ∀ k, a.foot k → B k ∧ k < w.heap.size := fun a ha k hk => ⟨(hN.2.2.1 a ha k hk).1.elim id fun e => absurd (hN.2.2.1 a ha k hk).2 (Nat.not_lt.2 e), (hN.2.2.1 a ha k hk).2⟩
    refine ⟨L, hΦ, Now.iff.2 ⟨Mod.refl _ _, fun a ha => a.keep (fun k hk hlt => hb k (up a ha k hk).1 hlt) (hN.2.1 a ha), fun a ha k hk => ⟨.inl (up a ha k hk).1, ?_⟩, hN.2.2.2⟩⟩
    have h1 := up a ha k hk
    have h2 := hb k h1.1 h1.2
    rw [Array.getElem?_eq_getElem h1.2] at h2
    exact (Array.getElem?_eq_some_iff.1 h2).1
theorem Now.take (h : Now w0 F w (L ++ R)) : Now w (foots L) w L := by
  rw [Now.iff] at h ⊢
  exact ⟨Mod.refl _ _, fun a ha => h.2.1 a (List.mem_append_left _ ha), fun a ha k hk => ⟨.inl ⟨a, ha, hk⟩, (h.2.2.1 a (List.mem_append_left _ ha) k hk).2⟩, (List.pairwise_append.1 h.2.2.2).1⟩
inductive Each {α : Type} (P : α → Atom → Prop) : List α → List Atom → Prop
  | nil : Each P [] []
  | cons {x : α} {a : Atom} {l : List α} {L : List Atom} : P x a → Each P l L → Each P (x :: l) (a :: L)
def Atom.each {α : Type} (P : α → Atom → Prop) (B : Nat → Prop) (l : List α) : Atom := .exs B (Each P l)
variable {α : Type} {P : α → Atom → Prop} {B : Nat → Prop} {l l' : List α} {x : α}
end
end Go.Rl
set_option linter.unusedVariables false
set_option linter.unusedSimpArgs false
namespace Go.Rl
open Go.RowKit
theorem flatMap_get {α β : Type} {cf : α → List β} {s : Nat} (hs : ∀ a, (cf a).length = s) : ∀ {l : List α} {m : Nat} {a : α} {j : Nat}, l[m]? = some a → j < s → (l.flatMap cf)[m * s + j]? = (cf a)[j]? := by
  intro l
  induction l with
  | nil => intro m a j h; simp at h
  | cons x r ih =>
    intro m a j h hj
    cases m with
    | zero => simp at h; subst h; rw [List.flatMap_cons, Nat.zero_mul, Nat.zero_add, List.getElem?_append_left (by rw [hs]; exact hj)]
    | succ m =>
      simp at h
      have e : (m + 1) * s + j = s + (m * s + j) := by rw [Nat.succ_mul]; omega
      rw [List.flatMap_cons, e, List.getElem?_append_right (by rw [hs]; omega), hs, Nat.add_sub_cancel_left, ih h hj]
theorem flatMap_len {α β : Type} {cf : α → List β} {s : Nat} (hs : ∀ a, (cf a).length = s) (l : List α) : (l.flatMap cf).length = l.length * s := by
  induction l with
  | nil => simp
  | cons x r ih => rw [List.flatMap_cons, List.length_append, hs, ih, List.length_cons, Nat.succ_mul]; omega
section
variable {α : Type} {cf : α → List Value} {s : Nat}
def Sm (cf : α → List Value) (w : World) (v : Value) (l : List α) : Prop := ∃ A c, v = .slice A l.length c ∧ l.length ≤ c ∧ c ≤ maxLen ∧ Cells w A (l.flatMap cf)
theorem Sm.nil (cf : α → List Value) (w : World) : Sm cf w (.slice none 0 0) [] := ⟨none, 0, rfl, Nat.le_refl _, by unfold maxLen; omega, Cells.nil _ _⟩
theorem Sm.mod {M : Nat → Prop} {w w' : World} {v : Value} {l : List α} (h : Sm cf w v l) (hm : Mod M w w') (hb : ∀ k, v.ownBlock = some k → ¬ M k) : Sm cf w' v l := by
  obtain ⟨A, c, rfl, h1, h2, hc⟩ := h
  refine ⟨A, c, rfl, h1, h2, hc.mod hm ?_⟩
  rintro ad rfl
  exact hb _ rfl
theorem Sm.ext {w w' : World} {v : Value} {l : List α} (h : Sm cf w v l) (hm : Ext w w') : Sm cf w' v l := h.mod hm (fun _ _ e => e)
theorem Sm.off {M : Nat → Prop} {w w' : World} {v : Value} {l : List α} (h : Sm cf w v l) (ho : Off M v l) (hm : Mod M w w') : Sm cf w' v l := by
  by_cases hl : l = []
  · subst hl
    obtain ⟨A, c, h1, h2, h3, h4⟩ := h
    exact ⟨A, c, h1, h2, h3, Cells.nil _ _⟩
  · exact h.mod hm (ho hl)
theorem Sm.len_le {w : World} {v : Value} {l : List α} (h : Sm cf w v l) : l.length ≤ 9223372036854775807 := by
  obtain ⟨A, c, rfl, h1, h2, _⟩ := h; unfold maxLen at h2; omega
theorem Sm.lt {w : World} {v : Value} {l : List α} (h : Sm cf w v l) (hs : ∀ a, cf a ≠ []) (hl : l ≠ []) : ∀ k, v.ownBlock = some k → k < w.heap.size := by
  obtain ⟨A, c, rfl, h1, h2, hc⟩ := h
  intro k hk
  cases l with
  | nil => exact absurd rfl hl
  | cons x xs =>
    cases hx : cf x with
    | nil => exact absurd hx (hs x)
    | cons u us =>
      obtain ⟨ad, rfl, hu⟩ := hc 0 u (by simp [hx])
      have := block_lt_of_cell hu
      rw [block_add] at this
      simp [Value.ownBlock] at hk
      omega
theorem Sm.cells1 {w : World} {v : Value} {l : List α} (h : Sm cf w v l) : v.cells = #[v] := by obtain ⟨A, c, rfl, _⟩ := h; rfl
theorem Sm.one1 {w : World} {v : Value} {l : List α} (h : Sm cf w v l) : v.oneCell' = true := by obtain ⟨A, c, rfl, _⟩ := h; rfl
theorem Sm.hd {w : World} {v : Value} {l : List α} (h : Sm cf w v l) : ∃ a : Hd, v = vh a := by obtain ⟨A, c, rfl, _⟩ := h; exact ⟨(A, l.length, c), rfl⟩
def OwnM (cf : α → List Value) (s : Nat) (E : TypeId) (w : World) (base : Nat) (v : Value) (l : List α) : Prop := w.ownsRow base E s v l.length (l.flatMap cf)
theorem OwnM.nil (cf : α → List Value) (s : Nat) (E : TypeId) (w : World) (base : Nat) : OwnM cf s E w base (.slice none 0 0) [] := World.ownsRow_nil _ _ _ _
theorem OwnM.sm {E : TypeId} {w : World} {base : Nat} {v : Value} {l : List α} (h : OwnM cf s E w base v l) : Sm cf w v l := by
  rcases h.2 with ⟨rfl, h0⟩ | ⟨g, cap, cur, rfl, hb, hh, h1, h2, h3, h4⟩
  · have : l = [] := List.eq_nil_of_length_eq_zero h0
    subst this
    exact Sm.nil _ _
  · refine ⟨_, cap, rfl, h1, h2, fun j v hv => ⟨_, rfl, ?_⟩⟩
    exact World.ownsRow.cells h (g := g) rfl j v hv
theorem OwnM.mod {E : TypeId} {M : Nat → Prop} {w w' : World} {base : Nat} {v : Value} {l : List α} (h : OwnM cf s E w base v l) (hm : Mod M w w') (hb : ∀ k, v.ownBlock = some k → ¬ M k) : OwnM cf s E w' base v l := by
  unfold OwnM World.ownsRow at *
  refine ⟨h.1, h.2.imp id ?_⟩
  rintro ⟨g, cap, cur, rfl, hb', hh, hr⟩
  exact ⟨g, cap, cur, rfl, hb', hm.heap hh (hb g rfl), hr⟩
theorem OwnM.lt {E : TypeId} {w : World} {base : Nat} {v : Value} {l : List α} (h : OwnM cf s E w base v l) : ∀ k, v.ownBlock = some k → base ≤ k ∧ k < w.heap.size := World.ownsRow.lt h
theorem OwnM.lower {E : TypeId} {w : World} {base base' : Nat} {v : Value} {l : List α} (h : OwnM cf s E w base v l) (hb : base' ≤ base) : OwnM cf s E w base' v l := by
  unfold OwnM World.ownsRow at *
  refine ⟨h.1, h.2.imp id ?_⟩
  rintro ⟨g, cap, cur, rfl, hb', hr⟩
  exact ⟨g, cap, cur, rfl, Nat.le_trans hb hb', hr⟩
theorem OwnM.lift {E : TypeId} {w : World} {v : Value} {l : List α} {base base' : Nat} (h : OwnM cf s E w base v l) (hb : ∀ k, v.ownBlock = some k → base' ≤ k) : OwnM cf s E w base' v l := by
  unfold OwnM World.ownsRow at *
  refine ⟨h.1, h.2.imp id ?_⟩
  rintro ⟨g, cap, cur, rfl, _, hr⟩
  exact ⟨g, cap, cur, rfl, hb g rfl, hr⟩
def Atom.ownm (cf : α → List Value) (s : Nat) (E : TypeId) (v : Value) (l : List α) : Atom where
  foot k := v.ownBlock = some k
  says w := OwnM cf s E w 0 v l
  keep := by
    intro w w' h hs
    unfold OwnM World.ownsRow at *
    refine ⟨hs.1, hs.2.imp id ?_⟩
    rintro ⟨g, cap, cur, rfl, hb', hh, hr⟩
    exact ⟨g, cap, cur, rfl, hb', (h g rfl (Array.getElem?_eq_some_iff.1 hh).1).trans hh, hr⟩
end
section
variable {P : Program} {n : Nat} {Q : Post} {R : Nat → Value} {w0 w : World} {F : Nat → Prop} {L : List Atom} {K : Value → World → Prop} {dst : Option Tmp} {ty : TypeId} {pos : String} {af : Array Edge} {gd : Option (Nat × Bool)}
universe u
variable {α : Type} {cf : α → List Value} {s : Nat}
theorem set_self {α : Type u} {l : List α} {i : Nat} {a : α} (h : l[i]? = some a) : l.set i a = l := by
  obtain ⟨hi, rfl⟩ := List.getElem?_eq_some_iff.1 h
  exact List.set_getElem_self hi
theorem Now.ownm (h : Now w0 F w L) (i : Nat) {E : TypeId} {v : Value} {l : List α} (hi : L[i]? = some (.ownm cf s E v l)) : OwnM cf s E w 0 v l := h.says i _ hi
theorem Now.sm (h : Now w0 F w L) (i : Nat) {E : TypeId} {v : Value} {l : List α} (hi : L[i]? = some (.ownm cf s E v l)) : Sm cf w v l := (h.ownm i hi).sm
theorem Now.ownmOut (h : Now w0 none_ w L) (i : Nat) {E : TypeId} {v : Value} {l : List α} (hi : L[i]? = some (.ownm cf s E v l)) : OwnM cf s E w w0.heap.size v l :=
  (h.ownm i hi).lift fun k hk => (h.low i _ hi k hk).1.elim (fun e => e.elim) id
theorem Now.addNilM (h : Now w0 F w L) (cf : α → List Value) (s : Nat) (E : TypeId) : Now w0 F w (.ownm cf s E (.slice none 0 0) [] :: L) :=
  h.add (OwnM.nil _ _ _ _ _) (fun k hk => by cases hk) (fun _ _ _ _ _ hk => by cases hk)
theorem Now.pushOwnM (h : Now w0 F w L) {w' : World} {E : TypeId} {v : Value} {l : List α} (ho : OwnM cf s E w' w.heap.size v l) (he : Ext w w') : Now w0 F w' (.ownm cf s E v l :: L) :=
  h.push he (ho.lower (Nat.zero_le _)) (fun k hk => ho.lt k hk)
theorem Now.relistM {E : TypeId} {v : Value} {l m : List α} (h : Now w0 F w L) (i : Nat) (hi : L[i]? = some (.ownm cf s E v l)) (e : l = m) : Now w0 F w (L.set i (.ownm cf s E v m)) := by
  subst e
  rw [set_self hi]; exact h
theorem ev_lenM {t : TypeId} {x : Operand} {v : Value} {l : List α} {e : TypeId} (ht : P.underlying t = some (.slice e)) (hs : Sm cf w v l) (hx : ev R x = v) :
    Ev P ⟨dst, .call ⟨.builtin .len, #[x], #[t]⟩, ty, pos, af, gd⟩ R w (.int .i64 l.length) := by
  obtain ⟨A, c, rfl, _⟩ := hs
  exact ev_len ht hx
theorem Sm.at (hcf : ∀ a, (cf a).length = s) {v : Value} {l : List α} {m j : Nat} {a : α} {u : Value} (h : Sm cf w v l) (hm : l[m]? = some a) (hj : (cf a)[j]? = some u) :
    ∃ ad c, v = .slice (some ad) l.length c ∧ elemAddr v (m * s + j) = .pointer (some (ad.add (m * s + j))) ∧ w.cell? (ad.add (m * s + j)) = some u := by
  obtain ⟨A, c, rfl, h1, h2, hc⟩ := h
  have hjs : j < s := by rw [← hcf a]; exact (List.getElem?_eq_some_iff.1 hj).1
  obtain ⟨ad, rfl, hcell⟩ := hc (m * s + j) u (by rw [flatMap_get hcf hm hjs, hj])
  exact ⟨ad, c, rfl, rfl, hcell⟩
theorem ev_indexM {t e : TypeId} {x i : Operand} {v : Value} {l : List α} {k : IntKind} {m : Int} (ht : P.underlying t = some (.slice e)) (hsz : (P.info? e).map (·.size) = some s) (hcf : ∀ a, (cf a).length = s) (hpos : 0 < s)
    (hs : Sm cf w v l) (hx : ev R x = v) (hi : ev R i = .int k m) (h0 : 0 ≤ m) (h1 : m < l.length) : Ev P ⟨dst, .indexAddr t x i, ty, pos, af, gd⟩ R w (elemAddr v (m.toNat * s)) := by
  have hlt : m.toNat < l.length := by omega
  have hne : ∃ u, (cf l[m.toNat])[0]? = some u := ⟨_, List.getElem?_eq_getElem (by rw [hcf]; exact hpos)⟩
  obtain ⟨u, hu⟩ := hne
  obtain ⟨ad, c, rfl, _, _⟩ := hs.at hcf (List.getElem?_eq_getElem hlt) hu
  have hr : (0 ≤ m ∧ m < (l.length : Int)) := ⟨h0, h1⟩
  have hs0 : s ≠ 0 := by omega
  simp [Ev, elemAddr, execOp, hx, hi, Instr.indexAt, asIntOf, run_underlying ht, hr, size_of (w := w) hsz, hs0]
theorem ev_loadM {t : TypeId} {x : Operand} {v : Value} {l : List α} {m : Nat} {a : α} {d : TypeDesc} (hu : P.underlying t = some d) (hd : d.isRow = true) (hsz : (P.info? t).map (·.size) = some s) (hcf : ∀ a, (cf a).length = s) (hpos : 0 < s)
    (hs : Sm cf w v l) (hx : ev R x = elemAddr v (m * s)) (hm : l[m]? = some a) {cs : List Value} (hcs : cf a = cs) : Ev P ⟨dst, .load t x, ty, pos, af, gd⟩ R w (.agg cs.toArray) := by
  subst hcs
  have hne : ∃ u, (cf a)[0]? = some u := ⟨_, List.getElem?_eq_getElem (by rw [hcf]; exact hpos)⟩
  obtain ⟨u, hu0⟩ := hne
  obtain ⟨ad, c, rfl, he, _⟩ := hs.at hcf hm hu0
  rw [Nat.add_zero] at he
  have key : ∀ j u, (cf a)[j]? = some u → w.cell? ((ad.add (m * s)).add j) = some u := by
    intro j u hj
    obtain ⟨ad', c', h1, _, h3⟩ := hs.at hcf hm hj
    cases h1
    rw [add_add]; exact h3
  have hrow := run_loadCells_list (P := P) (w := w) (ad.add (m * s)) (cf a) key
  have hagg : (isAgg t).run P w = .ok true w := by
    unfold isAgg
    rw [Sem.run_bind, run_underlying hu w]
    cases d <;> simp_all [TypeDesc.isRow]
  rw [hcf a] at hrow
  simp [Ev, execOp, hx, he, Instr.loadAt, Instr.sureAddr, loadVar, hagg, size_of (w := w) hsz, hrow]
theorem ev_fieldM {t : TypeId} {x : Operand} {v : Value} {l : List α} {m f : Nat} {a : α} {u : Value} {fs : Array Field} {fd : Field} (ht : P.underlying t = some (.struct fs)) (hf : fs[f]? = some fd) {z : Nat} (hsz : (P.info? fd.type).map (·.size) = some z) (hz : z ≠ 0)
    (hcf : ∀ a, (cf a).length = s) (hs : Sm cf w v l) (hm : l[m]? = some a) (hj : (cf a)[0]? = some u) {b : Nat} (hx : ev R x = elemAddr v (m * s + b)) : Ev P ⟨dst, .fieldAddr t x f, ty, pos, af, gd⟩ R w (elemAddr v (m * s + (b + fd.offset))) := by
  obtain ⟨ad, c, rfl, he, _⟩ := hs.at hcf hm hj
  simp [Ev, elemAddr, execOp, hx, Instr.fieldAt, Instr.sureAddr, run_underlying ht, hf, fieldPlace, size_of (w := w) hsz, hz, add_add, Nat.add_assoc]
theorem ev_loadMF {t : TypeId} {x : Operand} {v : Value} {l : List α} {m j : Nat} {a : α} {u : Value} {d : TypeDesc} (ht : P.underlying t = some d) (hd : (match d with | .struct _ | .array _ _ => false | _ => true) = true)
    (hcf : ∀ a, (cf a).length = s) (hs : Sm cf w v l) (hx : ev R x = elemAddr v (m * s + j)) (hm : l[m]? = some a) (hj : (cf a)[j]? = some u) : Ev P ⟨dst, .load t x, ty, pos, af, gd⟩ R w u := by
  obtain ⟨ad, c, rfl, he, hcell⟩ := hs.at hcf hm hj
  rw [he] at hx
  exact ev_load ht hd hx hcell
theorem opN_appendM {t e : TypeId} {x y : Operand} {v u : Value} {l m : List α} {z : Value} {bytes : Nat} (ht : P.underlying t = some (.slice e))
    (hinfo : (P.info? e).map (fun i => (i.zero, i.size, i.bytes)) = some (some z, s, bytes)) (hz : z.cells.size = s) (hpos : 0 < s) (h1 : ∀ a, ∀ u ∈ cf a, u.oneCell' = true) (hcf : ∀ a, (cf a).length = s)
    (hN : Now w0 F w L) (i : Nat) (hi : L[i]? = some (.ownm cf s e v l)) (hx : ev R x = v) (hu : Sm cf w u m) (hy : ev R y = u) (hlen : (l.length + m.length) * bytes ≤ 140737488355328) (hbytes : 0 < bytes)
    (h : ∀ v' w', Now w0 F w' (L.set i (.ownm cf s e v' (l ++ m))) → K v' w') :
    OpR P ⟨dst, .call ⟨.builtin .append, #[x, y], #[t, t]⟩, ty, pos, af, gd⟩ R w K := by
  obtain ⟨A, c, rfl, hlc, hm, hc⟩ := hu
  have hinf : ∃ i, P.info? e = some i ∧ i.zero = some z ∧ i.size = s ∧ i.bytes = bytes := by
    cases hq : P.info? e with
    | none => simp [hq] at hinfo
    | some i => simp [hq] at hinfo; exact ⟨i, rfl, hinfo⟩
  obtain ⟨j, hj, hi1, hi2, hi3⟩ := hinf
  have hown := hN.ownm i hi
  have hbig : l.length + m.length ≤ maxLen := by
    unfold maxLen
    have : (l.length + m.length) * 1 ≤ (l.length + m.length) * bytes := Nat.mul_le_mul_left _ hbytes
    omega
  have hall : ∀ u ∈ m.flatMap cf, u.oneCell' = true := fun u hu => by
    obtain ⟨a, _, hu⟩ := List.mem_flatMap.1 hu
    exact h1 a u hu
  cases A with
  | some ad =>
    obtain ⟨v', w', hrun, hown', hgrow, _, hblk⟩ := run_append_own_at (P := P) (w := w) 0 t ty e j z s bytes ht hj hi1 hi2 hi3 hz hpos v l.length (l.flatMap cf) hown ad m.length c (m.flatMap cf) (flatMap_len hcf m)
      (fun j u hj => by obtain ⟨ad', h', hcell⟩ := hc j u hj; cases h'; exact hcell) hall hbig hlen (Nat.zero_le _)
    have ho : OwnM cf s e w' 0 v' (l ++ m) := by unfold OwnM; rw [List.flatMap_append, List.length_append]; exact hown'
    refine OpR.value (v := v') (w' := w') ?_ (h v' w' (hN.upd i hi (Mod.of_grown hgrow) ho fun k hk' => ?_))
    · simp [execOp, resolve, invoke, builtin, hx, hy, hrun]
    · have hlt := (ho.lt k hk').2
      refine ⟨?_, hlt⟩
      rcases hblk with e | e
      · exact .inl (e.symm.trans hk')
      · exact .inr (Nat.le_of_eq (Option.some.inj (e.symm.trans hk')))
  | none =>
    have hm0 : m = [] := by
      cases m with
      | nil => rfl
      | cons a r =>
        have hne : ∃ u, (cf a)[0]? = some u := ⟨_, List.getElem?_eq_getElem (by rw [hcf]; exact hpos)⟩
        obtain ⟨u, hu0⟩ := hne
        obtain ⟨ad, h', _⟩ := hc 0 u (by
          have := flatMap_get hcf (l := a :: r) (m := 0) (a := a) (j := 0) rfl hpos
          simp only [Nat.zero_mul, Nat.zero_add] at this
          rw [this, hu0])
        cases h'
    subst hm0
    have hrun : (Builtin.append_ #[t, t] ty #[v, .slice none 0 c]).run P w = .ok v w := by
      obtain ⟨A', c', rfl, hl', hm', _⟩ := hown.sm
      have hle : l.length ≤ c' := hl'
      cases A' <;> simp [Builtin.append_, run_underlying ht, sizeOf, typeInfo, hj, hi2, Builtin.lenOf, Builtin.firstCells, hle, storeCells]
    have hset : L.set i (.ownm cf s e v (l ++ [])) = L := by rw [List.append_nil]; exact set_self hi
    refine OpR.value (v := v) (w' := w) ?_ (h v w (by rw [hset]; exact hN))
    simp only [List.length_nil] at hy
    simp [execOp, resolve, invoke, builtin, hx, hy, hrun]
theorem opN_litM {t e : TypeId} {len : Nat} {parts : Array (Nat × Operand)} {pl : List (Nat × Operand)} {ps : List (Nat × Value)} {z : Value} {zc : List Value} {l : List α} (ht : P.underlying t = some (.slice e))
    {bytes : Nat} (hinfo : (P.info? e).map (fun i => (i.zero, i.size, i.bytes)) = some (some z, s, bytes)) (hzc : (Array.range (len * s)).map (z.cells[· % z.cells.size]!) = zc.toArray) (hp : parts.toList = pl) (hps : (pl.map fun (i, x) => (i, ev R x)) = ps)
    (hf : Instr.fill (fun i => some (i * s, s)) zc.toArray ps = some (l.flatMap cf).toArray) (hcf : ∀ a, (cf a).length = s) (hlen : len = l.length) (hpos : 0 < len) (hs0 : 0 < s) (hsmall : len * s ≤ 2 ^ 24) (hN : Now w0 F w L)
    (h : ∀ g w', Now w0 F w' (.ownm cf s e (.slice (some ⟨g, 0, none⟩) len len) l :: L) → K (.slice (some ⟨g, 0, none⟩) len len) w') :
    OpR P ⟨dst, .buildSlice t len parts, ty, pos, af, gd⟩ R w K := by
  cases hie : P.info? e with
  | none => simp [hie] at hinfo
  | some ie =>
    simp only [hie, Option.map_some, Option.some.injEq, Prod.mk.injEq] at hinfo
    obtain ⟨hzz, hsz, _⟩ := hinfo
    have hpe : (parts.map fun (i, x) => (i, ev R x)).toList = ps := by rw [Array.toList_map, hp, ← hps]
    have hf' : Instr.fill (fun i => some (i * ie.size, ie.size)) ((Array.range (len * ie.size)).map (z.cells[· % z.cells.size]!)) (parts.map fun (i, x) => (i, ev R x)).toList = some (l.flatMap cf).toArray := by
      rw [hpe, hsz, hzc]; exact hf
    have hpos2 : 0 < len * s := Nat.mul_pos hpos hs0
    have hrun := run_buildSlice (P := P) w t e len (parts.map fun (i, x) => (i, ev R x)) _ ie z ht hie hzz (by rw [hsz]; omega) (by rw [hsz]; omega) hf'
    have hle : len ≤ len * s := Nat.le_mul_of_pos_right _ hs0
    have ho : OwnM cf s e (w.alloc (.cells (l.flatMap cf).toArray e)) w.heap.size (.slice (some ⟨w.heap.size, 0, none⟩) len len) l := by
      unfold OwnM
      subst hlen
      have hfl := flatMap_len hcf l
      refine ⟨by rw [hfl], .inr ⟨w.heap.size, l.length, (l.flatMap cf).toArray, rfl, Nat.le_refl _, ?_, Nat.le_refl _, by unfold maxLen; omega, by simp [hfl], ?_⟩⟩
      · rw [heap_alloc_new]
      · rw [List.take_of_length_le (by simp [hfl])]
    refine OpR.value (v := .slice (some ⟨w.heap.size, 0, none⟩) len len) (w' := w.alloc (.cells (l.flatMap cf).toArray e)) ?_ (h _ _ (hN.pushOwnM ho (Ext.alloc _ _)))
    simp [execOp, hrun]
end
end Go.Rl
set_option linter.unusedVariables false
set_option linter.unusedSimpArgs false
set_option linter.unusedSectionVars false
namespace Go.Rl
open Go.RowKit Go.ChangeMaps
section
variable {P : Program} {n : Nat} {Q : Post} {R : Nat → Value} {w0 w : World} {F : Nat → Prop} {L : List Atom} {K : Value → World → Prop} {dst : Option Tmp} {ty : TypeId} {pos : String} {af : Array Edge} {gd : Option (Nat × Bool)}
variable {κ : Type} [DecidableEq κ] {ke : κ → Value} {l done left : List (Ent κ)} {clock b : Nat}
end
end Go.Rl
set_option linter.unusedVariables false
set_option linter.unusedSimpArgs false
namespace Go.Rl
open Go.RowKit
section
variable {P : Program} {n : Nat} {Q : Post} {R : Nat → Value} {w0 w : World} {F : Nat → Prop} {L : List Atom} {K : Value → World → Prop} {dst : Option Tmp} {ty : TypeId} {pos : String} {af : Array Edge} {gd : Option (Nat × Bool)}
variable {α : Type} {enc : α → Value}
end
section
variable {P : Program} {w0 w w' : World} {F G : Nat → Prop} {L : List Atom} {α : Type} {enc : α → Value} {cf : α → List Value} {v : Value} {l : List α}
def SlO (F : Nat → Prop) (enc : α → Value) (w : World) (v : Value) (l : List α) : Prop := Sl enc w v l ∧ Off F v l
def SmO (F : Nat → Prop) (cf : α → List Value) (w : World) (v : Value) (l : List α) : Prop := Sm cf w v l ∧ Off F v l
theorem Sl.o (h : Sl enc w v l) : SlO none_ enc w v l := ⟨h, Off.none v l⟩
theorem Sm.o (h : Sm cf w v l) : SmO none_ cf w v l := ⟨h, Off.none v l⟩
theorem SlO.now (h : SlO F enc w0 v l) (hN : Now w0 F w L) : Sl enc w v l := h.1.off h.2 hN.mod
theorem SmO.now (h : SmO F cf w0 v l) (hN : Now w0 F w L) : Sm cf w v l := h.1.off h.2 hN.mod
theorem Now.feet (hN : Now w0 F w L) {k : Nat} (hk : foots L k) : F k ∨ w0.heap.size ≤ k := by
  obtain ⟨a, ha, hk⟩ := hk
  obtain ⟨i, hi⟩ := List.getElem?_of_mem ha
  exact (hN.low i a hi k hk).1
theorem Now.feetLt (hN : Now w0 F w L) {k : Nat} (hk : foots L k) : k < w.heap.size := by
  obtain ⟨a, ha, hk⟩ := hk
  obtain ⟨i, hi⟩ := List.getElem?_of_mem ha
  exact (hN.low i a hi k hk).2
theorem Off.step (hlt : l ≠ [] → ∀ k, v.ownBlock = some k → k < w0.heap.size) (ho : Off F v l) (hN : Now w0 F w L) : Off (foots L) v l := fun hl k hk hf => by
  rcases hN.feet hf with h | h
  · exact ho hl k hk h
  · exact absurd (hlt hl k hk) (Nat.not_lt.2 h)
theorem SlO.step (h : SlO F enc w0 v l) (hN : Now w0 F w L) : SlO (foots L) enc w v l := ⟨h.now hN, h.2.step (fun hl => h.1.lt hl) hN⟩
theorem SmO.step (hcf : ∀ a, cf a ≠ []) (h : SmO F cf w0 v l) (hN : Now w0 F w L) : SmO (foots L) cf w v l := ⟨h.now hN, h.2.step (fun hl => h.1.lt hcf hl) hN⟩
theorem Els.now {hs : List Hd} {ls : List (List α)} (h : Els F enc w0 hs ls) (hN : Now w0 F w L) : Els F enc w hs ls := h.mod hN.mod
theorem Els.step {hs : List Hd} {ls : List (List α)} (h : Els F enc w0 hs ls) (hN : Now w0 F w L) : Els (foots L) enc w hs ls := ⟨h.1, fun i hd l hi hl => SlO.step (h.2 i hd l hi hl) hN⟩
theorem Now.here (hN : Now w0 F w L) : Now w (foots L) w L := by
  have h : Now w0 F w (L ++ []) := by rw [List.append_nil]; exact hN
  exact h.take
theorem Now.back (hN : Now w0 F w L) {M : List Atom} (h : Now w (foots L) w' M) : Now w0 F w' M := by
  have h1 : Now w0 F w (L ++ []) := by rw [List.append_nil]; exact hN
  have := Now.callA (N := []) h1 h
  rwa [List.append_nil] at this
def Or2 (F G : Nat → Prop) : Nat → Prop := fun k => F k ∨ G k
theorem SlO.or {G : Nat → Prop} (h : SlO F enc w v l) (h2 : SlO G enc w v l) : SlO (Or2 F G) enc w v l := ⟨h.1, fun hl k hk hf => hf.elim (h.2 hl k hk) (h2.2 hl k hk)⟩
theorem SmO.or {G : Nat → Prop} (h : SmO F cf w v l) (h2 : SmO G cf w v l) : SmO (Or2 F G) cf w v l := ⟨h.1, fun hl k hk hf => hf.elim (h.2 hl k hk) (h2.2 hl k hk)⟩
theorem Els.or {G : Nat → Prop} {hs : List Hd} {ls : List (List α)} (h : Els F enc w hs ls) (h2 : Els G enc w hs ls) : Els (Or2 F G) enc w hs ls := ⟨h.1, fun i hd l hi hl => SlO.or (h.2 i hd l hi hl) (h2.2 i hd l hi hl)⟩
theorem SlO.less (h : SlO F enc w v l) (hg : ∀ k, k < w.heap.size → G k → F k) : SlO G enc w v l := ⟨h.1, fun hl k hk hG => h.2 hl k hk (hg k (h.1.lt hl k hk) hG)⟩
theorem SlO.ext (h : SlO F enc w v l) (he : Ext w w') : SlO F enc w' v l := ⟨h.1.ext he, h.2⟩
theorem SmO.ext (h : SmO F cf w v l) (he : Ext w w') : SmO F cf w' v l := ⟨h.1.ext he, h.2⟩
theorem SlO.mod (h : SlO F enc w v l) (he : Mod F w w') : SlO F enc w' v l := ⟨h.1.off h.2 he, h.2⟩
theorem SmO.mod (h : SmO F cf w v l) (he : Mod F w w') : SmO F cf w' v l := ⟨h.1.off h.2 he, h.2⟩
theorem Els.less {hs : List Hd} {ls : List (List α)} (h : Els F enc w hs ls) (hg : ∀ k, k < w.heap.size → G k → F k) : Els G enc w hs ls := ⟨h.1, fun i hd l hi hl => SlO.less (h.2 i hd l hi hl) hg⟩
theorem Els.slo {hs : List Hd} {ls : List (List α)} (h : Els F enc w hs ls) {i : Nat} {hd : Hd} {l : List α} (hi : hs[i]? = some hd) (hl : ls[i]? = some l) : SlO F enc w (vh hd) l := h.2 i hd l hi hl
theorem Els.nowN {hs : List Hd} {ls : List (List α)} (h : Els F enc w0 hs ls) (hN : Now w0 F w L) : Els none_ enc w hs ls := (h.step hN).less fun _ _ e => e.elim
end
end Go.Rl
set_option linter.unusedVariables false
namespace Go.Rl
open Go.ChangeShapes Go.WideShapes
def Sh.le (M : Nat) : (s : Sh) → s.ty → Prop
  | .int _, _ => True
  | .bool, _ => True
  | .str, l => List.length (α := UInt8) l ≤ M
  | .sl e, l => List.length (α := e.ty) l ≤ M ∧ ∀ a ∈ (show List e.ty from l), e.le M a
  | .nil, _ => True
  | .cons f r, a => f.le M a.1 ∧ r.le M a.2
def Sh.heavy (P : Program) : Sh → TypeId ⊕ List Field → Bool
  | .int _, _ => true
  | .bool, _ => true
  | .str, _ => true
  | .sl e, .inl t => match P.underlying t with
    | some (.slice te) => decide (1 ≤ P.bytesOf te) && e.heavy P (.inl te)
    | _ => false
  | .sl _, .inr _ => false
  | .nil, _ => true
  | .cons f r, .inl t => match P.underlying t with
    | some (.struct fs) => match fs.toList with
      | fd :: fds => f.heavy P (.inl fd.type) && r.heavy P (.inr fds)
      | _ => false
    | _ => false
  | .cons f r, .inr fds => match fds with
    | fd :: fds => f.heavy P (.inl fd.type) && r.heavy P (.inr fds)
    | _ => false
theorem weightsAll_mem {H : Type} {P : Program} {e : TypeId} {d : DataW H} {z : Nat} : ∀ {l : List (DataW H)}, d ∈ l → z ∈ d.weights P e → z ∈ DataW.weightsAll P e l := by
  intro l
  induction l with
  | nil => intro h _; cases h
  | cons x r ih =>
    intro h hz
    unfold DataW.weightsAll
    rcases List.mem_cons.1 h with rfl | h
    · exact List.mem_append_left _ hz
    · exact List.mem_append_right _ (ih h hz)
section
variable {H : Type} {enc : TypeId × Value → H} {P : Program} {w : World} {base : Nat} {spare : Nat → Bool} {held : Bool}
theorem Sh.open2 (M : Nat) : ∀ (s : Sh),
    (∀ (t : TypeId) (fuel : Nat) (cs : List Value) (x : DataW H × List MemPlace), s.fit P (.inl t) = true → s.heavy P (.inl t) = true → (∀ z ∈ x.1.weights P t, z ≤ M) → DataW.trod enc P w base spare held fuel t cs = some x → ∃ a, s.rd w cs a ∧ s.le M a) ∧
    (∀ (fds : List Field) (off : Nat) (n : Nat) (cs : List Value) (xs : List (DataW H × List MemPlace)), s.fit P (.inr (fds, off)) = true → s.heavy P (.inr fds) = true → (∀ z ∈ DataW.weightsEach P (fds.map (·.type)) (xs.map (·.1)), z ≤ M) → cs.length = off + s.cells → xs.length = fds.length →
      (∀ (i : Nat) (f : Field), fds[i]? = some f → DataW.trod enc P w base spare held n f.type ((cs.drop f.offset).take (P.cellsOf f.type)) = xs[i]?) → ∃ a, s.rd w (cs.drop off) a ∧ s.le M a) := by
  intro s
  induction s with
  | int k =>
    refine ⟨fun t fuel cs x hf hv hw h => ?_, fun _ _ _ _ _ hf => by simp [Sh.fit] at hf⟩
    have ht : P.underlying t = some (.int k) := by
      simp only [Sh.fit] at hf
      split at hf
      · rename_i e; rw [e, of_decide_eq_true hf]
      · cases hf
    obtain ⟨m, rfl, rfl, hw'⟩ := DataW.trod_int ht h
    exact ⟨m, ⟨rfl, hw'⟩, trivial⟩
  | bool =>
    refine ⟨fun t fuel cs x hf hv hw h => ?_, fun _ _ _ _ _ hf => by simp [Sh.fit] at hf⟩
    have ht : P.underlying t = some .bool := by
      simp only [Sh.fit] at hf
      split at hf
      · assumption
      · cases hf
    cases fuel with
    | zero => simp [DataW.trod] at h
    | succ n =>
      unfold DataW.trod at h
      rw [ht] at h
      split at h <;> simp_all
      obtain rfl := h
      exact ⟨_, rfl, trivial⟩
  | str =>
    refine ⟨fun t fuel cs x hf hv hw h => ?_, fun _ _ _ _ _ hf => by simp [Sh.fit] at hf⟩
    have ht : P.underlying t = some .string := by
      simp only [Sh.fit] at hf
      split at hf
      · assumption
      · cases hf
    cases fuel with
    | zero => simp [DataW.trod] at h
    | succ n =>
      unfold DataW.trod at h
      rw [ht] at h
      revert hw
      split at h <;> simp_all
      rename_i s
      obtain ⟨hl, rfl⟩ := h
      intro hw
      refine ⟨s.data.toList, ⟨by rw [← str_of], ?_⟩, ?_⟩
      · simpa using hl
      · exact hw _ (by simp [DataW.weights])
  | sl e ih =>
    refine ⟨fun t fuel cs x hf hv hw h => ?_, fun _ _ _ _ _ hf => by simp [Sh.fit] at hf⟩
    simp only [Sh.fit] at hf
    split at hf
    · rename_i te ht
      simp only [Bool.and_eq_true, beq_iff_eq] at hf
      simp only [Sh.heavy, ht, Bool.and_eq_true, decide_eq_true_eq] at hv
      rcases Deep.open_slice ht h with ⟨rfl, rfl⟩ | ⟨a, len, cap, m, n, D, Pl, rfl, hb, hl, hm, hmm, rfl, hx⟩
      · exact ⟨[], ⟨none, 0, rfl, Nat.le_refl _, by unfold maxLen; omega, fun i a h => by simp at h⟩, Nat.zero_le _, fun a ha => by cases ha⟩
      · simp only [DataW.weights, ht] at hw
        have hlm : len ≤ m := by rw [hmm]; split <;> omega
        have each : ∀ i, i < len → ∃ (a' : e.ty) (cs' : List Value), cs'.length = e.cells ∧ e.rd w cs' a' ∧ (∀ (j : Nat) v, cs'[j]? = some v → w.cell? (a.add (i * e.cells + j)) = some v) ∧ e.le M a' := by
          intro i hi
          obtain ⟨cs', h1, h2⟩ := hx i (by omega)
          obtain ⟨a', h3, h4⟩ := ih.1 te n cs' _ hf.2 hv.2 (fun z hz => hw z (List.mem_cons_of_mem _ (List.mem_append_left _ (weightsAll_mem (List.mem_map.2 ⟨i, List.mem_range.2 hi, rfl⟩) hz)))) h2
          obtain ⟨_, hlen, hc⟩ := World.cells?_some h1
          refine ⟨a', cs', e.rd_len h3, h3, fun j v hj => ?_, h4⟩
          have hjl := (List.getElem?_eq_some_iff.1 hj).1
          have := hc j (by omega)
          rw [Deep.add_add, hf.1] at this
          rw [this, hj]
        have : ∃ l : List e.ty, l.length = len ∧ ∀ (i : Nat) a', l[i]? = some a' → ∃ (cs' : List Value), cs'.length = e.cells ∧ e.rd w cs' a' ∧ (∀ (j : Nat) v, cs'[j]? = some v → w.cell? (a.add (i * e.cells + j)) = some v) ∧ e.le M a' := by
          clear h hx hmm hlm hl hw
          induction len with
          | zero => exact ⟨[], rfl, fun i a' h => by simp at h⟩
          | succ len ihl =>
            obtain ⟨l, hl1, hl2⟩ := ihl (fun i hi => each i (by omega))
            obtain ⟨a', cs', g1, g2, g3, g4⟩ := each len (by omega)
            refine ⟨l ++ [a'], by simp [hl1], fun i b hb => ?_⟩
            rcases Nat.lt_or_ge i l.length with hlt | hge
            · rw [List.getElem?_append_left hlt] at hb; exact hl2 i b hb
            · rw [List.getElem?_append_right hge] at hb
              have hz : i - l.length = 0 := by
                rcases Nat.eq_zero_or_pos (i - l.length) with e' | e'
                · exact e'
                · rw [List.getElem?_eq_none (by simp; omega)] at hb; cases hb
              rw [hz] at hb
              have hil : i = len := by omega
              subst hil
              cases hb
              exact ⟨cs', g1, g2, g3, g4⟩
        obtain ⟨l, hl1, hl2⟩ := this
        subst hl1
        refine ⟨l, ⟨some a, cap, rfl, hl, hm, fun i a' ha' => ?_⟩, ?_⟩
        · obtain ⟨cs', g1, g2, g3, _⟩ := hl2 i a' ha'
          exact ⟨cs', g1, g2, fun j v hj => ⟨a, rfl, g3 j v hj⟩⟩
        · refine ⟨?_, fun a' ha' => ?_⟩
          · have h1 := hw _ (List.mem_cons_self ..)
            rw [List.length_map, List.length_range] at h1
            have h2 : l.length * 1 ≤ (l.length + ((List.range (m - l.length)).map fun j => D (l.length + j)).length) * P.bytesOf te := Nat.mul_le_mul (Nat.le_add_right _ _) hv.1
            omega
          · obtain ⟨i, hi⟩ := List.getElem?_of_mem ha'
            exact (hl2 i a' hi).choose_spec.2.2.2
    · cases hf
  | nil =>
    refine ⟨fun t fuel cs x hf hv hw h => ?_, fun fds off n cs xs hf hv hw hl _ _ => ?_⟩
    · simp only [Sh.fit] at hf
      split at hf
      · rename_i fs ht
        simp only [Bool.and_eq_true, beq_iff_eq] at hf
        obtain ⟨xs, n, _, rfl, hl, _⟩ := DataW.trod_struct ht h
        exact ⟨(), List.eq_nil_of_length_eq_zero (by omega), trivial⟩
      · cases hf
    · exact ⟨(), List.eq_nil_of_length_eq_zero (by simp only [Sh.cells] at hl; simp; omega), trivial⟩
  | cons f r ihf ihr =>
    have body : ∀ (fd : Field) (fds : List Field) (off n : Nat) (cs : List Value) (xs : List (DataW H × List MemPlace)), fd.offset = off → P.cellsOf fd.type = f.cells → f.fit P (.inl fd.type) = true → r.fit P (.inr (fds, off + f.cells)) = true → f.heavy P (.inl fd.type) = true → r.heavy P (.inr fds) = true → (∀ z ∈ DataW.weightsEach P ((fd :: fds).map (·.type)) (xs.map (·.1)), z ≤ M) →
        cs.length = off + (f.cells + r.cells) → xs.length = (fd :: fds).length →
        (∀ (i : Nat) (g : Field), (fd :: fds)[i]? = some g → DataW.trod enc P w base spare held n g.type ((cs.drop g.offset).take (P.cellsOf g.type)) = xs[i]?) → ∃ a, (Sh.cons f r).rd w (cs.drop off) a ∧ (Sh.cons f r).le M a := by
      intro fd fds off n cs xs h1 h2 h3 h4 hv1 hv2 hw h5 h6 h7
      cases xs with
      | nil => simp at h6
      | cons x xs =>
        have hx := h7 0 fd rfl
        simp only [List.getElem?_cons_zero] at hx
        rw [h1, h2] at hx
        simp only [List.map_cons, DataW.weightsEach] at hw
        obtain ⟨a, ha, hma⟩ := ihf.1 fd.type n _ x h3 hv1 (fun z hz => hw z (List.mem_append_left _ hz)) hx
        obtain ⟨b, hb, hmb⟩ := ihr.2 fds (off + f.cells) n cs xs h4 hv2 (fun z hz => hw z (List.mem_append_right _ hz)) (by omega) (by simpa using h6) (fun i g hg => by have := h7 (i + 1) g (by simpa using hg); simpa using this)
        refine ⟨(a, b), ⟨ha, ?_⟩, hma, hmb⟩
        rw [List.drop_drop]; exact hb
    refine ⟨fun t fuel cs x hf hv hw h => ?_, fun fds off n cs xs hf hv hw hl hxl hx => ?_⟩
    · simp only [Sh.fit] at hf
      split at hf
      · rename_i fs ht
        split at hf
        · rename_i fd fds hfs
          simp only [Bool.and_eq_true, beq_iff_eq] at hf
          obtain ⟨⟨⟨⟨h0, h1⟩, h2⟩, h3⟩, h4⟩ := hf
          simp only [Sh.heavy, ht, hfs, Bool.and_eq_true] at hv
          obtain ⟨xs, n, _, rfl, hl, hxs, hx⟩ := DataW.trod_struct ht h
          simp only [DataW.weights, ht, hfs] at hw
          have hfl : fs.size = (fd :: fds).length := by rw [← hfs]; simp
          obtain ⟨a, ha, hm⟩ := body fd fds 0 n cs xs h1 h2 h3 (by simpa using h4) hv.1 hv.2 hw (by omega) (by omega) (fun i g hg => hx i g (by rw [← hfs] at hg; simpa using hg))
          exact ⟨a, by simpa using ha, hm⟩
        · cases hf
      · cases hf
    · simp only [Sh.fit] at hf
      split at hf
      · rename_i fd fds
        simp only [Bool.and_eq_true, beq_iff_eq] at hf
        obtain ⟨⟨⟨h1, h2⟩, h3⟩, h4⟩ := hf
        simp only [Sh.heavy, Bool.and_eq_true] at hv
        exact body fd fds off n cs xs h1 h2 h3 h4 hv.1 hv.2 hw (by simpa [Sh.cells] using hl) hxl hx
      · cases hf
end
theorem open_sh2 {H : Type} {enc : TypeId × Value → H} {P : Program} {W : World} {held : Bool} {t : TypeId} {d : DataW H} {v : Value} {ps : List MemPlace} {s : Sh} {ts : List TypeId} {ds : List (DataW H)} {j : Nat} (hsz : (DataW.weightsEach P ts ds).all (· ≤ reachBytes) = true) (ht : ts[j]? = some t) (hd : ds[j]? = some d)
    (hf : s.fit P (.inl t) = true) (hv : s.heavy P (.inl t) = true) (h : DataW.Trod enc P W 0 (fun _ => true) held t v d ps) : ∃ a : s.ty, s.rd W v.cells.toList a ∧ s.le reachBytes a := by
  obtain ⟨fuel, hh⟩ := h
  have key : ∀ (ts : List TypeId) (ds : List (DataW H)) (j : Nat), ts[j]? = some t → ds[j]? = some d → ∀ z ∈ d.weights P t, z ∈ DataW.weightsEach P ts ds := by
    intro ts
    induction ts with
    | nil => intro ds j h; simp at h
    | cons t' ts ih =>
      intro ds j h1 h2 z hz
      cases ds with
      | nil => simp at h2
      | cons d' ds =>
        unfold DataW.weightsEach
        cases j with
        | zero => simp at h1 h2; subst h1 h2; exact List.mem_append_left _ hz
        | succ j => exact List.mem_append_right _ (ih ds j (by simpa using h1) (by simpa using h2) z hz)
  rw [List.all_eq_true] at hsz
  exact (s.open2 reachBytes).1 t fuel v.cells.toList (d, ps) hf hv (fun z hz => of_decide_eq_true (hsz z (key ts ds j ht hd z hz))) hh
end Go.Rl
