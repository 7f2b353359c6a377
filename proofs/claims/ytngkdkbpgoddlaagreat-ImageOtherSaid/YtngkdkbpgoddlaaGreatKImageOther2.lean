/- The law ImageOther: texts that its row leans on (2). -/
import Derived.Test.YtngkdkbpgoddlaaGreatKImageOther1
set_option linter.unusedVariables false
set_option linter.unusedSimpArgs false
set_option linter.unusedVariables false
set_option linter.unusedSimpArgs false
namespace Go.Rl
open Go.RowKit
section
variable {P : Program} {R : Nat → Value} {w : World} {dst : Option Tmp} {ty : TypeId} {pos : String} {af : Array Edge} {gd : Option (Nat × Bool)}
def EqD (P : Program) (d : Nat) (t : TypeId) (x y : Value) (b : Bool) : Prop := ∀ w, (Op.equalIn d t x y).run P w = .ok b w
def EqF (P : Program) (d : Nat) (xs ys : Array Value) (fs : List Field) (b : Bool) : Prop := ∀ w, (Op.eqFields d xs ys fs).run P w = .ok b w
def PartAt (P : Program) (t : TypeId) (cs : Array Value) (off : Nat) (v : Value) : Prop := ∀ w, (part t cs off).run P w = .ok v w
theorem EqD.int {d : Nat} {t : TypeId} {k : IntKind} {a b : Int} (hu : P.underlying t = some (.int k)) : EqD P (d + 1) t (.int k a) (.int k b) (decide (a = b)) := by
  intro w
  simp only [Op.equalIn, Sem.run_bind, run_underlying hu w, Result.andThen_ok, if_true]
  by_cases h : a = b <;> simp [h]
theorem PartAt.leaf {t : TypeId} {cs : Array Value} {off : Nat} {v : Value} {k : IntKind} (hu : P.underlying t = some (.int k)) (h : cs[off]? = some v) : PartAt P t cs off v := by
  intro w
  have hagg : (isAgg t).run P w = .ok false w := by
    unfold isAgg
    rw [Sem.run_bind, run_underlying hu w]
    simp
  simp [part, Sem.run_bind, hagg, h]
theorem PartAt.agg {t : TypeId} {cs : Array Value} {off z : Nat} {vs : Array Value} {fs : Array Field} (hu : P.underlying t = some (.struct fs)) (hz : (P.info? t).map (·.size) = some z) (h : cs.extract off (off + z) = vs) : PartAt P t cs off (.agg vs) := by
  intro w
  have hagg : (isAgg t).run P w = .ok true w := by
    unfold isAgg
    rw [Sem.run_bind, run_underlying hu w]
    simp
  simp [part, Sem.run_bind, hagg, size_of (w := w) hz, h]
theorem EqF.nil {d : Nat} {xs ys : Array Value} : EqF P d xs ys [] true := fun w => by simp [Op.eqFields]
theorem EqF.cons {d : Nat} {xs ys : Array Value} {f : Field} {fs : List Field} {x y : Value} {b c : Bool} (hn : f.name ≠ "_") (hx : PartAt P f.type xs f.offset x) (hy : PartAt P f.type ys f.offset y) (h : EqD P d f.type x y b) (hr : EqF P d xs ys fs c) : EqF P d xs ys (f :: fs) (b && c) := by
  intro w
  simp only [Op.eqFields, hn, ne_eq, not_false_eq_true, if_true, Sem.run_bind, hx w, hy w, h w, Result.andThen_ok]
  cases b
  · simp
  · simpa using hr w
theorem EqD.struct {d : Nat} {t : TypeId} {xs ys : Array Value} {fs : Array Field} {fl : List Field} {b : Bool} (hu : P.underlying t = some (.struct fs)) (hs : P.stoodInHeld t = false) (hl : fs.toList = fl) (h : EqF P d xs ys fl b) : EqD P (d + 1) t (.agg xs) (.agg ys) b := by
  intro w
  subst hl
  have hf : P.fieldsOf t = fs := by simp [Program.fieldsOf, hu]
  rw [run_equalIn_struct w d t xs ys (by rw [hf]; exact hu) hs, hf]
  exact h w
theorem EqD.iff {d : Nat} {t : TypeId} {x y : Value} {b : Bool} {p : Prop} [Decidable p] (h : EqD P d t x y b) (hp : b = true ↔ p) : EqD P d t x y (decide p) := by
  have : b = decide p := by cases b <;> simp_all
  rw [← this]; exact h
theorem ev_aggNe {xt yt : TypeId} {x y : Operand} {xs ys : Array Value} {p : Prop} [Decidable p] (hx : ev R x = .agg xs) (hy : ev R y = .agg ys) (hg : P.eqGuardType P.depth xt = false) (h : EqD P 10000 xt (.agg xs) (.agg ys) (decide p)) : Ev P ⟨dst, .binOp .neq xt x y yt, ty, pos, af, gd⟩ R w (.bool (decide (¬ p))) := by
  have h0 := run_eqGuard_agg (P := P) w .neq xt x y xs ys hg
  have h1 := run_neq_struct (P := P) w xt xs ys
  rw [h w] at h1
  simp [Ev, execOp, hx, hy, h0, h1]
end
abbrev I2 := Int × Int
abbrev I3 := Int × Int × Int
abbrev I5 := Int × Int × Int × Int × Int
def i2cells (a : I2) : List Value := [.int .i64 a.1, .int .i64 a.2]
def i3cells (a : I3) : List Value := [.int .i64 a.1, .int .i64 a.2.1, .int .i64 a.2.2]
def i5cells (a : I5) : List Value := [.int .i64 a.1, .int .i64 a.2.1, .int .i64 a.2.2.1, .int .i64 a.2.2.2.1, .int .i64 a.2.2.2.2]
theorem i2cells_len (a : I2) : (i2cells a).length = 2 := rfl
theorem i3cells_len (a : I3) : (i3cells a).length = 3 := rfl
theorem i5cells_len (a : I5) : (i5cells a).length = 5 := rfl
theorem i2cells_ne (a : I2) : i2cells a ≠ [] := by unfold i2cells; simp
theorem i3cells_ne (a : I3) : i3cells a ≠ [] := by unfold i3cells; simp
theorem i5cells_ne (a : I5) : i5cells a ≠ [] := by unfold i5cells; simp
theorem i2cells_one (a : I2) : ∀ u ∈ i2cells a, u.oneCell' = true := by unfold i2cells; simp [Value.oneCell']
theorem i3cells_one (a : I3) : ∀ u ∈ i3cells a, u.oneCell' = true := by unfold i3cells; simp [Value.oneCell']
theorem i5cells_one (a : I5) : ∀ u ∈ i5cells a, u.oneCell' = true := by unfold i5cells; simp [Value.oneCell']
end Go.Rl
set_option linter.unusedVariables false
set_option linter.unusedSimpArgs false
namespace Go.Rl
open Go.RowKit
section
variable {α : Type} {cf : α → List Value} {s : Nat} {w0 w w' : World} {F G : Nat → Prop} {L M N : List Atom}
def ElsM (F : Nat → Prop) (cf : α → List Value) (w : World) (hs : List Hd) (ls : List (List α)) : Prop := hs.length = ls.length ∧ ∀ (i : Nat) h l, hs[i]? = some h → ls[i]? = some l → SmO F cf w (vh h) l
theorem ElsM.nil (F : Nat → Prop) (cf : α → List Value) (w : World) : ElsM F cf w [] [] := ⟨rfl, fun i h l hi => by simp at hi⟩
theorem ElsM.mod {hs : List Hd} {ls : List (List α)} (h : ElsM F cf w hs ls) (hm : Mod F w w') : ElsM F cf w' hs ls := ⟨h.1, fun i hd l hi hl => (h.2 i hd l hi hl).mod hm⟩
theorem ElsM.ext {hs : List Hd} {ls : List (List α)} (h : ElsM F cf w hs ls) (he : Ext w w') : ElsM F cf w' hs ls := ⟨h.1, fun i hd l hi hl => (h.2 i hd l hi hl).ext he⟩
theorem ElsM.step {hs : List Hd} {ls : List (List α)} (h : ElsM F cf w0 hs ls) (hcf : ∀ a, cf a ≠ []) (hN : Now w0 F w L) : ElsM (foots L) cf w hs ls := ⟨h.1, fun i hd l hi hl => SmO.step hcf (h.2 i hd l hi hl) hN⟩
theorem ElsM.slo {hs : List Hd} {ls : List (List α)} (h : ElsM F cf w hs ls) {i : Nat} {hd : Hd} {l : List α} (hi : hs[i]? = some hd) (hl : ls[i]? = some l) : SmO F cf w (vh hd) l := h.2 i hd l hi hl
theorem ElsM.get {hs : List Hd} {ls : List (List α)} (h : ElsM F cf w hs ls) {i : Nat} {hd : Hd} (hi : hs[i]? = some hd) : ∃ l, ls[i]? = some l := by
  have := (List.getElem?_eq_some_iff.1 hi).1
  exact ⟨_, List.getElem?_eq_getElem (by rw [← h.1]; exact this)⟩
def Atom.slm (cf : α → List Value) (v : Value) (l : List α) : Atom where
  foot k := v.ownBlock = some k
  says w := Sm cf w v l ∧ ∀ k, v.ownBlock = some k → k < w.heap.size
  keep := by
    intro w w' hb ⟨⟨A, c, he, g1, g2, hc⟩, hlt⟩
    have key : ∀ k, v.ownBlock = some k → w'.heap[k]? = w.heap[k]? := fun k hk => hb k hk (hlt k hk)
    refine ⟨⟨A, c, he, g1, g2, fun j v hv => ?_⟩, fun k hk => ?_⟩
    · obtain ⟨ad, e, hcell⟩ := hc j v hv
      refine ⟨ad, e, ?_⟩
      rw [World.cell?_of_block (key _ (by rw [he, e, block_add]; rfl)), hcell]
    · have e := key k hk
      have hl := hlt k hk
      rw [Array.getElem?_eq_getElem hl] at e
      exact (Array.getElem?_eq_some_iff.1 e).1
def Atom.famm (cf : α → List Value) (hs : List Hd) (ls : List (List α)) : Atom where
  foot k := ∃ h ∈ hs, (vh h).ownBlock = some k
  says w := hs.length = ls.length ∧ ∀ (i : Nat) h l, hs[i]? = some h → ls[i]? = some l → Sm cf w (vh h) l ∧ ∀ k, (vh h).ownBlock = some k → k < w.heap.size
  keep := by
    intro w w' hb ⟨h1, h2⟩
    refine ⟨h1, fun i h l hi hl => ?_⟩
    have h3 := h2 i h l hi hl
    obtain ⟨⟨A, c, he, g1, g2, hc⟩, hlt⟩ := h3
    have key : ∀ k, (vh h).ownBlock = some k → w'.heap[k]? = w.heap[k]? := fun k hk => hb k ⟨h, List.mem_of_getElem? hi, hk⟩ (hlt k hk)
    refine ⟨⟨A, c, he, g1, g2, fun j v hv => ?_⟩, fun k hk => ?_⟩
    · obtain ⟨ad, e, hcell⟩ := hc j v hv
      refine ⟨ad, e, ?_⟩
      rw [World.cell?_of_block (key _ (by rw [he, e, block_add]; rfl)), hcell]
    · have e := key k hk
      have hl := hlt k hk
      rw [Array.getElem?_eq_getElem hl] at e
      exact (Array.getElem?_eq_some_iff.1 e).1
theorem Now.ownSlm (h : Now w0 F w L) (i : Nat) {E : TypeId} {v : Value} {l : List α} (hi : L[i]? = some (.ownm cf s E v l)) : Now w0 F w (L.set i (.slm cf v l)) :=
  h.turn i hi ⟨(h.ownm i hi).sm, fun k hk => ((h.ownm i hi).lt k hk).2⟩ (fun _ hk => hk)
theorem Now.fammNil (h : Now w0 F w L) (cf : α → List Value) : Now w0 F w (.famm cf [] [] :: L) :=
  h.add ⟨rfl, fun i h l hi => by simp at hi⟩ (fun k hk => by obtain ⟨h, hh, _⟩ := hk; cases hh) (fun _ _ _ _ _ hk => by obtain ⟨h, hh, _⟩ := hk; cases hh)
theorem Now.elsm (h : Now w0 F w L) (i : Nat) {hs : List Hd} {ls : List (List α)} (hi : L[i]? = some (.famm cf hs ls)) : ElsM none_ cf w hs ls := by
  have hf : (Atom.famm cf hs ls).says w := h.says i _ hi
  exact ⟨hf.1, fun q h' l hq hl => ⟨(hf.2 q h' l hq hl).1, Off.none _ _⟩⟩
theorem Now.fammPushS {h : Hd} {l : List α} {hs : List Hd} {ls : List (List α)} (hN : Now w0 F w (.slm cf (vh h) l :: L)) (j : Nat) (hj : L[j]? = some (.famm cf hs ls)) : Now w0 F w (L.set j (.famm cf (hs ++ [h]) (ls ++ [l]))) := by
  have ho : Sm cf w (vh h) l ∧ ∀ k, (vh h).ownBlock = some k → k < w.heap.size := hN.says 0 _ rfl
  have hf : (Atom.famm cf hs ls).says w := hN.says (j + 1) _ (by simpa using hj)
  have hlt : j < L.length := (List.getElem?_eq_some_iff.1 hj).1
  have foot : ∀ k, (Atom.famm cf (hs ++ [h]) (ls ++ [l])).foot k → (Atom.famm cf hs ls).foot k ∨ (vh h).ownBlock = some k := by
    rintro k ⟨h', hm, hk⟩
    rcases List.mem_append.1 hm with e | e
    · exact .inl ⟨h', e, hk⟩
    · rw [List.mem_singleton] at e; subst e; exact .inr hk
  have get : ∀ (i : Nat) c, (L.set j (.famm cf (hs ++ [h]) (ls ++ [l])))[i]? = some c → (i = j ∧ c = .famm cf (hs ++ [h]) (ls ++ [l])) ∨ (i ≠ j ∧ L[i]? = some c) := by
    intro i c hc
    rw [List.getElem?_set] at hc
    by_cases e : j = i
    · subst e; rw [if_pos rfl, if_pos hlt] at hc; exact .inl ⟨rfl, (Option.some.inj hc).symm⟩
    · rw [if_neg e] at hc; exact .inr ⟨fun x => e x.symm, hc⟩
  have old : ∀ (i : Nat) c, L[i]? = some c → (∀ k, c.foot k → ¬ (vh h).ownBlock = some k) ∧ (i ≠ j → ∀ k, c.foot k → ¬ (Atom.famm cf hs ls).foot k) := fun i c hc =>
    ⟨fun k hk e => hN.sep (i + 1) 0 c _ (by omega) (by simpa using hc) rfl k hk e, fun hi k hk e => hN.sep (i + 1) (j + 1) c _ (by omega) (by simpa using hc) (by simpa using hj) k hk e⟩
  refine ⟨hN.mod, ?_, ?_, ?_⟩
  · intro i c hc
    rcases get i c hc with ⟨_, rfl⟩ | ⟨_, hc⟩
    · refine ⟨by simp [hf.1], fun q h' l' hq hl => ?_⟩
      rcases Nat.lt_or_ge q hs.length with hq1 | hq1
      · rw [List.getElem?_append_left hq1] at hq
        rw [List.getElem?_append_left (by rw [← hf.1]; exact hq1)] at hl
        exact hf.2 q h' l' hq hl
      · rw [List.getElem?_append_right hq1] at hq
        rw [List.getElem?_append_right (by rw [← hf.1]; exact hq1), ← hf.1] at hl
        have hz : q - hs.length = 0 := by
          rcases Nat.eq_zero_or_pos (q - hs.length) with e | e
          · exact e
          · rw [List.getElem?_eq_none (by simp; omega)] at hq; cases hq
        rw [hz] at hq hl
        cases hq; cases hl
        exact ⟨ho.1, fun k hk => ho.2 k hk⟩
    · exact hN.says (i + 1) c (by simpa using hc)
  · intro i c hc k hk
    rcases get i c hc with ⟨_, rfl⟩ | ⟨_, hc⟩
    · rcases foot k hk with e | e
      · exact hN.low (j + 1) _ (by simpa using hj) k e
      · exact hN.low 0 _ rfl k e
    · exact hN.low (i + 1) c (by simpa using hc) k hk
  · intro i i' c c' hne hc hc' k hk hk'
    rcases get i c hc with ⟨rfl, rfl⟩ | ⟨hi, hc⟩ <;> rcases get i' c' hc' with ⟨rfl, rfl⟩ | ⟨hi', hc'⟩
    · exact hne rfl
    · rcases foot k hk with e | e
      · exact (old i' c' hc').2 hi' k hk' e
      · exact (old i' c' hc').1 k hk' e
    · rcases foot k hk' with e | e
      · exact (old i c ‹_›).2 hi k hk e
      · exact (old i c ‹_›).1 k hk e
    · exact hN.sep (i + 1) (i' + 1) c c' (by omega) (by simpa using ‹L[i]? = some c›) (by simpa using hc') k hk hk'
theorem Now.fammPush {E : TypeId} {h : Hd} {l : List α} {hs : List Hd} {ls : List (List α)} (hN : Now w0 F w (.ownm cf s E (vh h) l :: L)) (j : Nat) (hj : L[j]? = some (.famm cf hs ls)) : Now w0 F w (L.set j (.famm cf (hs ++ [h]) (ls ++ [l]))) :=
  Now.fammPushS (h := h) (l := l) (hN.ownSlm 0 rfl) j hj
end
section
variable {P : Program} {R : Nat → Value} {w : World} {dst : Option Tmp} {ty : TypeId} {pos : String} {af : Array Edge} {gd : Option (Nat × Bool)} {α : Type} {cf : α → List Value} {s : Nat}
def cutM (s : Nat) (v : Value) (lo hi : Nat) : Value := match v with
  | .slice A n c => .slice (if c = lo then A else A.map (·.add (lo * s))) (hi - lo) (c - lo)
  | v => v
theorem Sm.cut (hcf : ∀ a, (cf a).length = s) {v : Value} {lo hi : Nat} {l : List α} (h : Sm cf w v l) (hlo : lo ≤ hi) (hhi : hi ≤ l.length) : Sm cf w (cutM s v lo hi) ((l.take hi).drop lo) := by
  obtain ⟨A, c, rfl, h1, h2, hc⟩ := h
  have hlen : ((l.take hi).drop lo).length = hi - lo := by simp; omega
  refine ⟨_, c - lo, by rw [hlen]; rfl, by omega, by omega, ?_⟩
  split
  · have : (l.take hi).drop lo = [] := List.eq_nil_of_length_eq_zero (by omega)
    rw [this]; exact Cells.nil _ _
  · intro j u hj
    have hju : j < (((l.take hi).drop lo).flatMap cf).length := (List.getElem?_eq_some_iff.1 hj).1
    rw [flatMap_len hcf] at hju
    have hs : 0 < s := by
      rcases Nat.eq_zero_or_pos s with e | e
      · rw [e, Nat.mul_zero] at hju; omega
      · exact e
    have hq : j / s < ((l.take hi).drop lo).length := Nat.div_lt_of_lt_mul (by rw [Nat.mul_comm]; exact hju)
    have hr : j % s < s := Nat.mod_lt _ hs
    have ej : j = (j / s) * s + j % s := by rw [Nat.mul_comm]; exact (Nat.div_add_mod j s).symm
    rw [ej, flatMap_get hcf (List.getElem?_eq_getElem hq) hr] at hj
    have hm : l[lo + j / s]? = some ((l.take hi).drop lo)[j / s] := by
      rw [← List.getElem?_eq_getElem hq, List.getElem?_drop, List.getElem?_take, if_pos (by omega)]
    obtain ⟨ad, rfl, hcell⟩ := hc ((lo + j / s) * s + j % s) u (by rw [flatMap_get hcf hm hr]; exact hj)
    refine ⟨ad.add (lo * s), rfl, ?_⟩
    rw [add_add, show lo * s + j = (lo + j / s) * s + j % s by rw [Nat.add_mul]; omega]
    exact hcell
theorem Sm.cutTo (hcf : ∀ a, (cf a).length = s) {v : Value} {hi : Nat} {l : List α} (h : Sm cf w v l) (hhi : hi ≤ l.length) : Sm cf w (cutM s v 0 hi) (l.take hi) := by simpa using h.cut hcf (Nat.zero_le hi) hhi
theorem Sm.cutFrom (hcf : ∀ a, (cf a).length = s) {v : Value} {lo : Nat} {l : List α} (h : Sm cf w v l) (hlo : lo ≤ l.length) : Sm cf w (cutM s v lo l.length) (l.drop lo) := by simpa using h.cut hcf hlo (Nat.le_refl _)
theorem ev_cutToM {t e : TypeId} {x hi : Operand} {v : Value} {l : List α} {k' : IntKind} {b : Int} (ht : P.underlying t = some (.slice e)) (hsz : (P.info? e).map (·.size) = some s)
    (hs : Sm cf w v l) (hx : ev R x = v) (hhi : ev R hi = .int k' b) (h1 : 0 ≤ b) (h2 : b ≤ l.length) :
    Ev P ⟨dst, .slice t x none (some hi) none, ty, pos, af, gd⟩ R w (cutM s v 0 b.toNat) := by
  obtain ⟨A, c, rfl, hlc, hm, hc⟩ := hs
  have hb1 : 0 ≤ b ∧ b ≤ (c : Int) := ⟨by omega, by omega⟩
  simp [Ev, cutM, execOp, hx, hhi, Instr.sliceAt, Instr.slice, run_underlying ht, Instr.sliceBounds, Instr.sliceBound, asIntOf, hb1, size_of (w := w) hsz]
theorem ev_cutFromM {t e : TypeId} {x lo : Operand} {v : Value} {l : List α} {k : IntKind} {a : Int} (ht : P.underlying t = some (.slice e)) (hsz : (P.info? e).map (·.size) = some s)
    (hs : Sm cf w v l) (hx : ev R x = v) (hlo : ev R lo = .int k a) (h0 : 0 ≤ a) (h1 : a ≤ l.length) :
    Ev P ⟨dst, .slice t x (some lo) none none, ty, pos, af, gd⟩ R w (cutM s v a.toNat l.length) := by
  obtain ⟨A, c, rfl, hlc, hm, hc⟩ := hs
  have ha1 : 0 ≤ a ∧ a ≤ (l.length : Int) := ⟨h0, by omega⟩
  simp [Ev, cutM, execOp, hx, hlo, Instr.sliceAt, Instr.slice, run_underlying ht, Instr.sliceBounds, Instr.sliceBound, asIntOf, ha1, size_of (w := w) hsz]
end
section
variable {P : Program} {R : Nat → Value} {w : World} {dst : Option Tmp} {ty : TypeId} {pos : String} {af : Array Edge} {gd : Option (Nat × Bool)} {α : Type} {cf : α → List Value} {s : Nat}
theorem ev_loadMS {t : TypeId} {x : Operand} {v : Value} {l : List α} {m j z : Nat} {a : α} {d : TypeDesc} (hu : P.underlying t = some d) (hd : d.isRow = true) (hsz : (P.info? t).map (·.size) = some z) (hcf : ∀ a, (cf a).length = s) (hz : 0 < z) (hjz : j + z ≤ s)
    (hs : Sm cf w v l) (hx : ev R x = elemAddr v (m * s + j)) (hm : l[m]? = some a) {cs : List Value} (hcs : ((cf a).drop j).take z = cs) : Ev P ⟨dst, .load t x, ty, pos, af, gd⟩ R w (.agg cs.toArray) := by
  subst hcs
  have hne : ∃ u, (cf a)[j]? = some u := ⟨_, List.getElem?_eq_getElem (by rw [hcf]; omega)⟩
  obtain ⟨u, hu0⟩ := hne
  obtain ⟨ad, c, rfl, he, _⟩ := hs.at hcf hm hu0
  have hlen : (((cf a).drop j).take z).length = z := by rw [List.length_take, List.length_drop, hcf]; omega
  have key : ∀ q u, (((cf a).drop j).take z)[q]? = some u → w.cell? ((ad.add (m * s + j)).add q) = some u := by
    intro q u hq
    have hqz : q < z := by have := (List.getElem?_eq_some_iff.1 hq).1; omega
    rw [List.getElem?_take, if_pos hqz, List.getElem?_drop] at hq
    obtain ⟨ad', c', h1, _, h3⟩ := hs.at hcf hm hq
    cases h1
    rw [add_add, Nat.add_assoc]; exact h3
  have hrow := run_loadCells_list (P := P) (w := w) (ad.add (m * s + j)) (((cf a).drop j).take z) key
  have hagg : (isAgg t).run P w = .ok true w := by
    unfold isAgg
    rw [Sem.run_bind, run_underlying hu w]
    cases d <;> simp_all [TypeDesc.isRow]
  rw [hlen] at hrow
  simp [Ev, execOp, hx, he, Instr.loadAt, Instr.sureAddr, loadVar, hagg, size_of (w := w) hsz, hrow]
end
theorem OwnM.smoF {α : Type} {cf : α → List Value} {s : Nat} {F : Nat → Prop} {w w' : World} {E : TypeId} {v : Value} {l : List α} (h : OwnM cf s E w' w.heap.size v l) (hF : ∀ k, F k → k < w.heap.size) : SmO F cf w' v l := ⟨h.sm, fun hl k hk hf => by have h1 := (h.lt k hk).1; have h2 := hF k hf; omega⟩
theorem Own.sloF {α : Type} {enc : α → Value} {F : Nat → Prop} {w w' : World} {E : TypeId} {v : Value} {l : List α} (h : Own enc E w' w.heap.size v l) (hF : ∀ k, F k → k < w.heap.size) : SlO F enc w' v l := ⟨h.sl, fun hl k hk hf => by have h1 := (h.lt k hk).1; have h2 := hF k hf; omega⟩
theorem takeAt {α : Type} {l : List α} {i : Nat} {a : α} (h : l[i]? = some a) : l.take (i + 1) = l.take i ++ [a] := by rw [List.take_add_one, h]; rfl
section
variable {P : Program} {n : Nat} {Q : Post} {R : Nat → Value} {w : World}
end
section
variable {P : Program} {R : Nat → Value} {w : World} {dst : Option Tmp} {ty : TypeId} {pos : String} {af : Array Edge} {gd : Option (Nat × Bool)}
theorem ev_min3 {x y z : Operand} {k : IntKind} {a b c : Int} {ats : Array TypeId} (hx : ev R x = .int k a) (hy : ev R y = .int k b) (hz : ev R z = .int k c) : Ev P ⟨dst, .call ⟨.builtin .min, #[x, y, z], ats⟩, ty, pos, af, gd⟩ R w (.int k (min (min a b) c)) := by
  have h : (if b < a then b else a) = min a b := by omega
  have h2 : (if c < min a b then c else min a b) = min (min a b) c := by omega
  simp [Ev, execOp, resolve, invoke, builtin, Builtin.min_, Builtin.min2, hx, hy, hz, h, h2]
end
end Go.Rl
set_option linter.unusedVariables false
set_option linter.unusedSimpArgs false
namespace Go.Rl
open Go.RowKit
section
variable {F : Fence} {n : Nat} {P : Program} {a : Act} {w : World} {Q : Exit → Act → World → Prop}
theorem stepR_scope {b : Frame} {k : List Item} {cs : List Frame} {c : Code} : step P (lone (b.atR a (.code (.scope c) :: k)) cs w) = .next (lone (b.atR a (.code c :: .inScope c :: k)) cs w) :=
  step_lone_go (by simp [stepG, stepG.exec, Frame.atR])
theorem stepR_inScope {b : Frame} {k : List Item} {cs : List Frame} {c : Code} : step P (lone (b.atR a (.inScope c :: k)) cs w) = .next (lone (b.atR a k) cs w) :=
  step_lone_go (by simp [stepG, stepG.exec, Frame.atR])
theorem wpIn_scope {c : Code} (h : c.wpIn F n P (Exit.noGoto Q) a w) : (Code.scope c).wpIn F n P Q a w := by
  intro b k cs hro hb hr
  have h0 : (lone (b.atR a (.code (.scope c) :: k)) cs w).fenced P F := fenced_calm hb hr rfl
  obtain ⟨e, a₁, w₁, hq, harr⟩ := h b (.inScope c :: k) cs hro hb hr
  cases e with
  | normal => exact ⟨.normal, a₁, w₁, hq, .head h0 stepR_scope (StepsIn.trans harr (.one (fenced_calm hb hr rfl) stepR_inScope))⟩
  | exit id =>
    have hx : exitTo id (.inScope c :: k) = exitTo id k := by simp [exitTo]
    exact ⟨.exit id, a₁, w₁, hq, fun k' hk => .head h0 stepR_scope (harr.1 k' (by rw [hx]; exact hk)), fun hr' hk => let ⟨k₁, h1, h2⟩ := harr.2 hr' (by rw [hx]; exact hk); ⟨k₁, h1, .head h0 stepR_scope h2⟩⟩
  | goto l => exact hq.elim
  | ret => exact ⟨_, a₁, w₁, hq, .of_steps (.one h0 stepR_scope) harr⟩
  | panic ch => exact ⟨_, a₁, w₁, hq, .of_steps (.one h0 stepR_scope) harr⟩
  | outgrown => exact ⟨_, a₁, w₁, hq, .of_steps (.one h0 stepR_scope) harr⟩
end
section
variable {P : Program} {ro : Option Nat} {n : Nat} {Q : XPost} {R : Nat → Value} {w : World} {ds : List Deferred}
def scopeY (Q : XPost) : XPost := fun e ds R w => match e with
  | .goto _ => False
  | e => Q e ds R w
theorem XW.scope {c : Code} (h : XW P ro n c (scopeY Q) ds R w) : XW P ro n (.scope c) Q ds R w := fun a ha => by
  refine wpIn_scope (wpIn_mono (h a ha) ?_)
  rintro e a' w' ⟨R', ds', hR, hQ⟩
  cases e with
  | goto l => exact hQ.elim
  | _ => exact ⟨R', ds', hR, hQ⟩
theorem xscopeR (h : Q .ret ds R w) : scopeY Q .ret ds R w := h
theorem XW.label {l : Nat} (h : Q .normal ds R w) : XW P ro n (.label l) Q ds R w := fun _ ha => wpIn_label ⟨R, ds, ha, h⟩
end
section
variable {P : Program} {ops : Array Oper} {Qa : Exit → Act → World → Prop} {S : World → Prop}
theorem yieldsX {i : Nat} {o : Oper} {v : Value} {a : Act} (hi : ops[i]? = some o) (hy : YieldsIf P ops S o v a)
    {K : Act → World → Prop} {w : World} (hS : S w) (h : K (a.put o.dst v) w) : wpOpIn (XF none) 0 P ops Qa i K a w := by
  unfold Go.wpOpIn
  simp only [hi]
  rcases hy with ⟨hw, hv⟩ | ⟨hw, rfl⟩
  · simp only [hw, if_true, Oper.wpIn, Oper.semAt_none, hv w hS, Oper.uponIn]; exact ⟨fun _ _ => trivial, h⟩
  · simp only [hw, Bool.false_eq_true, if_false]; exact ⟨fun _ _ => trivial, h⟩
theorem wpOpX_putIf {j : Nat} {oi oj : Oper} {v : Value} (hj : ops[j]? = some oj) (hap : oi.apart ops oj = true)
    (hsi : ∀ cs b, oi.op ≠ .select cs b) (hsj : ∀ cs b, oj.op ≠ .select cs b)
    (hQ : ∀ c a w, Qa (.panic c) (a.put oi.dst v) w → Qa (.panic c) a w) {K : Act → World → Prop} {a : Act} {w : World}
    (hy : YieldsIf P ops S oi v a) (h : wpOpIn (XF none) 0 P ops Qa j K (a.put oi.dst v) w) :
    wpOpIn (XF none) 0 P ops Qa j (fun a' w' => YieldsIf P ops S oi v a' ∧ K (a'.put oi.dst v) w') a w := by
  obtain ⟨h1, h2, h3⟩ := Oper.apart_spec hap
  have keep : ∀ (a : Act), YieldsIf P ops S oi v a → ∀ u, YieldsIf P ops S oi v (a.put oj.dst u) := fun a hy u =>
    hy.of_same (execOp_put oi hsi a oj.dst u h3) (wanted_put oi a oj.dst u h3)
  have keepD : ∀ d, YieldsIf P ops S oi v { a with defers := d :: a.defers } := fun d => hy.of_same rfl rfl
  unfold wpOpIn at *
  simp only [hj] at *
  rw [wanted_put oj a oi.dst v h1] at h
  split
  · rename_i hw
    simp only [hw, if_true] at h
    unfold Oper.wpIn at *
    refine ⟨fun _ _ => trivial, ?_⟩
    have h := h.2
    rw [Oper.semAt_none, execOp_put oj hsj a oi.dst v h1] at h
    rw [Oper.semAt_none]
    generalize (execOp a.eval oj).run P w = r at *
    cases r with
    | ok x w' =>
      cases x <;> simp only [Oper.uponIn] at h ⊢
      case value u => exact ⟨keep a hy u, by rw [← Act.put_comm a v u h2]; exact h⟩
      case skip => exact ⟨keep a hy _, by rw [← Act.put_comm a v undef h2]; exact h⟩
      case defer d =>
        refine ⟨keep _ (keepD d) _, ?_⟩
        rw [← Act.put_comm _ v undef h2, ← Act.put_defers]
        exact h
      case enter f args =>
        refine ⟨h.1, CallsIn.mono h.2 fun e w'' he => ?_⟩
        cases e with
        | returned u => exact ⟨keep a hy u, by rw [← Act.put_comm a v u h2]; exact he⟩
        | panicked c => exact hQ _ _ _ he
        | outgrown => exact he
      case row row args => exact ⟨h.1, RowsIn.mono h.2 fun u w'' he => ⟨keep a hy u, by rw [← Act.put_comm a v u h2]; exact he⟩⟩
      case round l f tmps assign body =>
        refine ⟨h.1, RoundIn.mono h.2 fun e w'' he => ?_⟩
        cases e with
        | returned u => exact ⟨keep a hy u, by rw [← Act.put_comm a v u h2]; exact he⟩
        | panicked c => exact hQ _ _ _ he
        | outgrown => exact he
    | halt x w' =>
      cases x <;> simp only [Oper.uponIn] at h ⊢
      case panic u => exact hQ _ _ _ h
  · rename_i hw
    simp only [hw] at h
    exact ⟨fun _ _ => trivial, keep a hy _, by rw [← Act.put_comm a v undef h2]; exact h.2⟩
def wpAnyX (P : Program) (ops : Array Oper) (Q : Exit → Act → World → Prop) (S : World → Prop) : Nat → Array Bool → Act → World → Prop
  | 0, listed, a, w => Region.ready .any ops listed = [] ∧ Q .normal a w
  | fuel + 1, listed, a, w => (Region.ready .any ops listed = [] → Q .normal a w) ∧
      ∀ i ∈ Region.ready .any ops listed, wpOpIn (XF none) 0 P ops Q i (fun a' w' => S w' ∧ wpAnyX P ops Q S fuel (listed.setIfInBounds i true) a' w') a w
theorem wpAnyIn_of_X : ∀ (fuel : Nat) (listed : Array Bool) (a : Act) (w : World), wpAnyX P ops Qa S fuel listed a w → wpAnyIn (XF none) 0 P .any ops Qa fuel listed a w
  | 0, _, _, _, h => h
  | fuel + 1, _, _, _, h => ⟨h.1, fun i hi => wpOpIn_mono (fun a' w' h' => wpAnyIn_of_X fuel _ a' w' h'.2) (h.2 i hi)⟩
theorem wpAnyX_first {i : Nat} {oi : Oper} {v : Value} (hi : ops[i]? = some oi) (hsel : ∀ (j : Nat) (o : Oper) cs b, ops[j]? = some o → o.op ≠ .select cs b)
    (hQ : ∀ c a w, Qa (.panic c) (a.put oi.dst v) w → Qa (.panic c) a w) :
    ∀ (fuel : Nat) (listed : Array Bool) (a : Act) (w : World),
      (∀ j oj, ops[j]? = some oj → j ≠ i → listed.getD j true = false → (∀ e ∈ oj.after, Region.binds .any e = true → e.on ≠ i) → oi.apart ops oj = true) →
      i ∈ Region.ready .any ops listed → YieldsIf P ops S oi v a → S w →
      wpAnyX P ops Qa S fuel (listed.setIfInBounds i true) (a.put oi.dst v) w → wpAnyX P ops Qa S (fuel + 1) listed a w := by
  intro fuel
  induction fuel with
  | zero =>
    intro listed a w _ hr hy hS H
    refine ⟨fun h => (by rw [h] at hr; cases hr), fun j hj => ?_⟩
    by_cases hji : j = i
    · subst hji; exact yieldsX hi hy hS ⟨hS, H⟩
    · have := ready_mono hj hji
      rw [H.1] at this
      cases this
  | succ fuel ih =>
    intro listed a w hfree hr hy hS H
    refine ⟨fun h => (by rw [h] at hr; cases hr), fun j hj => ?_⟩
    by_cases hji : j = i
    · subst hji; exact yieldsX hi hy hS ⟨hS, H⟩
    · have h1 := H.2 j (ready_mono hj hji)
      obtain ⟨hjun, oj, hoj, hall⟩ := mem_ready.1 hj
      have hnot : ∀ e ∈ oj.after, Region.binds .any e = true → e.on ≠ i := fun e he hb heq => by
        have h1 := hall e he hb
        have h0 := (mem_ready.1 hr).1
        rw [heq] at h1
        rcases Nat.lt_or_ge i listed.size with h' | h'
        · simp [h'] at h0 h1; rw [h0] at h1; cases h1
        · simp [Array.getElem?_eq_none h'] at h1
      have h2 := wpOpX_putIf hoj (hfree j oj hoj hji hjun hnot) (fun cs b => hsel i oi cs b hi) (fun cs b => hsel j oj cs b hoj) hQ hy h1
      have hfree' : ∀ k ok, ops[k]? = some ok → k ≠ i → (listed.setIfInBounds j true).getD k true = false →
          (∀ e ∈ ok.after, Region.binds .any e = true → e.on ≠ i) → oi.apart ops ok = true := fun k ok hk hki hun hno => by
        refine hfree k ok hk hki ?_ hno
        by_cases hjk : j = k
        · subst hjk; exact hjun
        · rw [getD_set_ne true hjk] at hun; exact hun
      refine wpOpIn_mono (fun a' w' h3 => ⟨h3.2.1, ih (listed.setIfInBounds j true) a' w' hfree' (ready_mono hr (Ne.symm hji)) h3.1 h3.2.1 ?_⟩) h2
      rw [Array.setIfInBounds_comm _ _ hji]
      exact h3.2.2
end
def XA (P : Program) (n : Nat) (ops : Array Oper) (Q : XPost) (S : World → Prop) (fuel : Nat) (listed : Array Bool) (ds : List Deferred) (R : Nat → Value) (w : World) : Prop :=
  ∀ a, AtX ds n R a → wpAnyX P ops (XPost.up n Q) S fuel listed a w
def XNoP (Q : XPost) : Prop := ∀ c ds R w, ¬ Q (.panic c) ds R w
section
variable {P : Program} {n : Nat} {Q : XPost} {R : Nat → Value} {w : World} {ds : List Deferred} {ops : Array Oper} {S : World → Prop} {fuel : Nat} {listed : Array Bool}
theorem xup_panic {c : List PanicEntry} (hp : XNoP Q) (dst : Option Tmp) (v : Value) (a : Act) (w : World) : XPost.up n Q (.panic c) (a.put dst v) w → XPost.up n Q (.panic c) a w := fun ⟨R, ds, _, h⟩ => absurd h (hp c ds R w)
theorem XW.drawX {id : Nat} (hm : P.follows .mixedOrders = true) (S : World → Prop)
    (h : XA P n ops Q S ops.size (Array.replicate ops.size false) ds R w.drew) : XW P none n (.region id ops true) Q ds R w := fun a ha => wpIn_region_any hm (wpAnyIn_of_X _ _ _ _ (h a ha))
theorem XA.done (hr : Region.ready .any ops listed = []) (h : Q .normal ds R w) : XA P n ops Q S fuel listed ds R w := fun a ha => by
  cases fuel with
  | zero => exact ⟨hr, R, ds, ha, h⟩
  | succ f => exact ⟨fun _ => ⟨R, ds, ha, h⟩, by rw [hr]; simp⟩
theorem XA.take {i : Nat} {o : Oper} {v : Value} (hi : ops[i]? = some o) (hg : o.guard = none) (hs : Region.noSelect ops = true)
    (hf : Region.free .any ops listed i = true) (hr : (Region.ready .any ops listed).contains i = true) (hp : XNoP Q) (hd : dstOk n o.dst = true) (hS : S w) (h : ∀ w, S w → Ev P o R w v)
    (hn : XA P n ops Q S fuel (listed.setIfInBounds i true) ds (updO R o.dst v) w) : XA P n ops Q S (fuel + 1) listed ds R w := fun a ha =>
  wpAnyX_first hi (Region.noSelect_spec hs) (fun c a w => xup_panic hp _ _ a w) fuel listed a w (Region.free_spec hi hf) (by simpa using hr) (.inl ⟨by simp [Region.wanted, hg], fun w hw => by rw [ha.eval]; exact h w hw⟩) hS (hn _ (ha.put hd v))
theorem XA.only {i : Nat} {o : Oper} (hr : Region.ready .any ops listed = [i]) (hi : ops[i]? = some o) (hg : o.guard = none) (hd : dstOk n o.dst = true)
    (h : OpX P none o R w (fun v w' => S w' ∧ XA P n ops Q S fuel (listed.setIfInBounds i true) ds (updO R o.dst v) w')) : XA P n ops Q S (fuel + 1) listed ds R w := fun a ha => by
  refine ⟨fun h0 => (by rw [hr] at h0; cases h0), fun j hj => ?_⟩
  have : j = i := by rw [hr] at hj; simpa using hj
  subst this
  unfold wpOpIn
  simp only [hi, Region.wanted, hg, if_true]
  exact OpX.wp ha hd h fun v w' hv hat => ⟨hv.1, hv.2 _ hat⟩
end
def IterT {ε π : Type} (P : Program) (gf : FuncId) (lb : Array Value) (M : List Atom) (Fx : (Nat → Prop) → World → Prop) (p : ε → π) (enc : ε → Array Value) (Rd : (Nat → Prop) → ε → World → Prop) (xs : List π) : Prop :=
  ∀ (σ : Type) (l : Nat) (C : Bool → σ → Atom) (T : σ → ε → Bool → σ → Prop) (s0 : σ) (w0 w : World) (F : Nat → Prop), (∀ s x b s', T s x b s' → b = true) → YSpec P l C T p s0 xs Rd enc → Fx F w0 → Now w0 F w (C true s0 :: M) →
    Gives P gf (#[.func (.yield l) #[] #[]] ++ lb) w fun _ w' => ∃ s', Run T p s0 xs s' ∧ Now w0 F w' [C true s']
section
variable {P : Program} {n : Nat} {Q : XPost} {R : Nat → Value} {w0 w : World} {F : Nat → Prop} {M : List Atom}
theorem XW.rangeT {σ ε π : Type} {g : Operand} {ps : Array Tmp} {asg body : Code} {gf : FuncId} {fn : Func} {lb : Array Value} {p : ε → π} {enc : ε → Array Value} {Rd : (Nat → Prop) → ε → World → Prop} {xs : List π} {Fx : (Nat → Prop) → World → Prop}
    (S : σ → List Atom) (T : σ → ε → Bool → σ → Prop) (s0 : σ)
    (hN : Now w0 F w (S s0 ++ M)) (hg : ev R g = .func (.func gf) #[] lb) (hf : P.funcs[gf]? = some fn) (hn : (fn.name == "runtime.NumGoroutine") = false) (hb : fn.body.isSome = true)
    (hit : IterT P gf lb M Fx p enc Rd xs) (hT : ∀ s x b s', T s x b s' → b = true) (hFx : Fx F w0) (hps : ∀ x, (enc x).size = ps.size) (hlt : ∀ t ∈ ps.toList, t < n)
    (hbody : ∀ (l D : Nat) (rc : LoopState → Option Code → Loop) (FF : Nat → Prop) (s : σ) (x : ε) (pre post : List π) (w : World), Run T p s0 pre s → xs = pre ++ p x :: post → Rd FF x w → Now w FF w (.obj l (.loop (rc .ready none)) :: .obj D (.deferred (some [])) :: S s) →
      XW P (some l) n asg (assignQ P l n body (roundQ (T s x) FF l D rc S w) FF (.obj l (.loop (rc .busy none)) :: .obj D (.deferred (some [])) :: S s) w) [] (setL R (ps.toList.zip (enc x).toList)) w)
    (hdone : ∀ (l D : Nat) (o : Obj) (s : σ) (w : World), Run T p s0 xs s → Now w0 F w (.obj l o :: .obj D (.deferred (some [])) :: S s) → Q .normal (mark D) R w) :
    XW P none n (.rangeFunc g ps asg body) Q [] R w :=
  XW.rangeG S T s0 hN hg hf hn hb (fun l C w1 hy h1 => (hit σ l C T s0 w0 w1 F hT hy hFx h1).mono fun _ _ ⟨s', hr, h2⟩ => ⟨s', .inl ⟨hr, h2⟩⟩) hps hlt hbody hdone
    (fun l D o s w hs _ => by obtain ⟨_, _, _, _, _, _, hx⟩ := hs; exact absurd (hT _ _ _ _ hx) (by simp))
end
end Go.Rl
namespace Go.Rl
def Goes {σ ε π : Type} (T : σ → ε → Bool → σ → Prop) (p : ε → π) (s0 : σ) (xs : List π) (s : σ) (todo : List π) : Prop := ∃ pre, Run T p s0 pre s ∧ xs = pre ++ todo
section
variable {σ ε π : Type} {P : Program} {l : Nat} {C : Bool → σ → Atom} {T : σ → ε → Bool → σ → Prop} {p : ε → π} {s0 s : σ} {xs todo : List π} {Rd : (Nat → Prop) → ε → World → Prop} {enc : ε → Array Value} {w : World}
theorem Goes.start : Goes T p s0 xs s0 xs := ⟨[], .nil, rfl⟩
theorem Goes.done (h : Goes T p s0 xs s []) : Run T p s0 xs s := by obtain ⟨pre, h1, h2⟩ := h; rw [List.append_nil] at h2; rw [h2]; exact h1
theorem Goes.as {t : List π} (h : Goes T p s0 xs s todo) (e : todo = t) : Goes T p s0 xs s t := e ▸ h
theorem Goes.yield (hT : ∀ s x b s', T s x b s' → b = true) (hY : YSpec P l C T p s0 xs Rd enc) (x : ε) (h : Goes T p s0 xs s (p x :: todo)) (hN : Now w (foots [C true s]) w [C true s]) (hR : Rd (foots [C true s]) x w) :
    YGives P l (enc x) w fun v w' => ∃ s', v = .bool true ∧ Goes T p s0 xs s' todo ∧ Now w (foots [C true s]) w' [C true s'] := by
  obtain ⟨pre, h1, h2⟩ := h
  refine (hY s x pre todo w h1 h2 hN hR).mono ?_
  rintro v w' ⟨b, s', rfl, ht, hn⟩
  have hb := hT _ _ _ _ ht
  subst hb
  exact ⟨s', rfl, ⟨pre ++ [p x], .snoc h1 ht, by rw [h2, List.append_assoc]; rfl⟩, hn⟩
end
end Go.Rl
namespace Go.Rl
section
variable {P : Program} {w0 w w' : World} {F : Nat → Prop} {L M : List Atom} {α : Type} {enc : α → Value} {cf : α → List Value} {s : Nat}
def BlkO (F : Nat → Prop) (w : World) (g : Nat) (cs : List Value) (T : TypeId) : Prop := Blk w g cs T ∧ ¬ F g
theorem BlkO.now {g : Nat} {cs : List Value} {T : TypeId} (h : BlkO F w0 g cs T) (hN : Now w0 F w L) : Blk w g cs T := h.1.mod hN.mod h.2
theorem BlkO.step {g : Nat} {cs : List Value} {T : TypeId} (h : BlkO F w0 g cs T) (hN : Now w0 F w L) : BlkO (foots L) w g cs T := ⟨h.now hN, fun hk => (hN.feet hk).elim h.2 fun h1 => by have := h.1.lt; omega⟩
theorem Blk.o {g : Nat} {cs : List Value} {T : TypeId} (h : Blk w g cs T) : BlkO none_ w g cs T := ⟨h, fun e => e⟩
theorem Now.smoOut (h : Now w0 F w L) (i : Nat) {E : TypeId} {v : Value} {l : List α} (hi : L[i]? = some (.ownm cf s E v l)) (p : List Nat) (hM : M.map some = p.map (fun i => L[i]?)) (hp : (p.all fun j => j != i) = true) : SmO (foots M) cf w v l :=
  ⟨h.sm i hi, h.offB p hM i hi hp fun _ hk => hk⟩
theorem Now.blkOut (h : Now w0 F w L) (i : Nat) {g : Nat} {cs : List Value} {T : TypeId} (hi : L[i]? = some (.blk g cs T)) (p : List Nat) (hM : M.map some = p.map (fun i => L[i]?)) (hp : (p.all fun j => j != i) = true) : BlkO (foots M) w g cs T := by
  refine ⟨h.blk i hi, ?_⟩
  rintro ⟨b, hb, hf⟩
  have h2 : some b ∈ M.map some := List.mem_map.2 ⟨b, hb, rfl⟩
  rw [hM] at h2
  obtain ⟨j, hj0, hj⟩ := List.mem_map.1 h2
  have hne : j ≠ i := by simpa using List.all_eq_true.1 hp j hj0
  exact h.sep j i _ _ hne hj hi g hf rfl
end
end Go.Rl
namespace Go.Rl
section
variable {P : Program} {n : Nat} {Q : Post} {R : Nat → Value} {w0 w : World} {F : Nat → Prop} {L : List Atom} {K : Value → World → Prop} {dst : Option Tmp} {ty : TypeId} {pos : String} {af : Array Edge} {gd : Option (Nat × Bool)}
variable {α : Type} {enc : α → Value}
theorem opN_convSame {t e : TypeId} {x : Operand} {v : Value} {E : TypeId} {l : List α} (ht : P.underlying t = some (.slice e)) (he : P.underlying e = some (.int .u8)) (hN : Now w0 F w L) (i : Nat) (hi : L[i]? = some (.own enc E v l)) (hx : ev R x = v) {ad : Addr} {m c : Nat} (hv : v = .slice (some ad) m c)
    (h : ∀ w', Now w0 F w' (L.set i (.sl enc v l)) → K v w') : OpR P ⟨dst, .convert t t x, ty, pos, af, gd⟩ R w K :=
  op_convSame ht he (hN.sl i hi) hx hv fun w' hs hm hsz => h w' <| hN.upd i hi hm ⟨hs, fun k hk => by rw [hsz]; exact (hN.low i _ hi k hk).2⟩ fun k hk => ⟨.inl hk, by rw [hsz]; exact (hN.low i _ hi k hk).2⟩
theorem opN_appendFull {t e : TypeId} {s x : Operand} {v u : Value} {l m : List α} {z : Value} {bytes : Nat} {ad : Addr} (ht : P.underlying t = some (.slice e)) (hinfo : (P.info? e).map (fun i => (i.zero, i.size, i.bytes)) = some (some z, 1, bytes)) (hz : z.cells.size = 1)
    (hN : Now w0 F w L) (hs : Sl enc w v l) (hv : v = .slice (some ad) l.length l.length) (hx : ev R s = v) (hu : Sl enc w u m) (hm : 0 < m.length) (hy : ev R x = u) (hlen : (l.length + m.length) * bytes ≤ 140737488355328) (hbytes : 0 < bytes)
    (h : ∀ v' w', Now w0 F w' (.own enc e v' (l ++ m) :: L) → K v' w') : OpR P ⟨dst, .call ⟨.builtin .append, #[s, x], #[t, t]⟩, ty, pos, af, gd⟩ R w K := by
  obtain ⟨A, c, rfl, hlc, hmx, hc⟩ := hu
  obtain ⟨A0, c0, e0, hlc0, hmx0, hc0⟩ := hs
  rw [hv] at e0
  cases e0
  have hinf : ∃ i, P.info? e = some i ∧ i.zero = some z ∧ i.size = 1 ∧ i.bytes = bytes := by
    cases hq : P.info? e with
    | none => simp [hq] at hinfo
    | some i => simp [hq] at hinfo; exact ⟨i, rfl, hinfo⟩
  obtain ⟨i, hi, hi1, hi2, hi3⟩ := hinf
  have hle : l.length + m.length ≤ (l.length + m.length) * bytes := Nat.le_mul_of_pos_right _ hbytes
  have hA : ∃ a, A = some a := by
    cases A with
    | some a => exact ⟨a, rfl⟩
    | none => obtain ⟨a, h', _⟩ := hc 0 (enc m[0]) (by simp [List.getElem?_eq_getElem hm]); cases h'
  obtain ⟨a, rfl⟩ := hA
  have hr := run_append_grow (P := P) w t ty e i z ht hi hi1 ad l.length l.length (l.map enc) (by simp [hi2]) (fun j u hj => by obtain ⟨ad', h', hcell⟩ := hc0 j u hj; cases h'; exact hcell)
    a m.length c (m.map enc) (by simp [hi2]) (fun j u hj => by obtain ⟨ad', h', hcell⟩ := hc j u hj; cases h'; exact hcell) (by omega) (by omega) (by rw [hi3]; exact growslice_fits (by omega) hlen)
  have hge := grownCap_ge w (l.length + m.length) l.length e
  have hcm : grownCap w (l.length + m.length) l.length e ≤ maxLen := grownCap_le_maxLen w (l.length + m.length) l.length e (by unfold maxLen; omega)
  refine OpR.value (v := .slice (some ⟨w.heap.size, 0, none⟩) (l.length + m.length) (grownCap w (l.length + m.length) l.length e)) (w' := w.drew.alloc (.cells ((l.map enc).toArray ++ (m.map enc).toArray ++ Builtin.zeroCells z.cells (grownCap w (l.length + m.length) l.length e - (l.length + m.length))) e)) ?_ (h _ _ (hN.pushOwn (l := l ++ m) ?_ ((Ext.drew w).trans (Ext.alloc _ _))))
  · simp only [execOp, resolve, invoke, builtin, List.map_toArray, List.map_cons, List.map_nil, hx, hv, hy]
    simp [hr]
  · unfold Own
    have hl2 : (l ++ m).length = l.length + m.length := List.length_append
    refine ⟨by simp, .inr ⟨w.heap.size, grownCap w (l.length + m.length) l.length e, _, by rw [hl2], Nat.le_refl _, heap_alloc_new w.drew _, by rw [hl2]; exact hge, hcm, ?_, ?_⟩⟩
    · simp only [Array.size_append, List.size_toArray, size_zeroCells, hz, List.length_map]
      omega
    · have e1 : ((l.map enc).toArray ++ (m.map enc).toArray ++ Builtin.zeroCells z.cells (grownCap w (l.length + m.length) l.length e - (l.length + m.length))).toList = (l ++ m).map enc ++ (Builtin.zeroCells z.cells (grownCap w (l.length + m.length) l.length e - (l.length + m.length))).toList := by simp
      rw [e1, show (l ++ m).length * 1 = ((l ++ m).map enc).length by simp]
      exact List.take_left
end
end Go.Rl
namespace Go.Rl
section
variable {P : Program} {R : Nat → Value} {w : World} {dst : Option Tmp} {ty : TypeId} {pos : String} {af : Array Edge} {gd : Option (Nat × Bool)}
theorem ev_buildA {t e : TypeId} {len s : Nat} {parts : Array (Nat × Operand)} {ps : List (Nat × Value)} {z : Value} {zc cs : List Value} (ht : P.underlying t = some (.array len e)) (hsz : (P.info? e).map (·.size) = some s) (hz : (P.info? t).map (·.zero) = some (some z))
    {pl : List (Nat × Operand)} (hp : parts.toList = pl) (hps : (pl.map fun (i, x) => (i, ev R x)) = ps) (hzc : z.cells = zc.toArray) (hf : Instr.fill (fun i => some (i * s, s)) zc.toArray ps = some cs.toArray) : Ev P ⟨dst, .build t parts, ty, pos, af, gd⟩ R w (.agg cs.toArray) := by
  have hz' : (zeroValue t).run P w = .ok z w := by
    cases hq : P.info? t with
    | none => simp [hq] at hz
    | some i =>
      have : i.zero = some z := by simpa [hq] using hz
      simp [zeroValue, typeInfo, hq, this]
  have hps' : (parts.map fun (i, x) => (i, ev R x)).toList = ps := by rw [Array.toList_map, hp, hps]
  simp only [Ev, execOp, Instr.build, Sem.run_bind, hz', Result.andThen_ok, run_underlying ht, size_of (w := w) hsz, hps', hzc, hf, Sem.run_pure]
theorem ev_indexV {t e : TypeId} {len : Nat} {x i : Operand} {cs : List Value} {k : IntKind} {m : Int} {v : Value} {d : TypeDesc} (ht : P.underlying t = some (.array len e)) (he : P.underlying e = some d) (hd : d.isRow = false) (hsz : (P.info? e).map (·.size) = some 1)
    (hx : ev R x = .agg cs.toArray) (hi : ev R i = .int k m) (h0 : 0 ≤ m) (h1 : m < len) (hv : cs[m.toNat]? = some v) : Ev P ⟨dst, .index t x i, ty, pos, af, gd⟩ R w v := by
  have hagg : (isAgg e).run P w = .ok false w := by
    unfold isAgg
    rw [Sem.run_bind, run_underlying he w]
    cases d <;> simp_all [TypeDesc.isRow]
  have hr : (0 ≤ m ∧ m < (len : Int)) := ⟨h0, h1⟩
  simp [Ev, execOp, hx, hi, Instr.index, asIntOf, run_underlying ht, hr, size_of (w := w) hsz, part, hagg, hv]
end
section
variable {w0 w : World} {F : Nat → Prop} {L M : List Atom}
theorem Now.comm (h : Now w0 F w (L ++ M)) : Now w0 F w (M ++ L) := by
  have get : ∀ (i : Nat) a, (M ++ L)[i]? = some a → ∃ j, (L ++ M)[j]? = some a ∧ ((i < M.length ∧ j = L.length + i) ∨ (M.length ≤ i ∧ j = i - M.length ∧ j < L.length)) := by
    intro i a hi
    rcases Nat.lt_or_ge i M.length with h1 | h1
    · rw [List.getElem?_append_left h1] at hi
      exact ⟨L.length + i, by rw [List.getElem?_append_right (by omega)]; simpa using hi, .inl ⟨h1, rfl⟩⟩
    · rw [List.getElem?_append_right h1] at hi
      have hl := (List.getElem?_eq_some_iff.1 hi).1
      exact ⟨i - M.length, by rw [List.getElem?_append_left hl]; exact hi, .inr ⟨h1, rfl, hl⟩⟩
  refine ⟨h.mod, fun i a hi => ?_, fun i a hi k hk => ?_, fun i i' a b hne hi hi' k hk hk' => ?_⟩
  · obtain ⟨j, hj, _⟩ := get i a hi; exact h.says j a hj
  · obtain ⟨j, hj, _⟩ := get i a hi; exact h.low j a hj k hk
  · obtain ⟨j, hj, e⟩ := get i a hi
    obtain ⟨j', hj', e'⟩ := get i' b hi'
    exact h.sep j j' a b (by omega) hj hj' k hk hk'
end
def encS {α : Type} (x : Value × List α) : Array Value := #[x.1]
def RdS {α : Type} (enc : α → Value) (F : Nat → Prop) (x : Value × List α) (w : World) : Prop := Sl enc w x.1 x.2 ∧ Off F x.1 x.2
def CatT (α : Type) (s x : Value × List α) (b : Bool) (s' : Value × List α) : Prop := b = true ∧ s'.2 = s.2 ++ x.2
theorem CatT.on {α : Type} : ∀ s x b s', CatT α s x b s' → b = true := fun _ _ _ _ h => h.1
theorem cat_run {α : Type} {s0 s : Value × List α} {pre : List (List α)} (h : Run (CatT α) Prod.snd s0 pre s) : s.2 = s0.2 ++ pre.flatten := by
  induction h with
  | nil => simp
  | snoc _ ht ih => rw [ht.2, ih, List.append_assoc, List.flatten_append]; simp
theorem cat_len {α : Type} {s0 s x : Value × List α} {pre xs post : List (List α)} (h : Run (CatT α) Prod.snd s0 pre s) (h0 : s0.2 = []) (hx : xs = pre ++ Prod.snd x :: post) : s.2.length + x.2.length ≤ xs.flatten.length := by
  have h1 := cat_run h
  rw [h0, List.nil_append] at h1
  rw [h1, hx]; simp only [List.flatten_append, List.flatten_cons, List.length_append]; omega
theorem dropAt {α : Type} {l : List α} {i : Nat} {a : α} (h : l[i]? = some a) : l.drop i = a :: l.drop (i + 1) := by
  obtain ⟨hi, rfl⟩ := List.getElem?_eq_some_iff.1 h
  exact List.drop_eq_getElem_cons hi
end Go.Rl
namespace Go.Rl
section
variable {P : Program} {fn : Func} {n id : Nat} {K : Value → World → Prop} {J : List Deferred → (Nat → Value) → World → Prop} {Q : XPost}
theorem xnopE : XNoP (endX P fn n K) := fun _ _ _ _ h => h.1.elim (fun e => by cases e) (fun e => by cases e)
theorem xnopT (h : XNoP Q) : XNoP (thenY J Q) := h
theorem xnopB (h : XNoP Q) : XNoP (blockY id Q) := h
theorem xnopS (h : XNoP Q) : XNoP (scopeY Q) := h
end
end Go.Rl
set_option linter.unusedVariables false
namespace Go.Gr
open Go.Rl
abbrev vI (x : Int) : Value := .int .i64 x
theorem tmod_neg {x n : Int} (hn : 0 < n) (h : x.tmod n < 0) : x.tmod n + n = x % n := by
  have h1 := Int.tmod_add_mul_tdiv x n
  have h2 : -n < x.tmod n := by
    rcases Int.le_total 0 x with hx | hx
    · have := Int.tmod_nonneg n hx; omega
    · have e : x.tmod n = -((-x).tmod n) := by rw [Int.neg_tmod, Int.neg_neg]
      have := Int.tmod_lt_of_pos (-x) hn
      omega
  have h3 : (x.tmod n + n) % n = x.tmod n + n := Int.emod_eq_of_lt (by omega) (by omega)
  rw [← h3]
  have e : x = (x.tmod n + n) + n * (x.tdiv n - 1) := by rw [Int.mul_sub, Int.mul_one]; omega
  conv => rhs; rw [e]
  rw [Int.add_mul_emod_self_left]
theorem tmod_nn {x n : Int} (hn : 0 < n) (h : ¬ x.tmod n < 0) : x.tmod n = x % n := by
  have h1 := Int.tmod_add_mul_tdiv x n
  have h3 : (x.tmod n) % n = x.tmod n := Int.emod_eq_of_lt (by omega) (Int.tmod_lt_of_pos x hn)
  rw [← h3]
  conv => rhs; rw [← h1, Int.add_mul_emod_self_left]
def ofN (n : Int) : Int := max 1 (min n 12)
def ofArc (n : Int) (a : I3) : I3 := (a.1 % n, a.2.1 % n, a.2.2 % 2147483649)
def ofArcs (n : Int) (l : List I3) : List I3 := (l.take 40).map (ofArc n)
def okA (n : Int) (a : I3) : Prop := 0 ≤ a.1 ∧ a.1 < n ∧ 0 ≤ a.2.1 ∧ a.2.1 < n ∧ 0 ≤ a.2.2 ∧ a.2.2 ≤ 2147483648
instance (n : Int) (a : I3) : Decidable (okA n a) := inferInstanceAs (Decidable (_ ∧ _))
theorem ofN_pos (n : Int) : 1 ≤ ofN n ∧ ofN n ≤ 12 := by unfold ofN; omega
theorem ofArcs_ok (n : Int) (l : List I3) : ∀ a ∈ ofArcs (ofN n) l, okA (ofN n) a := by
  intro a ha
  obtain ⟨b, _, rfl⟩ := List.mem_map.1 ha
  have h := ofN_pos n
  have h1 := Int.emod_nonneg b.1 (b := ofN n) (by omega)
  have h2 := Int.emod_lt_of_pos b.1 (b := ofN n) (by omega)
  have h3 := Int.emod_nonneg b.2.1 (b := ofN n) (by omega)
  have h4 := Int.emod_lt_of_pos b.2.1 (b := ofN n) (by omega)
  have h5 := Int.emod_nonneg b.2.2 (b := 2147483649) (by omega)
  have h6 := Int.emod_lt_of_pos b.2.2 (b := 2147483649) (by omega)
  exact ⟨h1, h2, h3, h4, h5, by show b.2.2 % 2147483649 ≤ _; omega⟩
theorem ofArcs_len (n : Int) (l : List I3) : (ofArcs n l).length ≤ 40 := by unfold ofArcs; rw [List.length_map, List.length_take]; omega
def mchk (n : Int) (ar : List I3) : Int := if 16777216 < n ∨ 67108864 < ar.length then 3 else if n < 0 then 2 else if ∀ a ∈ ar, okA n a then 0 else 2
theorem mchk_of (n : Int) (l : List I3) : mchk (ofN n) (ofArcs (ofN n) l) = 0 := by
  have h := ofN_pos n
  have h2 := ofArcs_len (ofN n) l
  unfold mchk
  rw [if_neg (by omega), if_neg (by omega), if_pos (ofArcs_ok n l)]
theorem mchk_ok {n : Int} {ar : List I3} (h : mchk n ar = 0) : 0 ≤ n ∧ n ≤ 16777216 ∧ ar.length ≤ 67108864 ∧ ∀ a ∈ ar, okA n a := by
  unfold mchk at h
  split at h
  · cases h
  · split at h
    · cases h
    · split at h
      · exact ⟨by omega, by omega, by omega, by assumption⟩
      · cases h
theorem mem_take_succ {α : Type} {l : List α} {i : Nat} {a x : α} (h : l[i]? = some a) (hx : x ∈ l.take (i + 1)) : x ∈ l.take i ∨ x = a := by
  rw [List.take_add_one, h] at hx; simpa using hx
def Counts (ar : List I3) (k : Nat) : Prop := ∃ a, ar[k]? = some a ∧ a.1 ≠ a.2.1 ∧ ∀ (i : Nat) b, ar[i]? = some b → ¬ (b.1 = a.1 ∧ b.2.1 = a.2.1 ∧ (b.2.2 < a.2.2 ∨ b.2.2 = a.2.2 ∧ i < k))
noncomputable instance (ar : List I3) (k : Nat) : Decidable (Counts ar k) := Classical.propDecidable _
noncomputable def kept (ar : List I3) : List Int := (List.range ar.length).map fun k => if Counts ar k then 1 else 0
theorem kept_len (ar : List I3) : (kept ar).length = ar.length := by unfold kept; simp
theorem kept_snoc (ar : List I3) (k : Nat) : (List.range (k + 1)).map (fun k => if Counts ar k then (1 : Int) else 0) = (List.range k).map (fun k => if Counts ar k then (1 : Int) else 0) ++ [if Counts ar k then 1 else 0] := by rw [List.range_succ, List.map_append]; rfl
theorem counts_one {ar : List I3} {i j : Nat} {a b : I3} (hi : Counts ar i) (hj : Counts ar j) (ha : ar[i]? = some a) (hb : ar[j]? = some b) (h1 : a.1 = b.1) (h2 : a.2.1 = b.2.1) : i = j := by
  obtain ⟨a', ha', _, ka⟩ := hi
  obtain ⟨b', hb', _, kb⟩ := hj
  rw [ha] at ha'; rw [hb] at hb'
  cases ha'; cases hb'
  have e1 := ka j b hb
  have e2 := kb i a ha
  apply Decidable.byContradiction
  intro hne
  rcases Int.lt_trichotomy a.2.2 b.2.2 with h | h | h
  · exact e2 ⟨h1, h2, .inl h⟩
  · rcases Nat.lt_or_gt_of_ne hne with h' | h'
    · exact e2 ⟨h1, h2, .inr ⟨h, h'⟩⟩
    · exact e1 ⟨h1.symm, h2.symm, .inr ⟨h.symm, h'⟩⟩
  · exact e1 ⟨h1.symm, h2.symm, .inl h⟩
def selOne (ar : List I3) (ks : List Int) (v : Int) (k : Nat) : List I3 := match ar[k]? with
  | some a => if ks[k]? = some 1 ∧ a.1 = v then [(a.2.1, a.2.2, (k : Int))] else []
  | none => []
def sel (ar : List I3) (ks : List Int) (v : Int) (k : Nat) : List I3 := (List.range k).flatMap (selOne ar ks v)
theorem sel_succ (ar : List I3) (ks : List Int) (v : Int) (k : Nat) : sel ar ks v (k + 1) = sel ar ks v k ++ selOne ar ks v k := by unfold sel; rw [List.range_succ, List.flatMap_append]; simp
theorem mem_sel {ar : List I3} {ks : List Int} {v : Int} {e : I3} {n : Nat} (h : e ∈ sel ar ks v n) : ∃ (k : Nat) (a : I3), k < n ∧ ar[k]? = some a ∧ ks[k]? = some 1 ∧ a.1 = v ∧ e = (a.2.1, a.2.2, (k : Int)) := by
  unfold sel at h
  obtain ⟨k, hk, he⟩ := List.mem_flatMap.1 h
  unfold selOne at he
  split at he
  · rename_i a ha
    split at he
    · rename_i hc
      rw [List.mem_singleton] at he
      exact ⟨k, a, List.mem_range.1 hk, ha, hc.1, hc.2, he⟩
    · cases he
  · cases he
theorem perm_ins {α : Type} (l : List α) (k : Nat) (e : α) : (l.take k ++ [e] ++ l.drop k).Perm (l ++ [e]) := by
  have h : (l.take k ++ [e] ++ l.drop k).Perm (l.take k ++ (l.drop k ++ [e])) := by rw [List.append_assoc]; exact List.Perm.append_left _ List.perm_append_comm
  rw [← List.append_assoc, List.take_append_drop] at h
  exact h
theorem len_ins {α : Type} (l : List α) (k : Nat) (e : α) : (l.take k ++ [e] ++ l.drop k).length = l.length + 1 := by have := (perm_ins l k e).length_eq; simpa using this
end Go.Gr
set_option linter.unusedVariables false
namespace Go.Gr
open Go.Rl
def defd (d : List Int) : Nat := (d.filter fun x => decide (0 ≤ x)).length
def pot (B : Nat) (d : List Int) : Nat := (d.map fun x => if x < 0 then B + 1 else x.toNat).sum
structure Dist (n : Nat) (M : Int) (d : List Int) : Prop where
  len : d.length = n
  low : ∀ x ∈ d, -1 ≤ x
  high : ∀ x ∈ d, x ≤ ((defd d : Int) - 1) * M
theorem defd_le (d : List Int) : defd d ≤ d.length := List.length_filter_le _ _
theorem set_split {α : Type} {l : List α} {i : Nat} {a : α} (h : l[i]? = some a) : ∃ p q, l = p ++ a :: q ∧ p.length = i ∧ ∀ b, l.set i b = p ++ b :: q := by
  obtain ⟨hi, rfl⟩ := List.getElem?_eq_some_iff.1 h
  refine ⟨l.take i, l.drop (i + 1), ?_, ?_, fun b => ?_⟩
  · conv => lhs; rw [← List.take_append_drop i l, List.drop_eq_getElem_cons hi]
  · rw [List.length_take]; omega
  · rw [List.set_eq_take_append_cons_drop, if_pos hi]
theorem Dist.top {n : Nat} {M : Int} {d : List Int} (h : Dist n M d) (hM : 0 ≤ M) {x : Int} (hx : x ∈ d) : x ≤ (n : Int) * M := by
  have h1 := h.high x hx
  have h2 := defd_le d
  have h3 := h.len
  exact Int.le_trans h1 (Int.mul_le_mul_of_nonneg_right (by omega) hM)
theorem Dist.upd {n : Nat} {M : Int} {d : List Int} (h : Dist n M d) (hM : 0 ≤ M) {b : Nat} {x y W : Int} (hx : x ∈ d) (hb : d[b]? = some y) (hx0 : 0 ≤ x) (hW : 0 ≤ W ∧ W ≤ M) (hc : y < 0 ∨ x + W < y) : Dist n M (d.set b (x + W)) := by
  obtain ⟨p, q, rfl, hp, hset⟩ := set_split hb
  rw [hset]
  have hl := h.len
  have e1 : defd (p ++ y :: q) = defd p + (if 0 ≤ y then 1 else 0) + defd q := by
    unfold defd
    rw [List.filter_append, List.length_append, List.filter_cons]
    split <;> rename_i h1 <;> simp at h1 <;> simp [h1] <;> omega
  have e2 : defd (p ++ (x + W) :: q) = defd p + 1 + defd q := by
    unfold defd
    rw [List.filter_append, List.length_append, List.filter_cons, if_pos (by simp; omega), List.length_cons]
    omega
  have mono : ((defd (p ++ y :: q) : Int) - 1) * M ≤ ((defd (p ++ (x + W) :: q) : Int) - 1) * M := Int.mul_le_mul_of_nonneg_right (by rw [e1, e2]; split <;> omega) hM
  refine ⟨by simpa using hl, fun z hz => ?_, fun z hz => ?_⟩
  · rcases List.mem_append.1 hz with h1 | h1
    · exact h.low z (List.mem_append.2 (.inl h1))
    · rcases List.mem_cons.1 h1 with rfl | h1
      · omega
      · exact h.low z (List.mem_append.2 (.inr (List.mem_cons_of_mem _ h1)))
  · have old : ∀ z ∈ p ++ y :: q, z ≤ ((defd (p ++ (x + W) :: q) : Int) - 1) * M := fun z hz => Int.le_trans (h.high z hz) mono
    rcases List.mem_append.1 hz with h1 | h1
    · exact old z (List.mem_append.2 (.inl h1))
    · rcases List.mem_cons.1 h1 with rfl | h1
      · by_cases hy : 0 ≤ y
        · have : y ≤ _ := old y (by simp)
          omega
        · have h2 := h.high x hx
          have : ((defd (p ++ (x + W) :: q) : Int) - 1) * M = ((defd (p ++ y :: q) : Int) - 1) * M + M := by
            rw [e1, e2, if_neg hy]
            have : ((defd p + 1 + defd q : Nat) : Int) - 1 = (((defd p + 0 + defd q : Nat) : Int) - 1) + 1 := by omega
            rw [this, Int.add_mul, Int.one_mul]
          omega
      · exact old z (List.mem_append.2 (.inr (List.mem_cons_of_mem _ h1)))
theorem pot_upd {B : Nat} {d : List Int} {b : Nat} {y v : Int} (hb : d[b]? = some y) (hv : 0 ≤ v) (hvB : v ≤ B) (hc : y < 0 ∨ v < y) : pot B (d.set b v) < pot B d := by
  obtain ⟨p, q, rfl, hp, hset⟩ := set_split hb
  rw [hset]
  unfold pot
  simp only [List.map_append, List.map_cons, List.sum_append, List.sum_cons]
  rw [if_neg (show ¬ v < 0 by omega)]
  split <;> omega
theorem Dist.start {n s : Nat} {M : Int} (hM : 0 ≤ M) (hs : s < n) : Dist n M ((List.replicate n (-1 : Int)).set s 0) := by
  have hr : (List.replicate n (-1 : Int))[s]? = some (-1) := by rw [List.getElem?_replicate, if_pos hs]
  obtain ⟨p, q, e, hp, hset⟩ := set_split hr
  have hall : ∀ z ∈ p ++ (-1) :: q, z = -1 := fun z hz => by rw [← e] at hz; exact List.eq_of_mem_replicate hz
  have hz : ∀ l : List Int, (∀ z ∈ l, z = -1) → defd l = 0 := fun l hl => by
    unfold defd
    rw [List.length_eq_zero_iff, List.filter_eq_nil_iff]
    intro z hz; rw [hl z hz]; simp
  have hd : defd (p ++ 0 :: q) = 1 := by
    have h1 := hz p fun z hz' => hall z (by simp [hz'])
    have h2 := hz q fun z hz' => hall z (by simp [hz'])
    unfold defd at *
    rw [List.filter_append, List.length_append, List.filter_cons, if_pos (by simp), List.length_cons, h1, h2]
  rw [hset]
  refine ⟨?_, fun z hz' => ?_, fun z hz' => ?_⟩
  · have h2 : (List.replicate n (-1 : Int)).length = (p ++ (-1) :: q).length := congrArg List.length e
    rw [List.length_replicate] at h2
    rw [h2]; simp
  · rcases List.mem_append.1 hz' with h1 | h1
    · rw [hall z (by simp [h1])]; omega
    · rcases List.mem_cons.1 h1 with rfl | h1
      · omega
      · rw [hall z (by simp [h1])]; omega
  · rw [hd]
    rcases List.mem_append.1 hz' with h1 | h1
    · rw [hall z (by simp [h1])]; simp
    · rcases List.mem_cons.1 h1 with rfl | h1
      · simp
      · rw [hall z (by simp [h1])]; simp
theorem Dist.step {n : Nat} {M : Int} {d : List Int} (h : Dist n M d) (hM : 0 ≤ M) {a b : Nat} {x y W : Int} (hx : d[a]? = some x) (hb : d[b]? = some y) (hx0 : 0 ≤ x) (hW : 0 ≤ W ∧ W ≤ M) (hc : y < 0 ∨ x + W < y) :
    Dist n M (d.set b (x + W)) ∧ pot ((n : Int) * M).toNat (d.set b (x + W)) + 1 ≤ pot ((n : Int) * M).toNat d := by
  have h1 := h.upd hM (List.mem_of_getElem? hx) hb hx0 hW hc
  have hlt := (List.getElem?_eq_some_iff.1 hb).1
  have hm : (d.set b (x + W))[b]? = some (x + W) := by rw [List.getElem?_set, if_pos rfl, if_pos hlt]
  have h2 := h1.top hM (List.mem_of_getElem? hm)
  exact ⟨h1, pot_upd hb (by omega) (by omega) hc⟩
theorem all_rep {n : Nat} {d : List Int} {c : Int} (hl : d.length = n) (h : ∀ j, j < n → d[j]? = some c) : d = List.replicate n c := by
  refine List.ext_getElem? fun i => ?_
  rw [List.getElem?_replicate]
  split
  · exact h i ‹_›
  · exact List.getElem?_eq_none (by omega)
theorem all_set {d : List Int} {c : Int} {i : Nat} (hi : i < d.length) (h : ∀ j, j < i → d[j]? = some c) : ∀ j, j < i + 1 → (d.set i c)[j]? = some c := by
  intro j hj
  by_cases e : i = j
  · subst e; rw [List.getElem?_set, if_pos rfl, if_pos hi]
  · rw [List.getElem?_set, if_neg e]; exact h j (by omega)
theorem boolEx (b : Bool) : Value.bool b = Value.bool (decide (b = true)) := by cases b <;> rfl
def wayOf (ls : List I5) (u v : Int) : Option I3 := (ls.find? fun x => decide (x.1 = u ∧ x.2.1 = v)).map (·.2.2)
def HasWay (ls : List I5) (u v : Int) : Prop := (wayOf ls u v).isSome = true
noncomputable instance (ls : List I5) (u v : Int) : Decidable (HasWay ls u v) := Classical.propDecidable _
noncomputable def wayR (ls : List I5) (u v : Int) : Value := .tuple #[.agg #[.int .i64 ((wayOf ls u v).getD (0, 0, 0)).1, .int .i64 ((wayOf ls u v).getD (0, 0, 0)).2.1, .int .i64 ((wayOf ls u v).getD (0, 0, 0)).2.2], .bool (decide (HasWay ls u v))]
theorem wayR_some {ls : List I5} {u v : Int} {x : I3} (h : wayOf ls u v = some x) : wayR ls u v = .tuple #[.agg #[.int .i64 x.1, .int .i64 x.2.1, .int .i64 x.2.2], .bool true] := by unfold wayR; rw [decide_eq_true (show HasWay ls u v by unfold HasWay; rw [h]; rfl), h]; rfl
theorem wayR_none {ls : List I5} {u v : Int} (h : wayOf ls u v = none) : wayR ls u v = .tuple #[.agg #[.int .i64 0, .int .i64 0, .int .i64 0], .bool false] := by unfold wayR; rw [decide_eq_false (show ¬ HasWay ls u v by unfold HasWay; rw [h]; decide), h]; rfl
theorem wayOf_none {ls : List I5} {u v : Int} (h : ∀ x ∈ ls, ¬ (x.1 = u ∧ x.2.1 = v)) : wayOf ls u v = none := by
  unfold wayOf
  rw [List.find?_eq_none.2 fun x hx => by simpa using h x hx]; rfl
theorem wayOf_at {ls : List I5} {u v : Int} {i : Nat} {a : I5} (h : ∀ x ∈ ls.take i, ¬ (x.1 = u ∧ x.2.1 = v)) (ha : ls[i]? = some a) (h1 : a.1 = u) (h2 : a.2.1 = v) : wayOf ls u v = some a.2.2 := by
  unfold wayOf
  obtain ⟨hi, rfl⟩ := List.getElem?_eq_some_iff.1 ha
  conv => lhs; rw [← List.take_append_drop i ls, List.drop_eq_getElem_cons hi]
  rw [List.find?_append, List.find?_eq_none.2 fun x hx => by simpa using h x hx, Option.none_or, List.find?_cons, decide_eq_true ⟨h1, h2⟩]
  rfl
theorem wayOf_mem {ls : List I5} {u v : Int} {x : I3} (h : wayOf ls u v = some x) : (u, v, x) ∈ ls := by
  unfold wayOf at h
  rw [Option.map_eq_some_iff] at h
  obtain ⟨a, ha, rfl⟩ := h
  have h1 := List.find?_some ha
  simp only [decide_eq_true_eq] at h1
  have h2 := List.mem_of_find?_eq_some ha
  rw [← h1.1, ← h1.2]; exact h2
theorem HasWay.some {ls : List I5} {u v : Int} (h : HasWay ls u v) : ∃ x, wayOf ls u v = some x := Option.isSome_iff_exists.1 h
noncomputable def outsOf (ls : List I5) (v : Int) (k : Nat) : List Int := ((List.range k).filter fun x : Nat => decide (HasWay ls v (x : Int))).map Int.ofNat
noncomputable def insOf (ls : List I5) (v : Int) (k : Nat) : List Int := ((List.range k).filter fun x : Nat => decide (HasWay ls (x : Int) v)).map Int.ofNat
noncomputable def placesOf (ins : List Int) (k : Nat) : List Int := ((List.range k).filter fun x : Nat => decide (ins[x]? = some 1)).map Int.ofNat
theorem filter_range_succ (p : Nat → Bool) (k : Nat) : (((List.range (k + 1)).filter p).map Int.ofNat) = ((List.range k).filter p).map Int.ofNat ++ (if p k then [(k : Int)] else []) := by
  rw [List.range_succ, List.filter_append, List.map_append, List.filter_cons]
  congr 1
  split <;> simp
theorem filter_range_len (p : Nat → Bool) (k : Nat) : (((List.range k).filter p).map Int.ofNat).length ≤ k := by rw [List.length_map]; have := List.length_filter_le p (List.range k); rwa [List.length_range] at this
theorem mem_outs {ls : List I5} {v x : Int} {k : Nat} (h : x ∈ outsOf ls v k) : 0 ≤ x ∧ x < k ∧ HasWay ls v x := by
  unfold outsOf at h
  obtain ⟨y, hy, rfl⟩ := List.mem_map.1 h
  have := List.mem_filter.1 hy
  exact ⟨Int.natCast_nonneg _, by have := List.mem_range.1 this.1; show (y : Int) < k; omega, by simpa using this.2⟩
theorem mem_ins {ls : List I5} {v x : Int} {k : Nat} (h : x ∈ insOf ls v k) : 0 ≤ x ∧ x < k ∧ HasWay ls x v := by
  unfold insOf at h
  obtain ⟨y, hy, rfl⟩ := List.mem_map.1 h
  have := List.mem_filter.1 hy
  exact ⟨Int.natCast_nonneg _, by have := List.mem_range.1 this.1; show (y : Int) < k; omega, by simpa using this.2⟩
def IsIn (n : Nat) (ins : List Int) (v : Int) : Prop := 0 ≤ v ∧ v < n ∧ ins[v.toNat]? = some 1
noncomputable instance (n : Nat) (ins : List Int) (v : Int) : Decidable (IsIn n ins v) := Classical.propDecidable _
theorem mem_places {ins : List Int} {x : Int} {k : Nat} : x ∈ placesOf ins k ↔ IsIn k ins x := by
  unfold placesOf
  rw [List.mem_map]
  constructor
  · rintro ⟨y, hy, rfl⟩
    have h := List.mem_filter.1 hy
    exact ⟨Int.natCast_nonneg _, by have := List.mem_range.1 h.1; show (y : Int) < k; omega, by simpa using h.2⟩
  · rintro ⟨h0, h1, h2⟩
    exact ⟨x.toNat, List.mem_filter.2 ⟨List.mem_range.2 (by omega), by simpa using h2⟩, Int.toNat_of_nonneg h0⟩
structure TOk (n : Nat) (M : Int) (ins : List Int) (ls : List I5) : Prop where
  ins : ins.length = n
  ws : ∀ x ∈ ls, 0 ≤ x.1 ∧ x.1 < n ∧ 0 ≤ x.2.1 ∧ x.2.1 < n ∧ 0 ≤ x.2.2.1 ∧ x.2.2.1 ≤ M
def NoPut (n : Nat) (ins : List Int) (ls : List I5) (u v w mid : Int) : Prop := ¬ IsIn n ins u ∨ ¬ IsIn n ins v ∨ u = v ∨ w < 0 ∨ mid < 0 ∨ HasWay ls u v ∧ ((wayOf ls u v).getD (0, 0, 0)).1 ≤ w
noncomputable instance (n : Nat) (ins : List Int) (ls : List I5) (u v w mid : Int) : Decidable (NoPut n ins ls u v w mid) := Classical.propDecidable _
def without (ls : List I5) (u v : Int) : List I5 := ls.filter fun x => decide (¬ x.1 = u ∨ ¬ x.2.1 = v)
noncomputable def putT (n : Nat) (ins : List Int) (ls : List I5) (u v w mid : Int) : List I5 := if NoPut n ins ls u v w mid then ls else without ls u v ++ [(u, v, w, mid, -1)]
def takeT (ls : List I5) (v : Int) : List I5 := ls.filter fun x => decide (¬ x.1 = v ∧ ¬ x.2.1 = v)
theorem filter_take_succ {α : Type} {p : α → Bool} {l : List α} {i : Nat} {a : α} (h : l[i]? = some a) : (l.take (i + 1)).filter p = (l.take i).filter p ++ (if p a then [a] else []) := by
  rw [List.take_add_one, h, List.filter_append]
  congr 1
  show [a].filter p = _
  rw [List.filter_cons]; split <;> simp
theorem sel_len (l : List I3) (ks : List Int) (v : Int) (k : Nat) : (sel l ks v k).length ≤ k := by
  induction k with
  | zero => exact Nat.le_refl _
  | succ k ih =>
    rw [sel_succ, List.length_append]
    have : (selOne l ks v k).length ≤ 1 := by
      unfold selOne
      split
      · split <;> simp
      · simp
    omega
def edgeW (v : Int) (e : I3) : I5 := (v, e.1, e.2.1, -1, e.2.2)
def newL (l : List I3) (ks : List Int) (n : Nat) : List I5 := (List.range n).flatMap fun v : Nat => (sel l ks (v : Int) l.length).map (edgeW v)
theorem newL_succ (l : List I3) (ks : List Int) (n : Nat) : newL l ks (n + 1) = newL l ks n ++ (sel l ks (n : Int) l.length).map (edgeW n) := by unfold newL; rw [List.range_succ, List.flatMap_append]; simp
theorem map_take_succ {α β : Type} {l : List α} {q : Nat} {a : α} (f : α → β) (h : l[q]? = some a) : (l.take (q + 1)).map f = (l.take q).map f ++ [f a] := by rw [takeAt h, List.map_append]; rfl
structure NeedOk (n : Nat) (ls : List I5) (v : Int) (s : I5) : Prop where
  ends : s.1 ≠ s.2.1 ∧ s.2.2.2.1 = v ∧ s.2.2.2.2 = -1
  way : ∃ x y, wayOf ls s.1 v = some x ∧ wayOf ls v s.2.1 = some y ∧ s.2.2.1 = x.1 + y.1
end Go.Gr
set_option linter.unusedVariables false
namespace Go.Gr
open Go.Rl
abbrev B64 := BitVec 64
theorem ofInt_u64 (a : B64) : BitVec.ofInt 64 (a.toNat : Int) = a := by
  rw [BitVec.ofInt_natCast]; simp
theorem wrap_u64B (a : B64) : IntKind.u64.wrap (a.toNat : Int) = (a.toNat : Int) := by
  have := a.isLt
  simp only [IntKind.wrap, IntKind.bits, IntKind.signed, Bool.false_and, Bool.false_eq_true, if_false]
  omega
theorem s_conv (x : Int) : IntKind.u64.wrap x = ((BitVec.ofInt 64 x).toNat : Int) := by
  simp only [IntKind.wrap, IntKind.bits, IntKind.signed, Bool.false_and, Bool.false_eq_true, if_false, BitVec.toNat_ofInt]
  omega
theorem s_xor (a b : B64) : arith .xor .u64 (a.toNat : Int) (b.toNat : Int) = ((a ^^^ b).toNat : Int) := by
  simp only [arith]
  rw [show IntKind.u64.bits = 64 from rfl, ofInt_u64, ofInt_u64, wrap_u64B]
theorem s_mulG (a c : B64) : arith .mul .u64 (a.toNat : Int) (c.toNat : Int) = ((a * c).toNat : Int) := by
  simp only [arith, IntKind.wrap, IntKind.bits, IntKind.signed, Bool.false_and, Bool.false_eq_true, if_false, BitVec.toNat_mul]
  rw [Int.natCast_emod, Int.natCast_mul]
  rfl
theorem s_mul (a : B64) : arith .mul .u64 (a.toNat : Int) 1099511628211 = ((a * 1099511628211#64).toNat : Int) := s_mulG a 1099511628211#64
theorem s_shr (a : B64) : ((a.toNat : Int)).fdiv (2 ^ (min (32 : Int).toNat IntKind.u64.bits)) = ((a >>> 32).toNat : Int) := by
  rw [show min (32 : Int).toNat IntKind.u64.bits = 32 from rfl]
  rw [BitVec.toNat_ushiftRight, Nat.shiftRight_eq_div_pow, Int.fdiv_eq_ediv_of_nonneg _ (by decide)]
  have h2 : (2 : Nat) ^ 32 = 4294967296 := by decide
  have h3 : (2 : Int) ^ 32 = 4294967296 := by decide
  rw [h2, h3]
  omega
def mixed (h : B64) (x : Int) : B64 := (h ^^^ BitVec.ofInt 64 x) * 1099511628211#64
def stir (h : B64) (x : Int) : B64 := mixed h x ^^^ (mixed h x >>> 32)
def stirA (h : B64) (a : I3) : B64 := stir (stir (stir h a.1) a.2.1) a.2.2
def printB (n : Int) (l : List I3) : B64 := l.foldl stirA (stir 14695981039346656037#64 n)
theorem printB_succ {h : B64} {l : List I3} {i : Nat} {a : I3} (ha : l[i]? = some a) : (l.take (i + 1)).foldl stirA h = stirA ((l.take i).foldl stirA h) a := by rw [takeAt ha, List.foldl_append]; rfl
end Go.Gr
set_option linter.unusedVariables false
namespace Go.Gr
open Go.Rl
def cntE (l : List Int) (j : Int) : Nat := (l.filter fun x => decide (x = j)).length
def cntL (l : List Int) (j : Int) : Nat := (l.filter fun x => decide (x < j)).length
theorem cnt_split (l : List Int) (j : Int) : cntL l (j + 1) = cntL l j + cntE l j := by
  induction l with
  | nil => rfl
  | cons a r ih =>
    unfold cntL cntE at *
    simp only [List.filter_cons]
    by_cases h1 : a < j
    · rw [if_pos (by simp; omega), if_pos (by simpa using h1), if_neg (by simp; omega)]; simp only [List.length_cons]; omega
    · by_cases h2 : a = j
      · rw [if_pos (by simp; omega), if_neg (by simpa using h1), if_pos (by simpa using h2)]; simp only [List.length_cons]; omega
      · rw [if_neg (by simp; omega), if_neg (by simpa using h1), if_neg (by simpa using h2)]; exact ih
theorem cntE_le (l : List Int) (j : Int) : cntE l j ≤ l.length := List.length_filter_le _ _
theorem cntL_le (l : List Int) (j : Int) : cntL l j ≤ l.length := List.length_filter_le _ _
theorem cntE_take {l : List Int} {i : Nat} {a : Int} (h : l[i]? = some a) (j : Int) : cntE (l.take (i + 1)) j = cntE (l.take i) j + if a = j then 1 else 0 := by
  unfold cntE
  rw [takeAt h, List.filter_append, List.length_append]
  congr 1
  by_cases e : a = j
  · rw [if_pos e, List.filter_cons, if_pos (by simpa using e)]; rfl
  · rw [if_neg e, List.filter_cons, if_neg (by simpa using e)]; rfl
theorem cntE_lt {l : List Int} {i : Nat} {a : Int} (h : l[i]? = some a) : cntE (l.take i) a < cntE l a := by
  have h1 := cntE_take h a
  rw [if_pos rfl] at h1
  have h2 : cntE (l.take (i + 1)) a ≤ cntE l a := by
    unfold cntE
    exact ((List.take_sublist (i + 1) l).filter _).length_le
  omega
theorem cnt_pos {l : List Int} {i : Nat} {a : Int} (h : l[i]? = some a) : cntL l a + cntE (l.take i) a < l.length := by
  have h1 := cntE_lt h
  have h2 := cnt_split l a
  have h3 := cntL_le l (a + 1)
  omega
theorem cntE_none {l : List Int} {j : Int} (h : ∀ x ∈ l, x ≠ j) : cntE l j = 0 := by
  unfold cntE
  rw [List.length_eq_zero_iff, List.filter_eq_nil_iff]
  intro x hx; simpa using h x hx
theorem cntL_none {l : List Int} {j : Int} (h : ∀ x ∈ l, j ≤ x) : cntL l j = 0 := by
  unfold cntL
  rw [List.length_eq_zero_iff, List.filter_eq_nil_iff]
  intro x hx; have := h x hx; simp; omega
structure Cs (n : Nat) (cs : List Int) (f : Nat → Int) : Prop where
  len : cs.length = n + 1
  val : ∀ j, j ≤ n → cs[j]? = some (f j)
theorem Cs.at {n j : Nat} {cs : List Int} {f : Nat → Int} {x : Int} (h : Cs n cs f) (hx : cs[j]? = some x) : x = f j := by
  have hl := (List.getElem?_eq_some_iff.1 hx).1
  have h1 := h.val j (by have := h.len; omega)
  rw [hx] at h1
  exact Option.some.inj h1
theorem Cs.as {n : Nat} {cs : List Int} {f g : Nat → Int} (h : Cs n cs f) (e : ∀ j, j ≤ n → f j = g j) : Cs n cs g := ⟨h.len, fun j hj => by rw [h.val j hj, e j hj]⟩
theorem Cs.set {n i : Nat} {cs : List Int} {f g : Nat → Int} {x : Int} (h : Cs n cs f) (hi : i ≤ n) (hx : x = g i) (e : ∀ j, j ≤ n → j ≠ i → f j = g j) : Cs n (cs.set i x) g := by
  refine ⟨by rw [List.length_set]; exact h.len, fun j hj => ?_⟩
  rw [List.getElem?_set]
  by_cases hij : i = j
  · subst hij; rw [if_pos rfl, if_pos (by have := h.len; omega), hx]
  · rw [if_neg hij, h.val j hj, e j hj (Ne.symm hij)]
theorem Cs.zeros (n : Nat) : Cs n (List.replicate (n + 1) 0) fun _ => 0 := ⟨List.length_replicate, fun j hj => by rw [List.getElem?_replicate, if_pos (by omega)]⟩
def f0 (ks : List Int) (i : Nat) : Nat → Int := fun j => (cntE (ks.take i) ((j : Int) - 1) : Int)
def f1 (ks : List Int) (v : Nat) : Nat → Int := fun j => if j ≤ v then (cntL ks (j : Int) : Int) else (cntE ks ((j : Int) - 1) : Int)
def f2 (ks : List Int) (i : Nat) : Nat → Int := fun j => (cntL ks (j : Int) : Int) + (cntE (ks.take i) (j : Int) : Int)
theorem f0_start {n : Nat} {ks : List Int} : Cs n (List.replicate (n + 1) 0) (f0 ks 0) := (Cs.zeros n).as fun j _ => rfl
theorem f0_step {n i : Nat} {ks cs : List Int} {e x : Int} (h : Cs n cs (f0 ks i)) (hk : ks[i]? = some e) (h0 : 0 ≤ e) (h1 : e < n) (hx : cs[(e + 1).toNat]? = some x) : 0 ≤ x ∧ x ≤ ks.length ∧ Cs n (cs.set (e + 1).toNat (x + 1)) (f0 ks (i + 1)) := by
  have hv := h.at hx
  have he : (((e + 1).toNat : Nat) : Int) - 1 = e := by omega
  have hle := cntE_le (ks.take i) e
  rw [List.length_take] at hle
  refine ⟨by rw [hv]; exact Int.natCast_nonneg _, by rw [hv]; unfold f0; rw [he]; omega, h.set (by omega) ?_ fun j hj hne => ?_⟩
  · rw [hv]; unfold f0; rw [he, cntE_take hk, if_pos rfl]; simp
  · unfold f0; rw [cntE_take hk, if_neg (by omega)]; simp
theorem f1_start {n : Nat} {ks cs : List Int} (h : Cs n cs (f0 ks ks.length)) (hk : ∀ x ∈ ks, 0 ≤ x) : Cs n cs (f1 ks 0) := h.as fun j _ => by
  unfold f0 f1
  rw [List.take_length]
  split
  · rename_i h0
    have : j = 0 := by omega
    subst this
    rw [cntE_none (fun x hx => by have := hk x hx; omega), cntL_none (fun x hx => by simpa using hk x hx)]
  · rfl
theorem f1_step {n v : Nat} {ks cs : List Int} {x y : Int} (h : Cs n cs (f1 ks v)) (hv : v < n) (hx : cs[v + 1]? = some x) (hy : cs[v]? = some y) : 0 ≤ x ∧ x ≤ ks.length ∧ 0 ≤ y ∧ y ≤ ks.length ∧ Cs n (cs.set (v + 1) (x + y)) (f1 ks (v + 1)) := by
  have e1 := h.at hx
  have e2 := h.at hy
  unfold f1 at e1 e2
  rw [if_neg (by omega), show ((v + 1 : Nat) : Int) - 1 = (v : Int) by omega] at e1
  rw [if_pos (Nat.le_refl _)] at e2
  have l1 := cntE_le ks (v : Int)
  have l2 := cntL_le ks (v : Int)
  refine ⟨by omega, by omega, by omega, by omega, h.set (by omega) ?_ fun j hj hne => ?_⟩
  · unfold f1; rw [if_pos (Nat.le_refl _), e1, e2, show ((v + 1 : Nat) : Int) = (v : Int) + 1 by omega, cnt_split]; omega
  · unfold f1
    by_cases hj1 : j ≤ v
    · rw [if_pos hj1, if_pos (by omega)]
    · rw [if_neg hj1, if_neg (by omega)]
theorem f2_start {n : Nat} {ks cs : List Int} (h : Cs n cs (f1 ks n)) : Cs n cs (f2 ks 0) := h.as fun j hj => by
  unfold f1 f2
  rw [if_pos hj, List.take_zero]
  simp [cntE]
theorem f2_step {n i : Nat} {ks cs : List Int} {e x : Int} (h : Cs n cs (f2 ks i)) (hk : ks[i]? = some e) (h0 : 0 ≤ e) (h1 : e < n) (hx : cs[e.toNat]? = some x) : 0 ≤ x ∧ x < ks.length ∧ x = (cntL ks e : Int) + (cntE (ks.take i) e : Int) ∧ Cs n (cs.set e.toNat (x + 1)) (f2 ks (i + 1)) := by
  have hv := h.at hx
  have he : ((e.toNat : Nat) : Int) = e := by omega
  have hp := cnt_pos hk
  unfold f2 at hv
  rw [he] at hv
  refine ⟨by omega, by omega, hv, h.set (by omega) ?_ fun j hj hne => ?_⟩
  · unfold f2; rw [he, cntE_take hk, if_pos rfl]; omega
  · unfold f2; rw [cntE_take hk, if_neg (by omega)]; simp
def posOf (ks : List Int) (i : Nat) : Nat := cntL ks (ks.getD i 0) + cntE (ks.take i) (ks.getD i 0)
theorem cntL_mono (l : List Int) {a b : Int} (h : a ≤ b) : cntL l a ≤ cntL l b := by
  induction l with
  | nil => exact Nat.le_refl _
  | cons x r ih =>
    unfold cntL at *
    simp only [List.filter_cons]
    by_cases h1 : x < a
    · rw [if_pos (by simpa using h1), if_pos (by simp; omega)]; simp only [List.length_cons]; omega
    · rw [if_neg (by simpa using h1)]
      split
      · simp only [List.length_cons]; omega
      · exact ih
theorem cntE_take_mono (l : List Int) (j : Int) {a b : Nat} (h : a ≤ b) : cntE (l.take a) j ≤ cntE (l.take b) j := by
  have e : l.take a = (l.take b).take a := by rw [List.take_take, Nat.min_eq_left h]
  unfold cntE
  rw [e]
  exact ((List.take_sublist a (l.take b)).filter _).length_le
theorem posOf_inj {ks : List Int} {i j : Nat} (hij : i < j) (hj : j < ks.length) : posOf ks i ≠ posOf ks j := by
  have hi : ks[i]? = some (ks.getD i 0) := by rw [List.getD_eq_getElem?_getD, List.getElem?_eq_getElem (by omega)]; rfl
  have hj' : ks[j]? = some (ks.getD j 0) := by rw [List.getD_eq_getElem?_getD, List.getElem?_eq_getElem hj]; rfl
  unfold posOf
  generalize ks.getD i 0 = a at *
  generalize ks.getD j 0 = b at *
  have ha := cntE_lt hi
  have hb := cntE_lt hj'
  rcases Int.lt_trichotomy a b with h | h | h
  · have h1 := cntL_mono ks (show a + 1 ≤ b by omega)
    have h2 := cnt_split ks a
    omega
  · subst h
    have h1 := cntE_take hi a
    rw [if_pos rfl] at h1
    have h2 := cntE_take_mono ks a (show i + 1 ≤ j by omega)
    omega
  · have h1 := cntL_mono ks (show b + 1 ≤ a by omega)
    have h2 := cnt_split ks b
    omega
structure Laid (l ks os : List Int) (i : Nat) : Prop where
  len : os.length = l.length
  fits : ∀ j x, j < i → l[j]? = some x → os[posOf ks j]? = some x
theorem Laid.start {l ks : List Int} : Laid l ks (List.replicate l.length 0) 0 := ⟨List.length_replicate, fun j x hj => absurd hj (Nat.not_lt_zero _)⟩
theorem Laid.step {l ks os : List Int} {i : Nat} {x e p : Int} (h : Laid l ks os i) (hkl : ks.length = l.length) (hx : l[i]? = some x) (hk : ks[i]? = some e) (hp : p = (cntL ks e : Int) + (cntE (ks.take i) e : Int)) : Laid l ks (os.set p.toNat x) (i + 1) := by
  have hi := (List.getElem?_eq_some_iff.1 hx).1
  have hpos : p.toNat = posOf ks i := by
    unfold posOf
    rw [List.getD_eq_getElem?_getD, hk, hp]
    simp only [Option.getD_some]; omega
  have hlt := cnt_pos hk
  refine ⟨by rw [List.length_set]; exact h.len, fun j y hj hy => ?_⟩
  rw [List.getElem?_set, hpos]
  by_cases hij : j = i
  · subst hij
    rw [hx] at hy
    cases hy
    rw [if_pos rfl, if_pos (by rw [h.len]; have : p.toNat < ks.length := by omega
                               omega)]
  · rw [if_neg (fun e => posOf_inj (ks := ks) (show j < i by omega) (by omega) e.symm)]
    exact h.fits j y (by omega) hy
theorem erase_lt {m : Nat} {ps : List Nat} (hn : ps.Nodup) (hp : ∀ p ∈ ps, p < m + 1) : ∀ p ∈ ps.erase m, p < m := fun p h => by
  have h1 := (hn.mem_erase_iff).1 h
  have := hp p h1.2
  omega
theorem nodup_len : ∀ {m : Nat} {ps : List Nat}, ps.Nodup → (∀ p ∈ ps, p < m) → ps.length ≤ m := by
  intro m
  induction m with
  | zero =>
    intro ps _ hp
    cases ps with
    | nil => exact Nat.le_refl _
    | cons a r => exact absurd (hp a (List.mem_cons_self ..)) (Nat.not_lt_zero _)
  | succ m ih =>
    intro ps hn hp
    have h1 := ih (hn.erase m) (erase_lt hn hp)
    by_cases hm : m ∈ ps
    · rw [List.length_erase_of_mem hm] at h1; omega
    · rw [List.erase_of_not_mem hm] at h1; omega
theorem nodup_perm_range : ∀ {m : Nat} {ps : List Nat}, ps.length = m → ps.Nodup → (∀ p ∈ ps, p < m) → ps.Perm (List.range m) := by
  intro m
  induction m with
  | zero => intro ps hl _ _; rw [List.eq_nil_of_length_eq_zero hl]; exact .refl _
  | succ m ih =>
    intro ps hl hn hp
    have hm : m ∈ ps := by
      apply Classical.byContradiction
      intro hm
      have h1 := nodup_len (hn.erase m) (erase_lt hn hp)
      rw [List.erase_of_not_mem hm] at h1
      omega
    have h2 := ih (ps := ps.erase m) (by rw [List.length_erase_of_mem hm]; omega) (hn.erase m) (erase_lt hn hp)
    rw [List.range_succ]
    exact ((List.perm_cons_erase hm).trans (h2.cons m)).trans (List.perm_append_comm (l₁ := [m]))
theorem map_getD_range (l : List Int) : (List.range l.length).map (fun i => l.getD i 0) = l := by
  apply List.ext_getElem?
  intro i
  rw [List.getElem?_map]
  by_cases h : i < l.length
  · rw [List.getElem?_range h]; simp [List.getD_eq_getElem?_getD, List.getElem?_eq_getElem h]
  · rw [List.getElem?_eq_none (by rw [List.length_range]; omega), List.getElem?_eq_none (by omega)]; rfl
theorem posOf_lt {ks : List Int} {i : Nat} (hi : i < ks.length) : posOf ks i < ks.length := by
  have hk : ks[i]? = some (ks.getD i 0) := by rw [List.getD_eq_getElem?_getD, List.getElem?_eq_getElem hi]; rfl
  exact cnt_pos hk
theorem Laid.perm {l ks os : List Int} (h : Laid l ks os l.length) (hkl : ks.length = l.length) : os.Perm l := by
  have hps : ((List.range l.length).map (posOf ks)).Perm (List.range l.length) := by
    refine nodup_perm_range (by simp) ?_ ?_
    · rw [List.nodup_iff_pairwise_ne, List.pairwise_map]
      refine (List.pairwise_lt_range).imp_of_mem fun {a b} ha hb hab => posOf_inj hab (by have := List.mem_range.1 hb; omega)
    · intro p hp
      obtain ⟨i, hi, rfl⟩ := List.mem_map.1 hp
      have := posOf_lt (ks := ks) (i := i) (by have := List.mem_range.1 hi; omega)
      omega
  have h1 := (hps.map fun i => os.getD i 0)
  have e1 : (List.range l.length).map (fun i => os.getD i 0) = os := by rw [← h.len]; exact map_getD_range os
  have e2 : ((List.range l.length).map (posOf ks)).map (fun i => os.getD i 0) = l := by
    rw [List.map_map]
    conv => rhs; rw [← map_getD_range l]
    refine List.map_congr_left fun i hi => ?_
    have hi := List.mem_range.1 hi
    have h2 := h.fits i l[i] hi (List.getElem?_eq_getElem hi)
    show os.getD (posOf ks i) 0 = _
    rw [List.getD_eq_getElem?_getD, h2, List.getD_eq_getElem?_getD, List.getElem?_eq_getElem hi]
  rw [e1, e2] at h1
  exact h1.symm
def keyOf (ar : List I3) (q : I3 → Int) (k : Int) : Int := q (ar.getD k.toNat (0, 0, 0))
theorem keyOf_at {ar : List I3} {q : I3 → Int} {k : Int} {a : I3} (h : ar[k.toNat]? = some a) : keyOf ar q k = q a := by unfold keyOf; rw [List.getD_eq_getElem?_getD, h]; rfl
def keysOf (ar : List I3) (q : I3 → Int) (l : List Int) : List Int := l.map (keyOf ar q)
theorem keysOf_len (ar : List I3) (q : I3 → Int) (l : List Int) : (keysOf ar q l).length = l.length := List.length_map _
theorem keysOf_at {ar : List I3} {q : I3 → Int} {l : List Int} {i : Nat} {k : Int} {a : I3} (hk : l[i]? = some k) (ha : ar[k.toNat]? = some a) : (keysOf ar q l)[i]? = some (q a) := by unfold keysOf; rw [List.getElem?_map, hk]; simp [keyOf_at ha]
theorem keysOf_nn {ar : List I3} {q : I3 → Int} {l : List Int} (hv : ∀ k ∈ l, 0 ≤ k ∧ k < (ar.length : Int)) (hq : ∀ a ∈ ar, 0 ≤ q a) : ∀ x ∈ keysOf ar q l, 0 ≤ x := by
  intro x hx
  obtain ⟨k, hk, rfl⟩ := List.mem_map.1 hx
  have h := hv k hk
  have hlt : k.toNat < ar.length := by omega
  rw [keyOf_at (List.getElem?_eq_getElem hlt)]
  exact hq _ (List.getElem_mem hlt)
end Go.Gr
namespace Go.Gr
open Go.Rl
def vB (b : Bool) : Value := .bool (decide (b = true))
def encI (x : Int) : Array Value := #[.int .i64 x]
def RdI (_ : Nat → Prop) (_ : Int) (_ : World) : Prop := True
def restI (p : Nat → Bool) : Nat → Nat → List Int
  | _, 0 => []
  | i, k + 1 => if p i then (i : Int) :: restI p (i + 1) k else restI p (i + 1) k
theorem restI_pos {p : Nat → Bool} {i k : Nat} (hk : 0 < k) (h : p i = true) : restI p i k = (i : Int) :: restI p (i + 1) (k - 1) := by
  obtain ⟨k, rfl⟩ : ∃ q, k = q + 1 := ⟨k - 1, by omega⟩
  rw [restI, if_pos h]; rfl
theorem restI_neg {p : Nat → Bool} {i k : Nat} (hk : 0 < k) (h : p i = false) : restI p i k = restI p (i + 1) (k - 1) := by
  obtain ⟨k, rfl⟩ : ∃ q, k = q + 1 := ⟨k - 1, by omega⟩
  rw [restI, if_neg (by rw [h]; simp)]; rfl
theorem mem_restI {p : Nat → Bool} {x : Int} : ∀ {k i : Nat}, x ∈ restI p i k ↔ ∃ j : Nat, i ≤ j ∧ j < i + k ∧ p j = true ∧ x = (j : Int) := by
  intro k
  induction k with
  | zero => intro i; simp [restI]; intro j h1 h2; omega
  | succ k ih =>
    intro i
    rw [restI]
    by_cases h : p i = true
    · rw [if_pos h, List.mem_cons, ih]
      constructor
      · rintro (rfl | ⟨j, h1, h2, h3, h4⟩)
        · exact ⟨i, Nat.le_refl _, by omega, h, rfl⟩
        · exact ⟨j, by omega, by omega, h3, h4⟩
      · rintro ⟨j, h1, h2, h3, h4⟩
        rcases Nat.eq_or_lt_of_le h1 with e | e
        · subst e; exact .inl h4
        · exact .inr ⟨j, e, by omega, h3, h4⟩
    · rw [if_neg h, ih]
      constructor
      · rintro ⟨j, h1, h2, h3, h4⟩; exact ⟨j, by omega, by omega, h3, h4⟩
      · rintro ⟨j, h1, h2, h3, h4⟩
        rcases Nat.eq_or_lt_of_le h1 with e | e
        · subst e; exact absurd h3 h
        · exact ⟨j, e, by omega, h3, h4⟩
theorem restI_len (p : Nat → Bool) : ∀ (k i : Nat), (restI p i k).length ≤ k := by
  intro k
  induction k with
  | zero => intro i; exact Nat.le_refl _
  | succ k ih =>
    intro i
    rw [restI]
    have := ih (i + 1)
    split
    · rw [List.length_cons]; omega
    · omega
def isWay (ar : List I3) (i : Nat) : Bool := decide (∃ a, ar[i]? = some a ∧ ¬ a.1 = a.2.1)
theorem isWay_t {ar : List I3} {i : Nat} {a : I3} (h : ar[i]? = some a) (hne : ¬ a.1 = a.2.1) : isWay ar i = true := decide_eq_true ⟨a, h, hne⟩
theorem isWay_f {ar : List I3} {i : Nat} {a : I3} (h : ar[i]? = some a) (hne : ¬ ¬ a.1 = a.2.1) : isWay ar i = false := decide_eq_false fun ⟨b, hb, h2⟩ => by rw [h] at hb; cases hb; exact hne h2
def isOn (bs : List Bool) (i : Nat) : Bool := decide (bs[i]? = some true)
theorem isOn_t {bs : List Bool} {i : Nat} {b : Bool} (h : bs[i]? = some b) (hb : b = true) : isOn bs i = true := decide_eq_true (by rw [h, hb])
theorem isOn_f {bs : List Bool} {i : Nat} {b : Bool} (h : bs[i]? = some b) (hb : ¬ b = true) : isOn bs i = false := decide_eq_false (by rw [h]; intro e; cases e; exact hb rfl)
def AppT (α : Type) (s : Value × List α) (x : α) (b : Bool) (s' : Value × List α) : Prop := b = true ∧ s'.2 = s.2 ++ [x]
theorem AppT.on {α : Type} : ∀ s x b s', AppT α s x b s' → b = true := fun _ _ _ _ h => h.1
theorem app_run {α : Type} {s0 s : Value × List α} {pre : List α} (h : Run (AppT α) id s0 pre s) : s.2 = s0.2 ++ pre := by
  induction h with
  | nil => simp
  | snoc _ ht ih => rw [ht.2, ih, List.append_assoc]; rfl
theorem app_len {α : Type} {s0 s : Value × List α} {pre xs post : List α} {x : α} (h : Run (AppT α) id s0 pre s) (h0 : s0.2 = []) (hx : xs = pre ++ id x :: post) : s.2.length < xs.length := by
  have h1 := app_run h
  rw [h0, List.nil_append] at h1
  rw [h1, hx]; simp
def edgeOf (ar : List I3) (q : I3 → Int) (k : Int) : I3 := (keyOf ar q k, keyOf ar (·.2.2) k, k)
theorem edgeOf_at {ar : List I3} {q : I3 → Int} {k : Int} {a : I3} (h : ar[k.toNat]? = some a) : edgeOf ar q k = (q a, a.2.2, k) := by unfold edgeOf; rw [keyOf_at h, keyOf_at h]
end Go.Gr
set_option linter.unusedVariables false
set_option linter.unusedSimpArgs false
namespace Go.Proofs.YtngkdkbpgoddlaaGreat
open Go.RowKit Go.Rl
open Go.Gr
set_option maxHeartbeats 4000000 in
set_option maxRecDepth 100000 in
theorem from_calls (k : Int) (gm : Nat) (n : Int) (mv : Value) (ar : List I3) (a : I3) (w : World) (hb : Blk w gm [.int .i64 n, mv] 24) (hm : Sm i3cells w mv ar) (h0 : 0 ≤ k) (ha : ar[k.toNat]? = some a) : Gives Tryz.prog 145 #[.int .i64 k, .pointer (some ⟨gm, 0, none⟩)] w fun r w' => r = .int .i64 a.1 ∧ Ext w w' := by
 refine Gives.start Tryz.func145 rfl (Nat.le_of_ble_eq_true rfl) ?_
 rw [args2]
 have hN := Now.nil w none_
 have hlt := (List.getElem?_eq_some_iff.1 ha).1
 refine RW.seq (RW.region (RL.ev (v := .int .i64 (0)) rfl rfl ev_assign (RL.nil (thenN (RW.seq (RW.region (RL.ev rfl rfl (ev_fieldAddr Tryz.underlying24 rfl sz22 (by decide) rfl) (RL.ev rfl rfl (ev_loadB Tryz.underlying22 rfl rfl (hb.ext hN.ext0) rfl) (RL.ev (v := .int .i64 (k)) rfl rfl ev_move ?_)))))))))
 refine RL.ev rfl rfl (ev_indexM Tryz.underlying22 sz100 i3cells_len (by decide) (hm.o.now hN) rfl rfl (by omega) (by omega)) (RL.ev rfl rfl (ev_fieldM (m := (k).toNat) (b := 0) Tryz.underlying100 rfl sz3 (by decide) i3cells_len (hm.o.now hN) ha rfl rfl) (RL.ev rfl rfl (ev_loadMF (m := (k).toNat) (j := 0) (a := a) Tryz.underlying3 rfl i3cells_len (hm.o.now hN) rfl ha rfl) (RL.ev (v := .int .i64 (a.1)) rfl rfl ev_assign (RL.nil (thenN (RW.ret (retI (RV.tmp rfl) ?_)))))))
 exact ⟨rfl, hN.ext0⟩
set_option maxHeartbeats 4000000 in
set_option maxRecDepth 100000 in
theorem to_calls (k : Int) (gm : Nat) (n : Int) (mv : Value) (ar : List I3) (a : I3) (w : World) (hb : Blk w gm [.int .i64 n, mv] 24) (hm : Sm i3cells w mv ar) (h0 : 0 ≤ k) (ha : ar[k.toNat]? = some a) : Gives Tryz.prog 146 #[.int .i64 k, .pointer (some ⟨gm, 0, none⟩)] w fun r w' => r = .int .i64 a.2.1 ∧ Ext w w' := by
 refine Gives.start Tryz.func146 rfl (Nat.le_of_ble_eq_true rfl) ?_
 rw [args2]
 have hN := Now.nil w none_
 have hlt := (List.getElem?_eq_some_iff.1 ha).1
 refine RW.seq (RW.region (RL.ev (v := .int .i64 (0)) rfl rfl ev_assign (RL.nil (thenN (RW.seq (RW.region (RL.ev rfl rfl (ev_fieldAddr Tryz.underlying24 rfl sz22 (by decide) rfl) (RL.ev rfl rfl (ev_loadB Tryz.underlying22 rfl rfl (hb.ext hN.ext0) rfl) (RL.ev (v := .int .i64 (k)) rfl rfl ev_move ?_)))))))))
 refine RL.ev rfl rfl (ev_indexM Tryz.underlying22 sz100 i3cells_len (by decide) (hm.o.now hN) rfl rfl (by omega) (by omega)) (RL.ev rfl rfl (ev_fieldM (m := (k).toNat) (b := 0) Tryz.underlying100 rfl sz3 (by decide) i3cells_len (hm.o.now hN) ha rfl rfl) (RL.ev rfl rfl (ev_loadMF (m := (k).toNat) (j := 1) (a := a) Tryz.underlying3 rfl i3cells_len (hm.o.now hN) rfl ha rfl) (RL.ev (v := .int .i64 (a.2.1)) rfl rfl ev_assign (RL.nil (thenN (RW.ret (retI (RV.tmp rfl) ?_)))))))
 exact ⟨rfl, hN.ext0⟩
set_option maxHeartbeats 4000000 in
set_option maxRecDepth 100000 in
theorem sorted_from (n : Nat) (lv : Value) (l : List Int) (gm : Nat) (mv : Value) (ar : List I3) (w : World) (hl : Sl vI w lv l) (hb : Blk w gm [.int .i64 (n : Int), mv] 24) (hm : Sm i3cells w mv ar) (hok : ∀ a ∈ ar, okA n a) (hv : ∀ k ∈ l, 0 ≤ k ∧ k < (ar.length : Int)) (hn : n ≤ 16777216) (hll : l.length ≤ 67108864) : Gives Tryz.prog 149 #[.int .i64 (n : Int), lv, .func (.func 145) #[] #[.pointer (some ⟨gm, 0, none⟩)]] w fun r w' => ∃ os, Own vI 3 w' w.heap.size r os ∧ Laid l (keysOf ar (·.1) l) os l.length ∧ Ext w w' := by
 refine Gives.start Tryz.func149 rfl (Nat.le_of_ble_eq_true rfl) ?_
 rw [args3]
 have hN := Now.nil w none_
 have hkl := keysOf_len ar (·.1) l
 have hknn : ∀ x ∈ (keysOf ar (·.1) l), 0 ≤ x := keysOf_nn hv (fun a ha => by obtain ⟨h0, _, h2, _⟩ := hok a ha; first | exact h0 | exact h2)
 refine RW.seq (RW.region (RL.ev (v := .slice none 0 0) rfl rfl ev_assign (RL.nil (thenN (RW.seq (RW.region (RL.ev (v := .int .i64 ((n : Int))) rfl rfl ev_move (RL.ev rfl rfl (ev_arith rfl rfl rfl ((add64 (by omega) (by omega)).trans (by omega : (n : Int) + 1 = ((n + 1 : Nat) : Int)))) ?_))))))))
 refine RL.op rfl rfl (opN_make (enc := vI) (z := 0) Tryz.underlying25 inf3 rfl hN rfl (by omega) (by omega) (by omega) ?_)
 clear hN
 intro v1 w1 (hN : Now w none_ w1 [_])
 refine RL.ev (v := v1) rfl rfl ev_assign (RL.nil (thenN ?_))
 iterate 2 refine RW.seq ?_
 refine RW.region (RL.ev (v := lv) rfl rfl ev_move ?_)
 have hL_2 := (hl.o.now hN).len_le
 refine RL.ev rfl rfl (ev_lenS Tryz.underlying25 (hl.o.now hN) rfl) (RL.ev (v := .int .i64 (0)) rfl rfl ev_move (RL.nil (thenN (RW.block ?_))))
 refine RW.loop (fun k R0 w0' => ∃ cs : List Int, ∃ i : Nat, R0 0 = .int .i64 ((n : Int)) ∧ R0 1 = lv ∧ R0 2 = .func (.func 145) #[] #[.pointer (some ⟨gm, 0, none⟩)] ∧ R0 7 = v1 ∧ R0 17 = lv ∧ R0 18 = .int .i64 ((l.length : Int)) ∧ R0 19 = .int .i64 ((i : Int)) ∧ Now w none_ w0' [.own vI 3 (v1) (cs)] ∧ (i + k = l.length) ∧ (Cs n cs (f0 (keysOf ar (·.1) l) i))) (l.length) ?_ ?_
 exact ⟨List.replicate (n + 1) 0, 0, rfl, rfl, rfl, rfl, rfl, rfl, rfl, hN, by omega, f0_start⟩
 clear hN
 rintro k R0 w0' ⟨cs, i, hr0_, hr1_, hr2_, hr7_, hr17_, hr18_, hr19_, hN, hik, hcs⟩
 have hR_ : ∃ R0_, R0 = (upd (upd (upd (upd (upd (upd (upd R0_ 0 _) 1 _) 2 _) 7 _) 17 _) 18 _) 19 _) := ⟨R0, by rw [upd_self hr0_, upd_self hr1_, upd_self hr2_, upd_self hr7_, upd_self hr17_, upd_self hr18_, upd_self hr19_]⟩
 obtain ⟨R0_, rfl⟩ := hR_
 clear hr0_ hr1_ hr2_ hr7_ hr17_ hr18_ hr19_
 refine RW.seq (RW.region (RL.ev rfl rfl (ev_lss rfl rfl) (RL.nil (thenN (RW.seq ?_)))))
 refine RW.condP _ rfl (fun hlt => ?_) (fun hlt => ?_)
 refine RW.skip (thenN (RW.seq (RW.block (RW.seq (RW.region (RL.ev rfl rfl (ev_index Tryz.underlying25 sz3 (hl.o.now hN) rfl rfl (by omega) (by omega)) ?_))))))
 have hOb_ : ∃ a_, (l)[i]? = some a_ := ⟨_, List.getElem?_eq_getElem (by omega)⟩
 obtain ⟨ap, hap⟩ := hOb_
 refine RL.ev rfl rfl (ev_loadG (m := i) (a := ap) Tryz.underlying3 rfl (hl.o.now hN) rfl hap) (RL.ev (v := .int .i64 (ap)) rfl rfl ev_assign (RL.nil (thenN ?_)))
 have hcl := hcs.len
 refine RW.region (RL.ev (v := v1) rfl rfl ev_move (RL.ev (v := .func (.func 145) #[] #[.pointer (some ⟨gm, 0, none⟩)]) rfl rfl ev_move (RL.ev (v := .int .i64 (ap)) rfl rfl ev_move ?_)))
 have hkv4 : 0 ≤ ap ∧ ap < (ar.length : Int) := hv ap (List.mem_of_getElem? hap)
 have hOb_ : ∃ a_, ar[(ap).toNat]? = some a_ := ⟨_, List.getElem?_eq_getElem (by omega)⟩
 obtain ⟨b4, hb4⟩ := hOb_
 have hOb_ := hok b4 (List.mem_of_getElem? hb4)
 obtain ⟨hq40, hq41, hq42, hq43, hq44, hq45⟩ := hOb_
 refine RL.op rfl rfl (op_callw1 (first := #[]) (captured := #[.pointer (some ⟨gm, 0, none⟩)]) (v0 := .int .i64 (ap)) (args := #[.int .i64 (ap), .pointer (some ⟨gm, 0, none⟩)]) Tryz.func145 rfl rfl (by simp) rfl rfl ((from_calls (ap) gm ((n : Int)) _ ar b4 _ (hb.ext hN.ext0) (hm.o.now hN) hkv4.1 hb4).mono ?_))
 rintro _ w3 ⟨rfl, he_⟩
 replace hN := hN.ext he_
 clear he_
 refine RL.ev rfl rfl (ev_arith rfl rfl rfl (add64 (by omega) (by omega))) (RL.ev rfl rfl (ev_index Tryz.underlying25 sz3 (hN.sl 0 rfl) rfl rfl (by omega) (by omega)) ?_)
 have hOb_ : ∃ a_, (cs)[(b4.1 + 1).toNat]? = some a_ := ⟨_, List.getElem?_eq_getElem (by omega)⟩
 obtain ⟨ac, hac⟩ := hOb_
 refine RL.ev rfl rfl (ev_loadG (m := (b4.1 + 1).toNat) (a := ac) Tryz.underlying3 rfl (hN.sl 0 rfl) rfl hac) ?_
 have hst := f0_step hcs (keysOf_at hap hb4) (by omega) (by omega) hac
 obtain ⟨hx0, hx1, hst⟩ := hst
 refine RL.ev rfl rfl (ev_arith rfl rfl rfl (add64 (by omega) (by omega))) (RL.ev rfl rfl (ev_index Tryz.underlying25 sz3 (hN.sl 0 rfl) rfl rfl (by omega) (by omega)) ?_)
 refine RL.op rfl rfl (opN_storeOwn (m := (b4.1 + 1).toNat) (a := (ac + 1)) sz3 hN 0 rfl rfl (by omega) rfl rfl rfl rfl ?_)
 clear hN
 intro w5 (hN : Now w none_ w5 [_])
 refine RL.nil (blockN (thenN (RW.region (RL.ev rfl rfl (ev_arith rfl rfl rfl (add64 (by omega) (by omega))) (RL.ev (v := .int .i64 ((i : Int) + 1)) rfl rfl ev_move (RL.nil (thenN ?_)))))))
 exact ⟨k - 1, by omega, (cs).set (b4.1 + 1).toNat ((ac + 1)), i + 1, rfl, rfl, rfl, rfl, rfl, rfl, rfl, hN, by omega, hst⟩
 refine RW.exit ?_
 iterate 2 refine thenX ?_
 refine blockHit (thenN ?_)
 iterate 2 refine RW.seq ?_
 refine RW.region (RL.ev (v := .int .i64 ((n : Int))) rfl rfl ev_move (RL.ev (v := .int .i64 (0)) rfl rfl ev_move (RL.nil (thenN (RW.block ?_)))))
 refine RW.loop (fun k1 R1 w1' => ∃ cs1 : List Int, ∃ v : Nat, R1 1 = lv ∧ R1 2 = .func (.func 145) #[] #[.pointer (some ⟨gm, 0, none⟩)] ∧ R1 7 = v1 ∧ R1 33 = .int .i64 ((n : Int)) ∧ R1 34 = .int .i64 ((v : Int)) ∧ Now w none_ w1' [.own vI 3 (v1) (cs1)] ∧ (v + k1 = n) ∧ (Cs n cs1 (f1 (keysOf ar (·.1) l) v))) (n) ?_ ?_
 exact ⟨cs, 0, rfl, rfl, rfl, rfl, rfl, hN, by omega, f1_start (by rw [hkl, ← (show i = l.length by omega)]; exact hcs) hknn⟩
 clear hN
 rintro k1 R1 w1' ⟨cs1, v, hr1_, hr2_, hr7_, hr33_, hr34_, hN, hvk, hcs1⟩
 have hR_ : ∃ R1_, R1 = (upd (upd (upd (upd (upd R1_ 1 _) 2 _) 7 _) 33 _) 34 _) := ⟨R1, by rw [upd_self hr1_, upd_self hr2_, upd_self hr7_, upd_self hr33_, upd_self hr34_]⟩
 obtain ⟨R1_, rfl⟩ := hR_
 clear hr1_ hr2_ hr7_ hr33_ hr34_
 refine RW.seq (RW.region (RL.ev rfl rfl (ev_lss rfl rfl) (RL.nil (thenN (RW.seq ?_)))))
 refine RW.condP _ rfl (fun hlt1 => ?_) (fun hlt1 => ?_)
 refine RW.skip (thenN (RW.seq (RW.block (RW.seq (RW.region (RL.ev (v := .int .i64 ((v : Int))) rfl rfl ev_move (RL.ev (v := .int .i64 ((v : Int))) rfl rfl ev_assign (RL.nil (thenN ?_)))))))))
 have hcl := hcs1.len
 have hOb_ : ∃ a_, cs1[v + 1]? = some a_ := ⟨_, List.getElem?_eq_getElem (by omega)⟩
 obtain ⟨ax, hax⟩ := hOb_
 have hOb_ : ∃ a_, cs1[v]? = some a_ := ⟨_, List.getElem?_eq_getElem (by omega)⟩
 obtain ⟨ay, hay⟩ := hOb_
 have hst := f1_step hcs1 (by omega) hax hay
 obtain ⟨hx0, hx1, hy0, hy1, hst⟩ := hst
 replace hN := hN.ext (Ext.drew w1')
 refine RW.drawR rfl (fun u => Now w none_ u [.own vI 3 (v1) (cs1)]) 11 [(0,0), (1,0), (2,0), (3,0), (4,0), (5,0), (6,0), (7,0), (8,0), (9,0), (10,0), (11,2)] (by intro _ _ _ h; exact h) (by kernel_rfl) hN (RQ.ev (v := v1) rfl rfl (fun w hS => ev_move) (RQ.ev (v := .int .i64 ((v : Int))) rfl rfl (fun w hS => ev_move) (RQ.ev rfl rfl (fun w hS => (ev_arith rfl rfl rfl ((add64 (by omega) (by omega)).trans (by omega : (v : Int) + 1 = ((v + 1 : Nat) : Int))))) (RQ.ev rfl rfl (fun w hS => (ev_index Tryz.underlying25 sz3 (hS.sl 0 rfl) rfl rfl (by omega) (by omega))) (RQ.ev rfl rfl (fun w hS => (ev_loadG (m := (v + 1)) (a := ax) Tryz.underlying3 rfl (hS.sl 0 rfl) rfl hax)) (RQ.ev (v := v1) rfl rfl (fun w hS => ev_move) (RQ.ev (v := .int .i64 ((v : Int))) rfl rfl (fun w hS => ev_move) (RQ.ev rfl rfl (fun w hS => (ev_index Tryz.underlying25 sz3 (hS.sl 0 rfl) rfl rfl (by omega) (by omega))) (RQ.ev rfl rfl (fun w hS => (ev_loadG (m := v) (a := ay) Tryz.underlying3 rfl (hS.sl 0 rfl) rfl hay)) ?_)))))))))
 refine RQ.ev rfl rfl (fun w hS => (ev_arith rfl rfl rfl (add64 (by omega) (by omega)))) (RQ.ev rfl rfl (fun w hS => (ev_index Tryz.underlying25 sz3 (hS.sl 0 rfl) rfl rfl (by omega) (by omega))) ?_)
 refine RQ.last rfl rfl (opN_storeOwn (m := (v + 1)) (a := (ax + ay)) sz3 hN 0 rfl rfl (by omega) rfl rfl rfl rfl ?_)
 clear hN
 intro w8 (hN : Now w none_ w8 [_])
 refine RZ.done (by kernel_rfl) (blockN (thenN (RW.region (RL.ev rfl rfl (ev_arith rfl rfl rfl (add64 (by omega) (by omega))) (RL.ev (v := .int .i64 ((v : Int) + 1)) rfl rfl ev_move (RL.nil (thenN ?_)))))))
 exact ⟨k1 - 1, by omega, (cs1).set (v + 1) ((ax + ay)), v + 1, rfl, rfl, rfl, rfl, rfl, hN, by omega, hst⟩
 refine RW.exit ?_
 iterate 2 refine thenX ?_
 refine blockHit (thenN (RW.seq (RW.region (RL.ev (v := lv) rfl rfl ev_move (RL.ev rfl rfl (ev_lenS Tryz.underlying25 (hl.o.now hN) rfl) ?_)))))
 refine RL.op rfl rfl (opN_make (enc := vI) (z := 0) Tryz.underlying25 inf3 rfl hN rfl (by omega) (by omega) (by omega) ?_)
 clear hN
 intro v9 w9 (hN : Now w none_ w9 [_, _])
 refine RL.ev (v := v9) rfl rfl ev_assign (RL.nil (thenN ?_))
 iterate 2 refine RW.seq ?_
 refine RW.region (RL.ev (v := lv) rfl rfl ev_move (RL.ev rfl rfl (ev_lenS Tryz.underlying25 (hl.o.now hN) rfl) (RL.ev (v := .int .i64 (0)) rfl rfl ev_move (RL.nil (thenN (RW.block ?_))))))
 refine RW.loop (fun k2 R2 w2' => ∃ cs2 : List Int, ∃ os : List Int, ∃ j : Nat, R2 2 = .func (.func 145) #[] #[.pointer (some ⟨gm, 0, none⟩)] ∧ R2 7 = v1 ∧ R2 11 = v9 ∧ R2 52 = lv ∧ R2 53 = .int .i64 ((l.length : Int)) ∧ R2 54 = .int .i64 ((j : Int)) ∧ Now w none_ w2' [.own vI 3 (v9) (os), .own vI 3 (v1) (cs2)] ∧ (j + k2 = l.length) ∧ (Cs n cs2 (f2 (keysOf ar (·.1) l) j)) ∧ (Laid l (keysOf ar (·.1) l) os j)) (l.length) ?_ ?_
 have hcs2_ : Cs n cs1 (f1 (keysOf ar (·.1) l) n) := by
   have e_ : v = n := by omega
   rw [e_] at hcs1; exact hcs1
 exact ⟨cs1, List.replicate l.length 0, 0, rfl, rfl, rfl, rfl, rfl, rfl, hN, by omega, f2_start hcs2_, Laid.start⟩
 clear hN
 rintro k2 R2 w2' ⟨cs2, os, j, hr2_, hr7_, hr11_, hr52_, hr53_, hr54_, hN, hjk, hcs2, hlay⟩
 have hR_ : ∃ R2_, R2 = (upd (upd (upd (upd (upd (upd R2_ 2 _) 7 _) 11 _) 52 _) 53 _) 54 _) := ⟨R2, by rw [upd_self hr2_, upd_self hr7_, upd_self hr11_, upd_self hr52_, upd_self hr53_, upd_self hr54_]⟩
 obtain ⟨R2_, rfl⟩ := hR_
 clear hr2_ hr7_ hr11_ hr52_ hr53_ hr54_
 refine RW.seq (RW.region (RL.ev rfl rfl (ev_lss rfl rfl) (RL.nil (thenN (RW.seq ?_)))))
 refine RW.condP _ rfl (fun hlt2 => ?_) (fun hlt2 => ?_)
 refine RW.skip (thenN (RW.seq (RW.block (RW.seq (RW.region (RL.ev rfl rfl (ev_index Tryz.underlying25 sz3 (hl.o.now hN) rfl rfl (by omega) (by omega)) ?_))))))
 have hOb_ : ∃ a_, (l)[j]? = some a_ := ⟨_, List.getElem?_eq_getElem (by omega)⟩
 obtain ⟨aq, haq⟩ := hOb_
 refine RL.ev rfl rfl (ev_loadG (m := j) (a := aq) Tryz.underlying3 rfl (hl.o.now hN) rfl haq) (RL.ev (v := .int .i64 (aq)) rfl rfl ev_assign (RL.nil (thenN (RW.seq ?_))))
 have hcl := hcs2.len
 refine RW.region (RL.ev (v := v9) rfl rfl ev_move (RL.ev (v := v1) rfl rfl ev_move (RL.ev (v := .func (.func 145) #[] #[.pointer (some ⟨gm, 0, none⟩)]) rfl rfl ev_move (RL.ev (v := .int .i64 (aq)) rfl rfl ev_move ?_))))
 have hkv11 : 0 ≤ aq ∧ aq < (ar.length : Int) := hv aq (List.mem_of_getElem? haq)
 have hOb_ : ∃ a_, ar[(aq).toNat]? = some a_ := ⟨_, List.getElem?_eq_getElem (by omega)⟩
 obtain ⟨b11, hb11⟩ := hOb_
 have hOb_ := hok b11 (List.mem_of_getElem? hb11)
 obtain ⟨hq110, hq111, hq112, hq113, hq114, hq115⟩ := hOb_
 refine RL.op rfl rfl (op_callw1 (first := #[]) (captured := #[.pointer (some ⟨gm, 0, none⟩)]) (v0 := .int .i64 (aq)) (args := #[.int .i64 (aq), .pointer (some ⟨gm, 0, none⟩)]) Tryz.func145 rfl rfl (by simp) rfl rfl ((from_calls (aq) gm ((n : Int)) _ ar b11 _ (hb.ext hN.ext0) (hm.o.now hN) hkv11.1 hb11).mono ?_))
 rintro _ w10 ⟨rfl, he_⟩
 replace hN := hN.ext he_
 clear he_
 refine RL.ev rfl rfl (ev_index Tryz.underlying25 sz3 (hN.sl 1 rfl) rfl rfl (by omega) (by omega)) ?_
 have hOb_ : ∃ a_, (cs2)[(b11.1).toNat]? = some a_ := ⟨_, List.getElem?_eq_getElem (by omega)⟩
 obtain ⟨ad, had⟩ := hOb_
 refine RL.ev rfl rfl (ev_loadG (m := (b11.1).toNat) (a := ad) Tryz.underlying3 rfl (hN.sl 1 rfl) rfl had) ?_
 have hst := f2_step hcs2 (keysOf_at haq hb11) (by omega) (by omega) had
 obtain ⟨hx0, hx1, hxe, hst⟩ := hst
 have hla := hlay.step hkl haq (keysOf_at haq hb11) hxe
 have hosl := hlay.len
 refine RL.ev (v := .int .i64 (aq)) rfl rfl ev_move (RL.ev rfl rfl (ev_index Tryz.underlying25 sz3 (hN.sl 0 rfl) rfl rfl (by omega) (by omega)) ?_)
 refine RL.op rfl rfl (opN_storeOwn (m := (ad).toNat) (a := aq) sz3 hN 0 rfl rfl (by omega) rfl rfl rfl rfl ?_)
 clear hN
 intro w12 (hN : Now w none_ w12 [_, _])
 refine RL.nil (thenN (RW.region (RL.ev (v := v1) rfl rfl ev_move (RL.ev (v := .func (.func 145) #[] #[.pointer (some ⟨gm, 0, none⟩)]) rfl rfl ev_move (RL.ev (v := .int .i64 (aq)) rfl rfl ev_move ?_)))))
 have hkv14 : 0 ≤ aq ∧ aq < (ar.length : Int) := hv aq (List.mem_of_getElem? haq)
 have hOb_ : ∃ a_, ar[(aq).toNat]? = some a_ := ⟨_, List.getElem?_eq_getElem (by omega)⟩
 obtain ⟨b14, hb14⟩ := hOb_
 have hOb_ := hok b14 (List.mem_of_getElem? hb14)
 obtain ⟨hq140, hq141, hq142, hq143, hq144, hq145⟩ := hOb_
 refine RL.op rfl rfl (op_callw1 (first := #[]) (captured := #[.pointer (some ⟨gm, 0, none⟩)]) (v0 := .int .i64 (aq)) (args := #[.int .i64 (aq), .pointer (some ⟨gm, 0, none⟩)]) Tryz.func145 rfl rfl (by simp) rfl rfl ((from_calls (aq) gm ((n : Int)) _ ar b14 _ (hb.ext hN.ext0) (hm.o.now hN) hkv14.1 hb14).mono ?_))
 rintro _ w13 ⟨rfl, he_⟩
 replace hN := hN.ext he_
 clear he_
 have hbe_ : b14 = b11 := Option.some.inj (hb14.symm.trans hb11)
 subst hbe_
 refine RL.ev rfl rfl (ev_index Tryz.underlying25 sz3 (hN.sl 1 rfl) rfl rfl (by omega) (by omega)) ?_
 have hOb_ : ∃ a_, (cs2)[(b14.1).toNat]? = some a_ := ⟨_, List.getElem?_eq_getElem (by omega)⟩
 obtain ⟨ae, hae⟩ := hOb_
 refine RL.ev rfl rfl (ev_loadG (m := (b14.1).toNat) (a := ae) Tryz.underlying3 rfl (hN.sl 1 rfl) rfl hae) ?_
 have hde_ : ae = ad := Option.some.inj (hae.symm.trans had)
 rw [← hde_] at hst
 refine RL.ev rfl rfl (ev_arith rfl rfl rfl (add64 (by omega) (by omega))) (RL.ev rfl rfl (ev_index Tryz.underlying25 sz3 (hN.sl 1 rfl) rfl rfl (by omega) (by omega)) ?_)
 refine RL.op rfl rfl (opN_storeOwn (m := (b14.1).toNat) (a := (ae + 1)) sz3 hN 1 rfl rfl (by omega) rfl rfl rfl rfl ?_)
 clear hN
 intro w15 (hN : Now w none_ w15 [_, _])
 refine RL.nil (blockN (thenN (RW.region (RL.ev rfl rfl (ev_arith rfl rfl rfl (add64 (by omega) (by omega))) (RL.ev (v := .int .i64 ((j : Int) + 1)) rfl rfl ev_move (RL.nil (thenN ?_)))))))
 exact ⟨k2 - 1, by omega, (cs2).set (b14.1).toNat ((ae + 1)), (os).set (ad).toNat (aq), j + 1, rfl, rfl, rfl, rfl, rfl, rfl, hN, by omega, hst, hla⟩
 refine RW.exit ?_
 iterate 2 refine thenX ?_
 refine blockHit (thenN (RW.seq (RW.region (RL.ev (v := v9) rfl rfl ev_move (RL.ev (v := v9) rfl rfl ev_assign (RL.nil (thenN (RW.ret (retI (RV.tmp rfl) ?_)))))))))
 have hj_ : j = l.length := by omega
 subst hj_
 exact ⟨os, hN.ownOut 0 rfl, hlay, hN.ext0⟩
set_option maxHeartbeats 4000000 in
set_option maxRecDepth 100000 in
theorem sorted_to (n : Nat) (lv : Value) (l : List Int) (gm : Nat) (mv : Value) (ar : List I3) (w : World) (hl : Sl vI w lv l) (hb : Blk w gm [.int .i64 (n : Int), mv] 24) (hm : Sm i3cells w mv ar) (hok : ∀ a ∈ ar, okA n a) (hv : ∀ k ∈ l, 0 ≤ k ∧ k < (ar.length : Int)) (hn : n ≤ 16777216) (hll : l.length ≤ 67108864) : Gives Tryz.prog 149 #[.int .i64 (n : Int), lv, .func (.func 146) #[] #[.pointer (some ⟨gm, 0, none⟩)]] w fun r w' => ∃ os, Own vI 3 w' w.heap.size r os ∧ Laid l (keysOf ar (·.2.1) l) os l.length ∧ Ext w w' := by
 refine Gives.start Tryz.func149 rfl (Nat.le_of_ble_eq_true rfl) ?_
 rw [args3]
 have hN := Now.nil w none_
 have hkl := keysOf_len ar (·.2.1) l
 have hknn : ∀ x ∈ (keysOf ar (·.2.1) l), 0 ≤ x := keysOf_nn hv (fun a ha => by obtain ⟨h0, _, h2, _⟩ := hok a ha; first | exact h0 | exact h2)
 refine RW.seq (RW.region (RL.ev (v := .slice none 0 0) rfl rfl ev_assign (RL.nil (thenN (RW.seq (RW.region (RL.ev (v := .int .i64 ((n : Int))) rfl rfl ev_move (RL.ev rfl rfl (ev_arith rfl rfl rfl ((add64 (by omega) (by omega)).trans (by omega : (n : Int) + 1 = ((n + 1 : Nat) : Int)))) ?_))))))))
 refine RL.op rfl rfl (opN_make (enc := vI) (z := 0) Tryz.underlying25 inf3 rfl hN rfl (by omega) (by omega) (by omega) ?_)
 clear hN
 intro v1 w1 (hN : Now w none_ w1 [_])
 refine RL.ev (v := v1) rfl rfl ev_assign (RL.nil (thenN ?_))
 iterate 2 refine RW.seq ?_
 refine RW.region (RL.ev (v := lv) rfl rfl ev_move ?_)
 have hL_2 := (hl.o.now hN).len_le
 refine RL.ev rfl rfl (ev_lenS Tryz.underlying25 (hl.o.now hN) rfl) (RL.ev (v := .int .i64 (0)) rfl rfl ev_move (RL.nil (thenN (RW.block ?_))))
 refine RW.loop (fun k R0 w0' => ∃ cs : List Int, ∃ i : Nat, R0 0 = .int .i64 ((n : Int)) ∧ R0 1 = lv ∧ R0 2 = .func (.func 146) #[] #[.pointer (some ⟨gm, 0, none⟩)] ∧ R0 7 = v1 ∧ R0 17 = lv ∧ R0 18 = .int .i64 ((l.length : Int)) ∧ R0 19 = .int .i64 ((i : Int)) ∧ Now w none_ w0' [.own vI 3 (v1) (cs)] ∧ (i + k = l.length) ∧ (Cs n cs (f0 (keysOf ar (·.2.1) l) i))) (l.length) ?_ ?_
 exact ⟨List.replicate (n + 1) 0, 0, rfl, rfl, rfl, rfl, rfl, rfl, rfl, hN, by omega, f0_start⟩
 clear hN
 rintro k R0 w0' ⟨cs, i, hr0_, hr1_, hr2_, hr7_, hr17_, hr18_, hr19_, hN, hik, hcs⟩
 have hR_ : ∃ R0_, R0 = (upd (upd (upd (upd (upd (upd (upd R0_ 0 _) 1 _) 2 _) 7 _) 17 _) 18 _) 19 _) := ⟨R0, by rw [upd_self hr0_, upd_self hr1_, upd_self hr2_, upd_self hr7_, upd_self hr17_, upd_self hr18_, upd_self hr19_]⟩
 obtain ⟨R0_, rfl⟩ := hR_
 clear hr0_ hr1_ hr2_ hr7_ hr17_ hr18_ hr19_
 refine RW.seq (RW.region (RL.ev rfl rfl (ev_lss rfl rfl) (RL.nil (thenN (RW.seq ?_)))))
 refine RW.condP _ rfl (fun hlt => ?_) (fun hlt => ?_)
 refine RW.skip (thenN (RW.seq (RW.block (RW.seq (RW.region (RL.ev rfl rfl (ev_index Tryz.underlying25 sz3 (hl.o.now hN) rfl rfl (by omega) (by omega)) ?_))))))
 have hOb_ : ∃ a_, (l)[i]? = some a_ := ⟨_, List.getElem?_eq_getElem (by omega)⟩
 obtain ⟨ap, hap⟩ := hOb_
 refine RL.ev rfl rfl (ev_loadG (m := i) (a := ap) Tryz.underlying3 rfl (hl.o.now hN) rfl hap) (RL.ev (v := .int .i64 (ap)) rfl rfl ev_assign (RL.nil (thenN ?_)))
 have hcl := hcs.len
 refine RW.region (RL.ev (v := v1) rfl rfl ev_move (RL.ev (v := .func (.func 146) #[] #[.pointer (some ⟨gm, 0, none⟩)]) rfl rfl ev_move (RL.ev (v := .int .i64 (ap)) rfl rfl ev_move ?_)))
 have hkv4 : 0 ≤ ap ∧ ap < (ar.length : Int) := hv ap (List.mem_of_getElem? hap)
 have hOb_ : ∃ a_, ar[(ap).toNat]? = some a_ := ⟨_, List.getElem?_eq_getElem (by omega)⟩
 obtain ⟨b4, hb4⟩ := hOb_
 have hOb_ := hok b4 (List.mem_of_getElem? hb4)
 obtain ⟨hq40, hq41, hq42, hq43, hq44, hq45⟩ := hOb_
 refine RL.op rfl rfl (op_callw1 (first := #[]) (captured := #[.pointer (some ⟨gm, 0, none⟩)]) (v0 := .int .i64 (ap)) (args := #[.int .i64 (ap), .pointer (some ⟨gm, 0, none⟩)]) Tryz.func146 rfl rfl (by simp) rfl rfl ((to_calls (ap) gm ((n : Int)) _ ar b4 _ (hb.ext hN.ext0) (hm.o.now hN) hkv4.1 hb4).mono ?_))
 rintro _ w3 ⟨rfl, he_⟩
 replace hN := hN.ext he_
 clear he_
 refine RL.ev rfl rfl (ev_arith rfl rfl rfl (add64 (by omega) (by omega))) (RL.ev rfl rfl (ev_index Tryz.underlying25 sz3 (hN.sl 0 rfl) rfl rfl (by omega) (by omega)) ?_)
 have hOb_ : ∃ a_, (cs)[(b4.2.1 + 1).toNat]? = some a_ := ⟨_, List.getElem?_eq_getElem (by omega)⟩
 obtain ⟨ac, hac⟩ := hOb_
 refine RL.ev rfl rfl (ev_loadG (m := (b4.2.1 + 1).toNat) (a := ac) Tryz.underlying3 rfl (hN.sl 0 rfl) rfl hac) ?_
 have hst := f0_step hcs (keysOf_at hap hb4) (by omega) (by omega) hac
 obtain ⟨hx0, hx1, hst⟩ := hst
 refine RL.ev rfl rfl (ev_arith rfl rfl rfl (add64 (by omega) (by omega))) (RL.ev rfl rfl (ev_index Tryz.underlying25 sz3 (hN.sl 0 rfl) rfl rfl (by omega) (by omega)) ?_)
 refine RL.op rfl rfl (opN_storeOwn (m := (b4.2.1 + 1).toNat) (a := (ac + 1)) sz3 hN 0 rfl rfl (by omega) rfl rfl rfl rfl ?_)
 clear hN
 intro w5 (hN : Now w none_ w5 [_])
 refine RL.nil (blockN (thenN (RW.region (RL.ev rfl rfl (ev_arith rfl rfl rfl (add64 (by omega) (by omega))) (RL.ev (v := .int .i64 ((i : Int) + 1)) rfl rfl ev_move (RL.nil (thenN ?_)))))))
 exact ⟨k - 1, by omega, (cs).set (b4.2.1 + 1).toNat ((ac + 1)), i + 1, rfl, rfl, rfl, rfl, rfl, rfl, rfl, hN, by omega, hst⟩
 refine RW.exit ?_
 iterate 2 refine thenX ?_
 refine blockHit (thenN ?_)
 iterate 2 refine RW.seq ?_
 refine RW.region (RL.ev (v := .int .i64 ((n : Int))) rfl rfl ev_move (RL.ev (v := .int .i64 (0)) rfl rfl ev_move (RL.nil (thenN (RW.block ?_)))))
 refine RW.loop (fun k1 R1 w1' => ∃ cs1 : List Int, ∃ v : Nat, R1 1 = lv ∧ R1 2 = .func (.func 146) #[] #[.pointer (some ⟨gm, 0, none⟩)] ∧ R1 7 = v1 ∧ R1 33 = .int .i64 ((n : Int)) ∧ R1 34 = .int .i64 ((v : Int)) ∧ Now w none_ w1' [.own vI 3 (v1) (cs1)] ∧ (v + k1 = n) ∧ (Cs n cs1 (f1 (keysOf ar (·.2.1) l) v))) (n) ?_ ?_
 exact ⟨cs, 0, rfl, rfl, rfl, rfl, rfl, hN, by omega, f1_start (by rw [hkl, ← (show i = l.length by omega)]; exact hcs) hknn⟩
 clear hN
 rintro k1 R1 w1' ⟨cs1, v, hr1_, hr2_, hr7_, hr33_, hr34_, hN, hvk, hcs1⟩
 have hR_ : ∃ R1_, R1 = (upd (upd (upd (upd (upd R1_ 1 _) 2 _) 7 _) 33 _) 34 _) := ⟨R1, by rw [upd_self hr1_, upd_self hr2_, upd_self hr7_, upd_self hr33_, upd_self hr34_]⟩
 obtain ⟨R1_, rfl⟩ := hR_
 clear hr1_ hr2_ hr7_ hr33_ hr34_
 refine RW.seq (RW.region (RL.ev rfl rfl (ev_lss rfl rfl) (RL.nil (thenN (RW.seq ?_)))))
 refine RW.condP _ rfl (fun hlt1 => ?_) (fun hlt1 => ?_)
 refine RW.skip (thenN (RW.seq (RW.block (RW.seq (RW.region (RL.ev (v := .int .i64 ((v : Int))) rfl rfl ev_move (RL.ev (v := .int .i64 ((v : Int))) rfl rfl ev_assign (RL.nil (thenN ?_)))))))))
 have hcl := hcs1.len
 have hOb_ : ∃ a_, cs1[v + 1]? = some a_ := ⟨_, List.getElem?_eq_getElem (by omega)⟩
 obtain ⟨ax, hax⟩ := hOb_
 have hOb_ : ∃ a_, cs1[v]? = some a_ := ⟨_, List.getElem?_eq_getElem (by omega)⟩
 obtain ⟨ay, hay⟩ := hOb_
 have hst := f1_step hcs1 (by omega) hax hay
 obtain ⟨hx0, hx1, hy0, hy1, hst⟩ := hst
 replace hN := hN.ext (Ext.drew w1')
 refine RW.drawR rfl (fun u => Now w none_ u [.own vI 3 (v1) (cs1)]) 11 [(0,0), (1,0), (2,0), (3,0), (4,0), (5,0), (6,0), (7,0), (8,0), (9,0), (10,0), (11,2)] (by intro _ _ _ h; exact h) (by kernel_rfl) hN (RQ.ev (v := v1) rfl rfl (fun w hS => ev_move) (RQ.ev (v := .int .i64 ((v : Int))) rfl rfl (fun w hS => ev_move) (RQ.ev rfl rfl (fun w hS => (ev_arith rfl rfl rfl ((add64 (by omega) (by omega)).trans (by omega : (v : Int) + 1 = ((v + 1 : Nat) : Int))))) (RQ.ev rfl rfl (fun w hS => (ev_index Tryz.underlying25 sz3 (hS.sl 0 rfl) rfl rfl (by omega) (by omega))) (RQ.ev rfl rfl (fun w hS => (ev_loadG (m := (v + 1)) (a := ax) Tryz.underlying3 rfl (hS.sl 0 rfl) rfl hax)) (RQ.ev (v := v1) rfl rfl (fun w hS => ev_move) (RQ.ev (v := .int .i64 ((v : Int))) rfl rfl (fun w hS => ev_move) (RQ.ev rfl rfl (fun w hS => (ev_index Tryz.underlying25 sz3 (hS.sl 0 rfl) rfl rfl (by omega) (by omega))) (RQ.ev rfl rfl (fun w hS => (ev_loadG (m := v) (a := ay) Tryz.underlying3 rfl (hS.sl 0 rfl) rfl hay)) ?_)))))))))
 refine RQ.ev rfl rfl (fun w hS => (ev_arith rfl rfl rfl (add64 (by omega) (by omega)))) (RQ.ev rfl rfl (fun w hS => (ev_index Tryz.underlying25 sz3 (hS.sl 0 rfl) rfl rfl (by omega) (by omega))) ?_)
 refine RQ.last rfl rfl (opN_storeOwn (m := (v + 1)) (a := (ax + ay)) sz3 hN 0 rfl rfl (by omega) rfl rfl rfl rfl ?_)
 clear hN
 intro w8 (hN : Now w none_ w8 [_])
 refine RZ.done (by kernel_rfl) (blockN (thenN (RW.region (RL.ev rfl rfl (ev_arith rfl rfl rfl (add64 (by omega) (by omega))) (RL.ev (v := .int .i64 ((v : Int) + 1)) rfl rfl ev_move (RL.nil (thenN ?_)))))))
 exact ⟨k1 - 1, by omega, (cs1).set (v + 1) ((ax + ay)), v + 1, rfl, rfl, rfl, rfl, rfl, hN, by omega, hst⟩
 refine RW.exit ?_
 iterate 2 refine thenX ?_
 refine blockHit (thenN (RW.seq (RW.region (RL.ev (v := lv) rfl rfl ev_move (RL.ev rfl rfl (ev_lenS Tryz.underlying25 (hl.o.now hN) rfl) ?_)))))
 refine RL.op rfl rfl (opN_make (enc := vI) (z := 0) Tryz.underlying25 inf3 rfl hN rfl (by omega) (by omega) (by omega) ?_)
 clear hN
 intro v9 w9 (hN : Now w none_ w9 [_, _])
 refine RL.ev (v := v9) rfl rfl ev_assign (RL.nil (thenN ?_))
 iterate 2 refine RW.seq ?_
 refine RW.region (RL.ev (v := lv) rfl rfl ev_move (RL.ev rfl rfl (ev_lenS Tryz.underlying25 (hl.o.now hN) rfl) (RL.ev (v := .int .i64 (0)) rfl rfl ev_move (RL.nil (thenN (RW.block ?_))))))
 refine RW.loop (fun k2 R2 w2' => ∃ cs2 : List Int, ∃ os : List Int, ∃ j : Nat, R2 2 = .func (.func 146) #[] #[.pointer (some ⟨gm, 0, none⟩)] ∧ R2 7 = v1 ∧ R2 11 = v9 ∧ R2 52 = lv ∧ R2 53 = .int .i64 ((l.length : Int)) ∧ R2 54 = .int .i64 ((j : Int)) ∧ Now w none_ w2' [.own vI 3 (v9) (os), .own vI 3 (v1) (cs2)] ∧ (j + k2 = l.length) ∧ (Cs n cs2 (f2 (keysOf ar (·.2.1) l) j)) ∧ (Laid l (keysOf ar (·.2.1) l) os j)) (l.length) ?_ ?_
 have hcs2_ : Cs n cs1 (f1 (keysOf ar (·.2.1) l) n) := by
   have e_ : v = n := by omega
   rw [e_] at hcs1; exact hcs1
 exact ⟨cs1, List.replicate l.length 0, 0, rfl, rfl, rfl, rfl, rfl, rfl, hN, by omega, f2_start hcs2_, Laid.start⟩
 clear hN
 rintro k2 R2 w2' ⟨cs2, os, j, hr2_, hr7_, hr11_, hr52_, hr53_, hr54_, hN, hjk, hcs2, hlay⟩
 have hR_ : ∃ R2_, R2 = (upd (upd (upd (upd (upd (upd R2_ 2 _) 7 _) 11 _) 52 _) 53 _) 54 _) := ⟨R2, by rw [upd_self hr2_, upd_self hr7_, upd_self hr11_, upd_self hr52_, upd_self hr53_, upd_self hr54_]⟩
 obtain ⟨R2_, rfl⟩ := hR_
 clear hr2_ hr7_ hr11_ hr52_ hr53_ hr54_
 refine RW.seq (RW.region (RL.ev rfl rfl (ev_lss rfl rfl) (RL.nil (thenN (RW.seq ?_)))))
 refine RW.condP _ rfl (fun hlt2 => ?_) (fun hlt2 => ?_)
 refine RW.skip (thenN (RW.seq (RW.block (RW.seq (RW.region (RL.ev rfl rfl (ev_index Tryz.underlying25 sz3 (hl.o.now hN) rfl rfl (by omega) (by omega)) ?_))))))
 have hOb_ : ∃ a_, (l)[j]? = some a_ := ⟨_, List.getElem?_eq_getElem (by omega)⟩
 obtain ⟨aq, haq⟩ := hOb_
 refine RL.ev rfl rfl (ev_loadG (m := j) (a := aq) Tryz.underlying3 rfl (hl.o.now hN) rfl haq) (RL.ev (v := .int .i64 (aq)) rfl rfl ev_assign (RL.nil (thenN (RW.seq ?_))))
 have hcl := hcs2.len
 refine RW.region (RL.ev (v := v9) rfl rfl ev_move (RL.ev (v := v1) rfl rfl ev_move (RL.ev (v := .func (.func 146) #[] #[.pointer (some ⟨gm, 0, none⟩)]) rfl rfl ev_move (RL.ev (v := .int .i64 (aq)) rfl rfl ev_move ?_))))
 have hkv11 : 0 ≤ aq ∧ aq < (ar.length : Int) := hv aq (List.mem_of_getElem? haq)
 have hOb_ : ∃ a_, ar[(aq).toNat]? = some a_ := ⟨_, List.getElem?_eq_getElem (by omega)⟩
 obtain ⟨b11, hb11⟩ := hOb_
 have hOb_ := hok b11 (List.mem_of_getElem? hb11)
 obtain ⟨hq110, hq111, hq112, hq113, hq114, hq115⟩ := hOb_
 refine RL.op rfl rfl (op_callw1 (first := #[]) (captured := #[.pointer (some ⟨gm, 0, none⟩)]) (v0 := .int .i64 (aq)) (args := #[.int .i64 (aq), .pointer (some ⟨gm, 0, none⟩)]) Tryz.func146 rfl rfl (by simp) rfl rfl ((to_calls (aq) gm ((n : Int)) _ ar b11 _ (hb.ext hN.ext0) (hm.o.now hN) hkv11.1 hb11).mono ?_))
 rintro _ w10 ⟨rfl, he_⟩
 replace hN := hN.ext he_
 clear he_
 refine RL.ev rfl rfl (ev_index Tryz.underlying25 sz3 (hN.sl 1 rfl) rfl rfl (by omega) (by omega)) ?_
 have hOb_ : ∃ a_, (cs2)[(b11.2.1).toNat]? = some a_ := ⟨_, List.getElem?_eq_getElem (by omega)⟩
 obtain ⟨ad, had⟩ := hOb_
 refine RL.ev rfl rfl (ev_loadG (m := (b11.2.1).toNat) (a := ad) Tryz.underlying3 rfl (hN.sl 1 rfl) rfl had) ?_
 have hst := f2_step hcs2 (keysOf_at haq hb11) (by omega) (by omega) had
 obtain ⟨hx0, hx1, hxe, hst⟩ := hst
 have hla := hlay.step hkl haq (keysOf_at haq hb11) hxe
 have hosl := hlay.len
 refine RL.ev (v := .int .i64 (aq)) rfl rfl ev_move (RL.ev rfl rfl (ev_index Tryz.underlying25 sz3 (hN.sl 0 rfl) rfl rfl (by omega) (by omega)) ?_)
 refine RL.op rfl rfl (opN_storeOwn (m := (ad).toNat) (a := aq) sz3 hN 0 rfl rfl (by omega) rfl rfl rfl rfl ?_)
 clear hN
 intro w12 (hN : Now w none_ w12 [_, _])
 refine RL.nil (thenN (RW.region (RL.ev (v := v1) rfl rfl ev_move (RL.ev (v := .func (.func 146) #[] #[.pointer (some ⟨gm, 0, none⟩)]) rfl rfl ev_move (RL.ev (v := .int .i64 (aq)) rfl rfl ev_move ?_)))))
 have hkv14 : 0 ≤ aq ∧ aq < (ar.length : Int) := hv aq (List.mem_of_getElem? haq)
 have hOb_ : ∃ a_, ar[(aq).toNat]? = some a_ := ⟨_, List.getElem?_eq_getElem (by omega)⟩
 obtain ⟨b14, hb14⟩ := hOb_
 have hOb_ := hok b14 (List.mem_of_getElem? hb14)
 obtain ⟨hq140, hq141, hq142, hq143, hq144, hq145⟩ := hOb_
 refine RL.op rfl rfl (op_callw1 (first := #[]) (captured := #[.pointer (some ⟨gm, 0, none⟩)]) (v0 := .int .i64 (aq)) (args := #[.int .i64 (aq), .pointer (some ⟨gm, 0, none⟩)]) Tryz.func146 rfl rfl (by simp) rfl rfl ((to_calls (aq) gm ((n : Int)) _ ar b14 _ (hb.ext hN.ext0) (hm.o.now hN) hkv14.1 hb14).mono ?_))
 rintro _ w13 ⟨rfl, he_⟩
 replace hN := hN.ext he_
 clear he_
 have hbe_ : b14 = b11 := Option.some.inj (hb14.symm.trans hb11)
 subst hbe_
 refine RL.ev rfl rfl (ev_index Tryz.underlying25 sz3 (hN.sl 1 rfl) rfl rfl (by omega) (by omega)) ?_
 have hOb_ : ∃ a_, (cs2)[(b14.2.1).toNat]? = some a_ := ⟨_, List.getElem?_eq_getElem (by omega)⟩
 obtain ⟨ae, hae⟩ := hOb_
 refine RL.ev rfl rfl (ev_loadG (m := (b14.2.1).toNat) (a := ae) Tryz.underlying3 rfl (hN.sl 1 rfl) rfl hae) ?_
 have hde_ : ae = ad := Option.some.inj (hae.symm.trans had)
 rw [← hde_] at hst
 refine RL.ev rfl rfl (ev_arith rfl rfl rfl (add64 (by omega) (by omega))) (RL.ev rfl rfl (ev_index Tryz.underlying25 sz3 (hN.sl 1 rfl) rfl rfl (by omega) (by omega)) ?_)
 refine RL.op rfl rfl (opN_storeOwn (m := (b14.2.1).toNat) (a := (ae + 1)) sz3 hN 1 rfl rfl (by omega) rfl rfl rfl rfl ?_)
 clear hN
 intro w15 (hN : Now w none_ w15 [_, _])
 refine RL.nil (blockN (thenN (RW.region (RL.ev rfl rfl (ev_arith rfl rfl rfl (add64 (by omega) (by omega))) (RL.ev (v := .int .i64 ((j : Int) + 1)) rfl rfl ev_move (RL.nil (thenN ?_)))))))
 exact ⟨k2 - 1, by omega, (cs2).set (b14.2.1).toNat ((ae + 1)), (os).set (ad).toNat (aq), j + 1, rfl, rfl, rfl, rfl, rfl, rfl, hN, by omega, hst, hla⟩
 refine RW.exit ?_
 iterate 2 refine thenX ?_
 refine blockHit (thenN (RW.seq (RW.region (RL.ev (v := v9) rfl rfl ev_move (RL.ev (v := v9) rfl rfl ev_assign (RL.nil (thenN (RW.ret (retI (RV.tmp rfl) ?_)))))))))
 have hj_ : j = l.length := by omega
 subst hj_
 exact ⟨os, hN.ownOut 0 rfl, hlay, hN.ext0⟩
end Go.Proofs.YtngkdkbpgoddlaaGreat
set_option linter.unusedVariables false
set_option linter.unusedSimpArgs false
namespace Go.Proofs.YtngkdkbpgoddlaaGreat
open Go.RowKit Go.Rl
open Go.Gr
set_option maxHeartbeats 4000000 in
set_option maxRecDepth 100000 in
theorem isWay_calls (i : Int) (a : I3) (w : World) : Gives Tryz.prog 148 #[.int .i64 i, .agg #[.int .i64 a.1, .int .i64 a.2.1, .int .i64 a.2.2]] w fun r w' => r = .bool (decide (¬ a.1 = a.2.1)) ∧ Ext w w' := by
 refine Gives.start Tryz.func148 rfl (Nat.le_of_ble_eq_true rfl) ?_
 rw [args2]
 have hN := Now.nil w none_
 refine RW.seq (RW.region ?_)
 refine RL.op rfl rfl (opN_box (cs := [.int .i64 (a.1), .int .i64 (a.2.1), .int .i64 (a.2.2)]) rfl rfl hN ?_)
 clear hN
 intro g1 w1 (hN : Now w none_ w1 [_])
 refine RL.ev (v := .bool false) rfl rfl ev_assign (RL.nil (thenN (RW.seq (RW.region (RL.ev rfl rfl (ev_fieldAddr Tryz.underlying100 rfl sz3 (by decide) rfl) (RL.ev rfl rfl (ev_loadB Tryz.underlying3 rfl rfl (hN.blk 0 rfl) rfl) (RL.ev rfl rfl (ev_fieldAddr Tryz.underlying100 rfl sz3 (by decide) rfl) (RL.ev rfl rfl (ev_loadB Tryz.underlying3 rfl rfl (hN.blk 0 rfl) rfl) (RL.ev rfl rfl (ev_neq rfl rfl) ?_)))))))))
 refine RL.ev (v := .bool (decide (¬ a.1 = a.2.1))) rfl rfl ev_assign (RL.nil (thenN (RW.ret (retI (RV.tmp rfl) ?_))))
 exact ⟨rfl, hN.ext0⟩
set_option maxHeartbeats 4000000 in
set_option maxRecDepth 100000 in
theorem isOn_calls (i : Int) (b : Bool) (w : World) : Gives Tryz.prog 192 #[.int .i64 i, .bool (decide (b = true))] w fun r w' => r = .bool (decide (b = true)) ∧ Ext w w' := by
 refine Gives.start Tryz.func192 rfl (Nat.le_of_ble_eq_true rfl) ?_
 rw [args2]
 have hN := Now.nil w none_
 refine RW.seq (RW.region (RL.ev (v := .bool false) rfl rfl ev_assign (RL.nil (thenN (RW.seq (RW.region (RL.ev (v := .bool (decide (b = true))) rfl rfl ev_move (RL.ev (v := .bool (decide (b = true))) rfl rfl ev_assign (RL.nil ?_)))))))))
 refine thenN (RW.ret (retI (RV.tmp rfl) ?_))
 exact ⟨rfl, hN.ext0⟩
set_option maxHeartbeats 4000000 in
set_option maxRecDepth 100000 in
theorem numArc_calls (v : Value) (ar : List I3) (w : World) (hv : Sm i3cells w v ar) : Gives Tryz.prog 147 #[v, .func (.func 148) #[] #[]] w fun r w' => ∃ gp gq, r = .func (.func 190) #[] #[.pointer (some ⟨gp, 0, none⟩), .pointer (some ⟨gq, 0, none⟩)] ∧ Now w none_ w' [.blk gp [v] 22, .blk gq [.func (.func 148) #[] #[]] 215] := by
 refine Gives.start Tryz.func147 rfl (Nat.le_of_ble_eq_true rfl) ?_
 rw [args2]
 have hN := Now.nil w none_
 refine RW.seq (RW.region ?_)
 refine RL.op rfl rfl (opN_box (cs := [v]) rfl (hv.o.now hN).cells1 hN ?_)
 clear hN
 intro g1 w1 (hN : Now w none_ w1 [_])
 refine RL.op rfl rfl (opN_box (cs := [.func (.func 148) #[] #[]]) rfl rfl hN ?_)
 clear hN
 intro g2 w2 (hN : Now w none_ w2 [_, _])
 refine RL.ev rfl rfl ev_assign (RL.nil (thenN (RW.seq (RW.region (RL.ev rfl rfl (ev_makeFuncL (vs := [.pointer (some ⟨g1, 0, none⟩), .pointer (some ⟨g2, 0, none⟩)]) (xs := [.tmp 2, .tmp 3]) rfl rfl) (RL.ev (v := .func (.func 190) #[] #[.pointer (some ⟨g1, 0, none⟩), .pointer (some ⟨g2, 0, none⟩)]) rfl rfl ev_assign (RL.nil (thenN (RW.ret ?_)))))))))
 refine retI (RV.tmp rfl) ?_
 exact ⟨_, _, rfl, hN.sub [1, 0] (by decide) rfl⟩
set_option maxHeartbeats 4000000 in
set_option maxRecDepth 100000 in
theorem numArc1_calls (ar : List I3) {σ : Type} (l : Nat) (C : Bool → σ → Atom) (T : σ → Int → Bool → σ → Prop) (s0 : σ) {F : Nat → Prop} (w : World) (hT : ∀ s x b s', T s x b s' → b = true) (hY : YSpec Tryz.prog l C T id s0 (restI (isWay ar) 0 ar.length) RdI encI) (gp gq : Nat) (v : Value) (hN : Now w F w [C true s0, .blk gp [v] 22, .blk gq [.func (.func 148) #[] #[]] 215]) (hv : SmO F i3cells w v ar) (hal : ar.length ≤ 67108864) : Gives Tryz.prog 190 #[.func (.yield l) #[] #[], .pointer (some ⟨gp, 0, none⟩), .pointer (some ⟨gq, 0, none⟩)] w fun _ w' => ∃ s', Run T id s0 (restI (isWay ar) 0 ar.length) s' ∧ Now w F w' [C true s'] := by
 refine Gives.startX Tryz.func190 rfl (Nat.le_of_ble_eq_true rfl) ?_
 rw [args3]
 refine XW.seq (XW.region rfl (RL.ev rfl rfl (ev_loadB Tryz.underlying22 rfl rfl (hN.blk 1 rfl) rfl) ?_))
 have hL_1 := (hv.now hN).len_le
 refine RL.ev rfl rfl (ev_lenM Tryz.underlying22 (hv.now hN) rfl) (RL.ev (v := .int .i64 (0)) rfl rfl ev_move (RL.nil (onlyNi (xthenN (XW.block ?_)))))
 refine XW.loop (fun k R0 w0' => ∃ si : σ, ∃ i : Nat, R0 0 = .func (.yield l) #[] #[] ∧ R0 2 = .pointer (some ⟨gq, 0, none⟩) ∧ R0 6 = v ∧ R0 7 = .int .i64 ((ar.length : Int)) ∧ R0 8 = .int .i64 ((i : Int)) ∧ Now w F w0' [C true si, .blk gp [v] 22, .blk gq [.func (.func 148) #[] #[]] 215] ∧ (i + k = ar.length) ∧ (Goes T id s0 (restI (isWay ar) 0 ar.length) si (restI (isWay ar) i k))) (ar.length) ?_ ?_
 exact ⟨s0, 0, rfl, rfl, rfl, rfl, rfl, hN, by omega, Goes.start⟩
 clear hN
 rintro k R0 w0' ⟨si, i, hr0_, hr2_, hr6_, hr7_, hr8_, hN, hik, hg⟩
 have hR_ : ∃ R0_, R0 = (upd (upd (upd (upd (upd R0_ 0 _) 2 _) 6 _) 7 _) 8 _) := ⟨R0, by rw [upd_self hr0_, upd_self hr2_, upd_self hr6_, upd_self hr7_, upd_self hr8_]⟩
 obtain ⟨R0_, rfl⟩ := hR_
 clear hr0_ hr2_ hr6_ hr7_ hr8_
 refine XW.seq (XW.region rfl (RL.ev rfl rfl (ev_lss rfl rfl) (RL.nil (onlyNi (xthenN (XW.seq ?_))))))
 refine XW.condP _ rfl (fun hlt => ?_) (fun hlt => ?_)
 refine XW.skip (xthenN (XW.seq (XW.block (XW.seq (XW.region rfl (RL.ev (v := .int .i64 ((i : Int))) rfl rfl ev_move (RL.ev rfl rfl (ev_indexM Tryz.underlying22 sz100 i3cells_len (by decide) (hv.now hN) rfl rfl (by omega) (by omega)) ?_)))))))
 have hOb_ : ∃ a_, (ar)[i]? = some a_ := ⟨_, List.getElem?_eq_getElem (by omega)⟩
 obtain ⟨ap, hap⟩ := hOb_
 refine RL.ev rfl rfl (ev_loadM (m := i) (a := ap) Tryz.underlying100 rfl sz100 i3cells_len (by decide) (hv.now hN) rfl hap (cs := [.int .i64 (ap.1), .int .i64 (ap.2.1), .int .i64 (ap.2.2)]) rfl) ?_
 refine RL.op rfl rfl (opN_alloc (cs := [.int .i64 (0), .int .i64 (0), .int .i64 (0)]) zero100 rfl hN ?_)
 clear hN
 intro g2 w2 (hN : Now w F w2 [_, _, _, _])
 refine RL.ev (v := .int .i64 ((i : Int))) rfl rfl ev_assign ?_
 refine RL.op rfl rfl (opN_storeAll (vs := [.int .i64 (ap.1), .int .i64 (ap.2.1), .int .i64 (ap.2.2)]) sz100 rfl rfl rfl (by intro u hu; simp only [List.mem_cons, List.not_mem_nil, or_false] at hu; rcases hu with rfl | rfl | rfl <;> first | rfl) hN 0 rfl rfl ?_)
 clear hN
 intro w3 (hN : Now w F w3 [_, _, _, _])
 refine RL.nil (onlyNi (xthenN (XW.seq (XW.regionY (XL.ev rfl rfl rfl (ev_loadB Tryz.underlying215 rfl rfl (hN.blk 3 rfl) rfl) (XL.ev (v := .int .i64 ((i : Int))) rfl rfl rfl ev_move (XL.ev rfl rfl rfl (ev_loadAll (cs := [.int .i64 (ap.1), .int .i64 (ap.2.1), .int .i64 (ap.2.2)]) Tryz.underlying100 rfl sz100 rfl (hN.blk 0 rfl)) ?_)))))))
 refine XL.op rfl rfl (OpX.of rfl (op_callw2 (first := #[]) (captured := #[]) (v0 := .int .i64 ((i : Int))) (v1 := .agg #[.int .i64 (ap.1), .int .i64 (ap.2.1), .int .i64 (ap.2.2)]) (args := #[.int .i64 ((i : Int)), .agg #[.int .i64 (ap.1), .int .i64 (ap.2.1), .int .i64 (ap.2.2)]]) Tryz.func148 rfl rfl (by simp) rfl rfl rfl ((isWay_calls ((i : Int)) ap _).mono ?_)))
 rintro _ w4 ⟨rfl, he_⟩
 replace hN := hN.ext he_
 clear he_
 refine XL.ev (v := .bool (decide (¬ ap.1 = ap.2.1))) rfl rfl rfl ev_move ?_
 by_cases hq : ¬ ap.1 = ap.2.1
 rw [decide_eq_true hq]
 refine XL.onEv (v := .func (.yield l) #[] #[]) rfl rfl (by decide) rfl rfl rfl ev_move (XL.onEv (v := .int .i64 ((i : Int))) rfl rfl (by decide) rfl rfl rfl ev_move ?_)
 replace hg := hg.as (restI_pos (by omega) (isWay_t hap hq))
 refine XL.on rfl rfl (by decide) rfl rfl (opX_yield1 rfl rfl ((Goes.yield hT hY (i : Int) hg (hN.pickL (M := [_]) [1] (by decide) rfl) trivial).mono ?_))
 rintro _ w5 ⟨s5, rfl, hg_, hC_⟩
 replace hg := hg_
 clear hg_
 replace hN : Now w F w5 [_, _, _, _] := Now.callA (M := [_]) (N := [_, _, _]) (hN.sub [1, 0, 2, 3] (by decide) rfl) hC_
 clear hC_
 refine XL.onEv rfl rfl (by decide) rfl rfl rfl (ev_not rfl) (XL.ev (v := .bool false) rfl rfl rfl (ev_pickT rfl) (XL.nil (xthenN (XW.condF rfl (XW.skip (xblockN (xthenN (XW.region rfl (RL.ev rfl rfl (ev_arith rfl rfl rfl (add64 (by omega) (by omega))) ?_)))))))))
 refine RL.ev (v := .int .i64 ((i : Int) + 1)) rfl rfl ev_move (RL.nil (onlyNi (xthenN ?_)))
 exact ⟨rfl, k - 1, by omega, s5, i + 1, rfl, rfl, rfl, rfl, rfl, (hN.sub [0, 2, 3] (by decide) rfl), by omega, hg⟩
 rw [decide_eq_false hq]
 iterate 4 refine XL.off rfl rfl (by decide) rfl rfl ?_
 refine XL.ev (v := .bool false) rfl rfl rfl (ev_pickF rfl) (XL.nil (xthenN (XW.condF rfl (XW.skip (xblockN (xthenN (XW.region rfl (RL.ev rfl rfl (ev_arith rfl rfl rfl (add64 (by omega) (by omega))) (RL.ev (v := .int .i64 ((i : Int) + 1)) rfl rfl ev_move ?_)))))))))
 refine RL.nil (onlyNi (xthenN ?_))
 replace hg := hg.as (restI_neg (by omega) (isWay_f hap hq))
 exact ⟨rfl, k - 1, by omega, si, i + 1, rfl, rfl, rfl, rfl, rfl, (hN.sub [1, 2, 3] (by decide) rfl), by omega, hg⟩
 refine XW.exit ?_
 iterate 2 refine xthenX ?_
 refine xblockHit (xretN (RV.zero rfl) ?_)
 have hk0 : k = 0 := by omega
 subst hk0
 exact ⟨_, hg.done, hN.sub [0] (by decide) rfl⟩
theorem numArc_iter (ar : List I3) (gp gq : Nat) (v : Value) (hal : ar.length ≤ 67108864) : IterT Tryz.prog 190 #[.pointer (some ⟨gp, 0, none⟩), .pointer (some ⟨gq, 0, none⟩)] [.blk gp [v] 22, .blk gq [.func (.func 148) #[] #[]] 215] (fun F w => SmO F i3cells w v ar) id encI RdI (restI (isWay ar) 0 ar.length) := by
  intro σ l C T s0 w0 w F hT hY hfx hN
  have h1 := hN.pickL (M := [_, _, _]) [0, 1, 2] (by decide) rfl
  refine (numArc1_calls ar l C T s0 w hT hY gp gq v h1 (SmO.step i3cells_ne hfx hN) hal).mono ?_
  rintro _ w' ⟨s', hr, h2⟩
  exact ⟨s', hr, Now.callA (M := [_, _, _]) (N := []) hN h2⟩
set_option maxHeartbeats 4000000 in
set_option maxRecDepth 100000 in
theorem numBool_calls (v : Value) (ar : List Bool) (w : World) (hv : Sl vB w v ar) : Gives Tryz.prog 191 #[v, .func (.func 192) #[] #[]] w fun r w' => ∃ gp gq, r = .func (.func 209) #[] #[.pointer (some ⟨gp, 0, none⟩), .pointer (some ⟨gq, 0, none⟩)] ∧ Now w none_ w' [.blk gp [v] 206, .blk gq [.func (.func 192) #[] #[]] 256] := by
 refine Gives.start Tryz.func191 rfl (Nat.le_of_ble_eq_true rfl) ?_
 rw [args2]
 have hN := Now.nil w none_
 refine RW.seq (RW.region ?_)
 refine RL.op rfl rfl (opN_box (cs := [v]) rfl (hv.o.now hN).cells1 hN ?_)
 clear hN
 intro g1 w1 (hN : Now w none_ w1 [_])
 refine RL.op rfl rfl (opN_box (cs := [.func (.func 192) #[] #[]]) rfl rfl hN ?_)
 clear hN
 intro g2 w2 (hN : Now w none_ w2 [_, _])
 refine RL.ev rfl rfl ev_assign (RL.nil (thenN (RW.seq (RW.region (RL.ev rfl rfl (ev_makeFuncL (vs := [.pointer (some ⟨g1, 0, none⟩), .pointer (some ⟨g2, 0, none⟩)]) (xs := [.tmp 2, .tmp 3]) rfl rfl) (RL.ev (v := .func (.func 209) #[] #[.pointer (some ⟨g1, 0, none⟩), .pointer (some ⟨g2, 0, none⟩)]) rfl rfl ev_assign (RL.nil (thenN (RW.ret ?_)))))))))
 refine retI (RV.tmp rfl) ?_
 exact ⟨_, _, rfl, hN.sub [1, 0] (by decide) rfl⟩
set_option maxHeartbeats 4000000 in
set_option maxRecDepth 100000 in
theorem numBool1_calls (ar : List Bool) {σ : Type} (l : Nat) (C : Bool → σ → Atom) (T : σ → Int → Bool → σ → Prop) (s0 : σ) {F : Nat → Prop} (w : World) (hT : ∀ s x b s', T s x b s' → b = true) (hY : YSpec Tryz.prog l C T id s0 (restI (isOn ar) 0 ar.length) RdI encI) (gp gq : Nat) (v : Value) (hN : Now w F w [C true s0, .blk gp [v] 206, .blk gq [.func (.func 192) #[] #[]] 256]) (hv : SlO F vB w v ar) (hal : ar.length ≤ 67108864) : Gives Tryz.prog 209 #[.func (.yield l) #[] #[], .pointer (some ⟨gp, 0, none⟩), .pointer (some ⟨gq, 0, none⟩)] w fun _ w' => ∃ s', Run T id s0 (restI (isOn ar) 0 ar.length) s' ∧ Now w F w' [C true s'] := by
 refine Gives.startX Tryz.func209 rfl (Nat.le_of_ble_eq_true rfl) ?_
 rw [args3]
 refine XW.seq (XW.region rfl (RL.ev rfl rfl (ev_loadB Tryz.underlying206 rfl rfl (hN.blk 1 rfl) rfl) ?_))
 have hL_1 := (hv.now hN).len_le
 refine RL.ev rfl rfl (ev_lenS Tryz.underlying206 (hv.now hN) rfl) (RL.ev (v := .int .i64 (0)) rfl rfl ev_move (RL.nil (onlyNi (xthenN (XW.block ?_)))))
 refine XW.loop (fun k R0 w0' => ∃ si : σ, ∃ i : Nat, R0 0 = .func (.yield l) #[] #[] ∧ R0 2 = .pointer (some ⟨gq, 0, none⟩) ∧ R0 6 = v ∧ R0 7 = .int .i64 ((ar.length : Int)) ∧ R0 8 = .int .i64 ((i : Int)) ∧ Now w F w0' [C true si, .blk gp [v] 206, .blk gq [.func (.func 192) #[] #[]] 256] ∧ (i + k = ar.length) ∧ (Goes T id s0 (restI (isOn ar) 0 ar.length) si (restI (isOn ar) i k))) (ar.length) ?_ ?_
 exact ⟨s0, 0, rfl, rfl, rfl, rfl, rfl, hN, by omega, Goes.start⟩
 clear hN
 rintro k R0 w0' ⟨si, i, hr0_, hr2_, hr6_, hr7_, hr8_, hN, hik, hg⟩
 have hR_ : ∃ R0_, R0 = (upd (upd (upd (upd (upd R0_ 0 _) 2 _) 6 _) 7 _) 8 _) := ⟨R0, by rw [upd_self hr0_, upd_self hr2_, upd_self hr6_, upd_self hr7_, upd_self hr8_]⟩
 obtain ⟨R0_, rfl⟩ := hR_
 clear hr0_ hr2_ hr6_ hr7_ hr8_
 refine XW.seq (XW.region rfl (RL.ev rfl rfl (ev_lss rfl rfl) (RL.nil (onlyNi (xthenN (XW.seq ?_))))))
 refine XW.condP _ rfl (fun hlt => ?_) (fun hlt => ?_)
 refine XW.skip (xthenN (XW.seq (XW.block (XW.seq (XW.region rfl (RL.ev (v := .int .i64 ((i : Int))) rfl rfl ev_move (RL.ev rfl rfl (ev_index Tryz.underlying206 sz4 (hv.now hN) rfl rfl (by omega) (by omega)) ?_)))))))
 have hOb_ : ∃ a_, (ar)[i]? = some a_ := ⟨_, List.getElem?_eq_getElem (by omega)⟩
 obtain ⟨ap, hap⟩ := hOb_
 refine RL.ev rfl rfl (ev_loadG (m := i) (a := ap) Tryz.underlying4 rfl (hv.now hN) rfl hap) (RL.ev (v := .int .i64 ((i : Int))) rfl rfl ev_assign (RL.ev (v := .bool (decide (ap = true))) rfl rfl ev_assign (RL.nil (onlyNi (xthenN (XW.seq (XW.regionY (XL.ev rfl rfl rfl (ev_loadB Tryz.underlying256 rfl rfl (hN.blk 2 rfl) rfl) (XL.ev (v := .int .i64 ((i : Int))) rfl rfl rfl ev_move ?_)))))))))
 refine XL.ev (v := .bool (decide (ap = true))) rfl rfl rfl ev_move ?_
 refine XL.op rfl rfl (OpX.of rfl (op_callw2 (first := #[]) (captured := #[]) (v0 := .int .i64 ((i : Int))) (v1 := .bool (decide (ap = true))) (args := #[.int .i64 ((i : Int)), .bool (decide (ap = true))]) Tryz.func192 rfl rfl (by simp) rfl rfl rfl ((isOn_calls ((i : Int)) ap _).mono ?_)))
 rintro _ w2 ⟨rfl, he_⟩
 replace hN := hN.ext he_
 clear he_
 refine XL.ev (v := .bool (decide (ap = true))) rfl rfl rfl ev_move ?_
 by_cases hq : ap = true
 rw [decide_eq_true hq]
 refine XL.onEv (v := .func (.yield l) #[] #[]) rfl rfl (by decide) rfl rfl rfl ev_move (XL.onEv (v := .int .i64 ((i : Int))) rfl rfl (by decide) rfl rfl rfl ev_move ?_)
 replace hg := hg.as (restI_pos (by omega) (isOn_t hap hq))
 refine XL.on rfl rfl (by decide) rfl rfl (opX_yield1 rfl rfl ((Goes.yield hT hY (i : Int) hg (hN.pickL (M := [_]) [0] (by decide) rfl) trivial).mono ?_))
 rintro _ w3 ⟨s3, rfl, hg_, hC_⟩
 replace hg := hg_
 clear hg_
 replace hN : Now w F w3 [_, _, _] := Now.callA (M := [_]) (N := [_, _]) (hN.sub [0, 1, 2] (by decide) rfl) hC_
 clear hC_
 refine XL.onEv rfl rfl (by decide) rfl rfl rfl (ev_not rfl) (XL.ev (v := .bool false) rfl rfl rfl (ev_pickT rfl) (XL.nil (xthenN (XW.condF rfl (XW.skip (xblockN (xthenN (XW.region rfl (RL.ev rfl rfl (ev_arith rfl rfl rfl (add64 (by omega) (by omega))) ?_)))))))))
 refine RL.ev (v := .int .i64 ((i : Int) + 1)) rfl rfl ev_move (RL.nil (onlyNi (xthenN ?_)))
 exact ⟨rfl, k - 1, by omega, s3, i + 1, rfl, rfl, rfl, rfl, rfl, hN, by omega, hg⟩
 rw [decide_eq_false hq]
 iterate 4 refine XL.off rfl rfl (by decide) rfl rfl ?_
 refine XL.ev (v := .bool false) rfl rfl rfl (ev_pickF rfl) (XL.nil (xthenN (XW.condF rfl (XW.skip (xblockN (xthenN (XW.region rfl (RL.ev rfl rfl (ev_arith rfl rfl rfl (add64 (by omega) (by omega))) (RL.ev (v := .int .i64 ((i : Int) + 1)) rfl rfl ev_move ?_)))))))))
 refine RL.nil (onlyNi (xthenN ?_))
 replace hg := hg.as (restI_neg (by omega) (isOn_f hap hq))
 exact ⟨rfl, k - 1, by omega, si, i + 1, rfl, rfl, rfl, rfl, rfl, hN, by omega, hg⟩
 refine XW.exit ?_
 iterate 2 refine xthenX ?_
 refine xblockHit (xretN (RV.zero rfl) ?_)
 have hk0 : k = 0 := by omega
 subst hk0
 exact ⟨_, hg.done, hN.sub [0] (by decide) rfl⟩
theorem numBool_iter (ar : List Bool) (gp gq : Nat) (v : Value) (hal : ar.length ≤ 67108864) : IterT Tryz.prog 209 #[.pointer (some ⟨gp, 0, none⟩), .pointer (some ⟨gq, 0, none⟩)] [.blk gp [v] 206, .blk gq [.func (.func 192) #[] #[]] 256] (fun F w => SlO F vB w v ar) id encI RdI (restI (isOn ar) 0 ar.length) := by
  intro σ l C T s0 w0 w F hT hY hfx hN
  have h1 := hN.pickL (M := [_, _, _]) [0, 1, 2] (by decide) rfl
  refine (numBool1_calls ar l C T s0 w hT hY gp gq v h1 (hfx.step hN) hal).mono ?_
  rintro _ w' ⟨s', hr, h2⟩
  exact ⟨s', hr, Now.callA (M := [_, _, _]) (N := []) hN h2⟩
end Go.Proofs.YtngkdkbpgoddlaaGreat
set_option linter.unusedVariables false
set_option linter.unusedSimpArgs false
namespace Go.Proofs.YtngkdkbpgoddlaaGreat
open Go.RowKit Go.Rl
open Go.Gr
set_option maxHeartbeats 4000000 in
set_option maxRecDepth 100000 in
theorem keptG_calls (g : Nat) (c0 c1 c2 c3 c4 c5 kv : Value) (bs : List Bool) (w : World) (hb : Blk w g [c0, c1, c2, c3, c4, c5, kv] 211) (hk : Sl vB w kv bs) (hl : bs.length ≤ 67108864) : Gives Tryz.prog 151 #[.pointer (some ⟨g, 0, none⟩)] w fun r w' => Own vI 3 w' w.heap.size r (restI (isOn bs) 0 bs.length) ∧ Ext w w' := by
 refine Gives.startX Tryz.func151 rfl (Nat.le_of_ble_eq_true rfl) ?_
 rw [args1]
 have hN := Now.nil w none_
 refine XW.seq (XW.region rfl (RL.ev (v := .slice none 0 0) rfl rfl ev_assign (RL.nil (onlyNi (xthenN (XW.seq (XW.region rfl ?_)))))))
 refine RL.op rfl rfl (opN_alloc (cs := [.slice none 0 0]) zero25 rfl hN ?_)
 clear hN
 intro g1 w1 (hN : Now w none_ w1 [_])
 refine RL.nil (onlyNi (xthenN ?_))
 iterate 2 refine XW.seq ?_
 refine XW.region rfl (RL.ev (v := .pointer (some ⟨g, 0, none⟩)) rfl rfl ev_move (RL.ev rfl rfl (ev_false (ev_isNil Tryz.underlying123 rfl rfl) (by simp)) (RL.nil (onlyNi (xthenN (XW.condF rfl (XW.skip (xthenN ?_))))))))
 iterate 2 refine XW.seq ?_
 replace hN := hN.addNil vI 3
 replace hN : Now w none_ w1 [.own vI 3 (.slice none 0 0) ([]), .blk g1 [.slice none 0 0] 25] := hN
 refine XW.region rfl (RL.ev (v := .pointer (some ⟨g, 0, none⟩)) rfl rfl ev_move (RL.ev rfl rfl (ev_nilCheck rfl) (RL.ev rfl rfl (ev_fieldAddr Tryz.underlying211 rfl sz206 (by decide) rfl) (RL.ev rfl rfl (ev_loadB Tryz.underlying206 rfl rfl (hb.ext hN.ext0) rfl) ?_))))
 refine RL.op rfl rfl (op_call2 Tryz.func191 rfl rfl rfl rfl ((numBool_calls _ bs _ (hk.o.now hN)).mono ?_))
 rintro _ w2 ⟨gp2, gq2, rfl, hC_⟩
 replace hN : Now w none_ w2 [_, _, _, _] := hN.call0 hC_
 clear hC_
 refine RL.nil (onlyNi (xthenN (XW.block ?_)))
 refine XW.rangeT (gf := 209) (lb := #[.pointer (some ⟨gp2, 0, none⟩), .pointer (some ⟨gq2, 0, none⟩)]) (M := [_, _]) (fun s : Value × List Int => [.blk g1 [s.1] 25, .own vI 3 s.1 s.2]) (AppT Int) (.slice none 0 0, []) (hN.sub [3, 2, 0, 1] (by decide) rfl) rfl Tryz.func209 rfl rfl (numBool_iter bs gp2 gq2 _ (by omega)) AppT.on hk.o (fun _ => rfl) (by decide) ?_ ?_
 clear hN
 rintro l_ D_ rc_ FF ⟨v_, a_⟩ x_ pre_ post_ wr hrun hxs hrd hN
 change XW _ _ _ _ _ _ (upd _ 12 (.int .i64 (x_))) _
 replace hN : Now wr FF wr [.obj l_ (.loop (rc_ .ready none)), .obj D_ (.deferred (some [])), .blk g1 [v_] 25, .own vI 3 (v_) (a_)] := hN
 have hal_ : a_.length < ((restI (isOn bs) 0 bs.length)).length := app_len hrun rfl hxs
 have hxl_ := restI_len (isOn bs) bs.length 0
 refine XW.region rfl (RL.ev (v := .int .i64 (x_)) rfl rfl ev_assign (RL.nil (onlyNi (assignQi ?_))))
 clear hN
 intro w3 (hN : Now wr FF w3 [.obj l_ (.loop (rc_ .busy none)), .obj D_ (.deferred (some [])), .blk g1 [v_] 25, .own vI 3 (v_) (a_)])
 refine XW.block (XW.region rfl (RL.ev rfl rfl (ev_loadB Tryz.underlying25 rfl rfl (hN.blk 2 rfl) rfl) (RL.ev (v := .int .i64 (x_)) rfl rfl ev_move ?_)))
 refine RL.op rfl rfl (opN_lit (enc := vI) (l := [x_]) (xs := [.tmp 14]) Tryz.underlying25 sz3 zr3 rfl rfl (fun _ => rfl) rfl (by decide) (by decide) hN ?_)
 clear hN
 intro g4 w4 (hN : Now wr FF w4 [_, _, _, _, _])
 refine RL.op rfl rfl (opN_append Tryz.underlying25 inf3 rfl (fun _ => rfl) hN 4 rfl rfl (hN.sl 0 rfl) rfl (by (try simp only [List.length_append, List.length_take, List.length_drop, List.length_nil, List.length_cons, List.length_singleton, List.length_replicate, List.length_append, List.length_map]); omega) (by decide) ?_)
 clear hN
 intro v5 w5 (hN : Now wr FF w5 [_, _, _, _, _])
 refine RL.op rfl rfl (opN_store sz25 rfl rfl (hN.sl 4 rfl).cells1 (hN.sl 4 rfl).one1 hN 3 rfl (Nat.le_of_ble_eq_true rfl) ?_)
 clear hN
 intro w6 (hN : Now wr FF w6 [_, _, _, _, _])
 refine RL.nil (onlyNi (xblockN ?_))
 exact roundQn ⟨v5, a_ ++ [x_]⟩ ⟨rfl, rfl⟩ (hN.sub [1, 2, 3, 4] (by decide) rfl)
 clear hN
 rintro l_ D_ o_ ⟨v_, a_⟩ w7 hrun hN
 replace hN : Now w none_ w7 [.obj l_ o_, .obj D_ (.deferred (some [])), .blk g1 [v_] 25, .own vI 3 (v_) (a_)] := hN
 have ha_ : a_ = (restI (isOn bs) 0 bs.length) := app_run hrun
 refine xblockN (xthenN (XW.seq (XW.region rfl (RL.ev rfl rfl (ev_loadB Tryz.underlying25 rfl rfl (hN.blk 2 rfl) rfl) (RL.ev (v := v_) rfl rfl ev_assign (RL.nil (onlyNi (xthenN (XW.ret ?_)))))))))
 refine xretM hN (.inl rfl) 1 rfl ?_
 clear hN
 intro w8 (hN : Now w none_ w8 [_, _, _, _])
 refine ⟨_, RV.tmp rfl, ?_⟩
 exact ⟨(hN.ownOut 3 rfl).relist ha_, hN.ext0⟩
set_option maxHeartbeats 4000000 in
set_option maxRecDepth 100000 in
theorem better_calls (n k q : Int) (mv : Value) (ar : List I3) (a b : I3) (w : World) (hm : Sm i3cells w mv ar) (h0 : 0 ≤ k) (ha : ar[k.toNat]? = some a) (h1 : 0 ≤ q) (hb : ar[q.toNat]? = some b) : Gives Tryz.prog 150 #[.agg #[.int .i64 n, mv], .int .i64 k, .int .i64 q] w fun r w' => r = .bool (decide (a.2.2 < b.2.2)) ∧ Ext w w' := by
 refine Gives.start Tryz.func150 rfl (Nat.le_of_ble_eq_true rfl) ?_
 rw [args3]
 have hN := Now.nil w none_
 have hlt := (List.getElem?_eq_some_iff.1 ha).1
 have hlt2 := (List.getElem?_eq_some_iff.1 hb).1
 refine RW.seq (RW.region ?_)
 refine RL.op rfl rfl (opN_box (cs := [.int .i64 (n), mv]) rfl rfl hN ?_)
 clear hN
 intro g1 w1 (hN : Now w none_ w1 [_])
 refine RL.ev (v := .bool false) rfl rfl ev_assign (RL.nil (thenN (RW.seq ?_)))
 replace hN := hN.ext (Ext.drew w1)
 refine RW.drawR rfl (fun u => Now w none_ u [.blk g1 [.int .i64 (n), mv] 24]) 14 [(0,0), (1,0), (2,0), (3,0), (4,0), (5,0), (6,0), (7,0), (8,0), (9,0), (10,0), (11,0), (12,0), (13,0)] (by intro _ _ _ h; exact h) (by kernel_rfl) hN (RQ.ev rfl rfl (fun w hS => (ev_fieldAddr Tryz.underlying24 rfl sz22 (by decide) rfl)) (RQ.ev rfl rfl (fun w hS => (ev_loadB Tryz.underlying22 rfl rfl (hS.blk 0 rfl) rfl)) (RQ.ev (v := .int .i64 (k)) rfl rfl (fun w hS => ev_move) (RQ.ev rfl rfl (fun w hS => (ev_indexM Tryz.underlying22 sz100 i3cells_len (by decide) (hm.o.now hS) rfl rfl (by omega) (by omega))) (RQ.ev rfl rfl (fun w hS => (ev_fieldM (m := (k).toNat) (b := 0) Tryz.underlying100 rfl sz3 (by decide) i3cells_len (hm.o.now hS) ha rfl rfl)) (RQ.ev rfl rfl (fun w hS => (ev_loadMF (m := (k).toNat) (j := 2) (a := a) Tryz.underlying3 rfl i3cells_len (hm.o.now hS) rfl ha rfl)) (RQ.ev rfl rfl (fun w hS => (ev_fieldAddr Tryz.underlying24 rfl sz22 (by decide) rfl)) (RQ.ev rfl rfl (fun w hS => (ev_loadB Tryz.underlying22 rfl rfl (hS.blk 0 rfl) rfl)) (RQ.ev (v := .int .i64 (q)) rfl rfl (fun w hS => ev_move) ?_)))))))))
 refine RQ.ev rfl rfl (fun w hS => (ev_indexM Tryz.underlying22 sz100 i3cells_len (by decide) (hm.o.now hS) rfl rfl (by omega) (by omega))) (RQ.ev rfl rfl (fun w hS => (ev_fieldM (m := (q).toNat) (b := 0) Tryz.underlying100 rfl sz3 (by decide) i3cells_len (hm.o.now hS) hb rfl rfl)) (RQ.ev rfl rfl (fun w hS => (ev_loadMF (m := (q).toNat) (j := 2) (a := b) Tryz.underlying3 rfl i3cells_len (hm.o.now hS) rfl hb rfl)) (RQ.ev rfl rfl (fun w hS => (ev_lss rfl rfl)) (RQ.ev (v := .bool (decide (a.2.2 < b.2.2))) rfl rfl (fun w hS => ev_assign) (RQ.done (by kernel_rfl) (thenN (RW.ret (retI (RV.tmp rfl) ?_))))))))
 exact ⟨rfl, hN.ext0⟩
set_option maxHeartbeats 4000000 in
set_option maxRecDepth 100000 in
theorem lay_from (n : Nat) (lv : Value) (l : List Int) (gm : Nat) (mv : Value) (ar : List I3) (w : World) (hl : Sl vI w lv l) (hb : Blk w gm [.int .i64 (n : Int), mv] 24) (hm : Sm i3cells w mv ar) (hok : ∀ a ∈ ar, okA n a) (hv : ∀ k ∈ l, 0 ≤ k ∧ k < (ar.length : Int)) (hn : n ≤ 16777216) (hll : l.length ≤ 67108864) : Gives Tryz.prog 152 #[.agg #[.int .i64 (n : Int), mv], lv, .func (.func 145) #[] #[.pointer (some ⟨gm, 0, none⟩)], .func (.func 146) #[] #[.pointer (some ⟨gm, 0, none⟩)]] w fun r w' => ∃ bv ev bs es os os1, r = .agg #[bv, ev] ∧ Now w none_ w' [.own vI 3 bv bs, .ownm i3cells 3 246 ev es] ∧ Cs n bs (f1 (keysOf ar (·.1) os) n) ∧ es = os.map (edgeOf ar (·.2.1)) ∧ Laid os1 (keysOf ar (·.1) os1) os os1.length ∧ Laid l (keysOf ar (·.2.1) l) os1 l.length := by
 refine Gives.start Tryz.func152 rfl (Nat.le_of_ble_eq_true rfl) ?_
 rw [args4]
 have hN := Now.nil w none_
 refine RW.seq (RW.region ?_)
 refine RL.op rfl rfl (opN_box (cs := [.int .i64 ((n : Int)), mv]) rfl rfl hN ?_)
 clear hN
 intro g1 w1 (hN : Now w none_ w1 [_])
 refine RL.op rfl rfl (opN_alloc (cs := [.slice none 0 0, .slice none 0 0]) zero209 rfl hN ?_)
 clear hN
 intro g2 w2 (hN : Now w none_ w2 [_, _])
 refine RL.nil (thenN (RW.seq (RW.region (RL.ev rfl rfl (ev_fieldAddr Tryz.underlying24 rfl sz3 (by decide) rfl) (RL.ev rfl rfl (ev_loadB Tryz.underlying3 rfl rfl (hN.blk 1 rfl) rfl) (RL.ev rfl rfl (ev_arith rfl rfl rfl ((add64 (by omega) (by omega)).trans (by omega : (n : Int) + 1 = ((n + 1 : Nat) : Int)))) ?_))))))
 refine RL.op rfl rfl (opN_make (enc := vI) (z := 0) Tryz.underlying25 inf3 rfl hN rfl (by omega) (by omega) (by omega) ?_)
 clear hN
 intro v3 w3 (hN : Now w none_ w3 [_, _, _])
 refine RL.ev rfl rfl (ev_buildL (cs := [v3, .slice none 0 0]) Tryz.underlying209 zero209 (places := #[(0, 1), (1, 1)]) (by intro w; kernel_rfl) (pl := [(0, .tmp 16)]) rfl (ps := [(0, v3)]) rfl (zc := [.slice none 0 0, .slice none 0 0]) rfl (fill_step (vs := [v3]) (hN.sl 0 rfl).cells1 rfl (Nat.le_of_ble_eq_true rfl) rfl)) ?_
 refine RL.op rfl rfl (opN_alloc (cs := [.slice none 0 0, .slice none 0 0]) zero209 rfl hN ?_)
 clear hN
 intro g4 w4 (hN : Now w none_ w4 [_, _, _, _])
 refine RL.op rfl rfl (opN_storeAll (vs := [v3, .slice none 0 0]) sz209 rfl rfl rfl (by intro u hu; simp only [List.mem_cons, List.not_mem_nil, or_false] at hu; rcases hu with rfl | rfl <;> first | rfl | exact (hN.sl 1 rfl).one1) hN 0 rfl rfl ?_)
 clear hN
 intro w5 (hN : Now w none_ w5 [_, _, _, _])
 refine RL.nil (thenN ?_)
 iterate 2 refine RW.seq ?_
 replace hN := hN.ext (Ext.drew w5)
 refine RW.drawR rfl (fun u => Now w none_ u [.blk g4 [v3, .slice none 0 0] 209, .own vI 3 (v3) (List.replicate (n + 1) 0), .blk g2 [.slice none 0 0, .slice none 0 0] 209, .blk g1 [.int .i64 ((n : Int)), mv] 24]) 11 [(0,0), (1,0), (2,0), (3,0), (4,0), (5,0), (7,0), (10,0), (6,1), (8,1), (9,1)] (by intro _ _ _ h; exact h) (by kernel_rfl) hN (RQ.ev rfl rfl (fun w hS => (ev_fieldAddr Tryz.underlying24 rfl sz3 (by decide) rfl)) (RQ.ev rfl rfl (fun w hS => (ev_loadB Tryz.underlying3 rfl rfl (hS.blk 3 rfl) rfl)) (RQ.ev rfl rfl (fun w hS => (ev_fieldAddr Tryz.underlying24 rfl sz3 (by decide) rfl)) (RQ.ev rfl rfl (fun w hS => (ev_loadB Tryz.underlying3 rfl rfl (hS.blk 3 rfl) rfl)) (RQ.ev (v := lv) rfl rfl (fun w hS => ev_move) (RQ.ev (v := .func (.func 146) #[] #[.pointer (some ⟨gm, 0, none⟩)]) rfl rfl (fun w hS => ev_move) (RQ.ev (v := .func (.func 145) #[] #[.pointer (some ⟨gm, 0, none⟩)]) rfl rfl (fun w hS => ev_move) (RQ.ev (v := .int .i64 (0)) rfl rfl (fun w hS => ev_move) ?_))))))))
 refine RQ.do rfl rfl (op_call3 Tryz.func149 rfl rfl rfl rfl rfl ((sorted_to n _ l gm _ ar _ (hl.o.now hN) (hb.ext hN.ext0) (hm.o.now hN) hok hv (by omega) (by omega)).mono ?_))
 rintro v6 w6 ⟨os6, ho_, hla6, he_⟩
 replace hN : Now w none_ w6 [_, _, _, _, _] := hN.pushOwn ho_ he_
 clear ho_ he_
 have hpm6 := hla6.perm (keysOf_len _ _ _)
 have hln6 := hpm6.length_eq
 have hvs6 : ∀ x ∈ os6, 0 ≤ x ∧ x < (ar.length : Int) := fun x hx => hv x (hpm6.mem_iff.1 hx)
 refine ⟨(hN.sub [1, 2, 3, 4] (by decide) rfl), ?_⟩
 refine RQ.do rfl rfl (op_call3 Tryz.func149 rfl rfl rfl rfl rfl ((sorted_from n _ os6 gm _ ar _ (hN.sl 0 rfl) (hb.ext hN.ext0) (hm.o.now hN) hok hvs6 (by omega) (by omega)).mono ?_))
 rintro v7 w7 ⟨os7, ho_, hla7, he_⟩
 replace hN : Now w none_ w7 [_, _, _, _, _, _] := hN.pushOwn ho_ he_
 clear ho_ he_
 have hpm7 := hla7.perm (keysOf_len _ _ _)
 have hln7 := hpm7.length_eq
 have hvs7 : ∀ x ∈ os7, 0 ≤ x ∧ x < (ar.length : Int) := fun x hx => hvs6 x (hpm7.mem_iff.1 hx)
 refine ⟨(hN.sub [2, 3, 4, 5] (by decide) rfl), ?_⟩
 have hL_8 := (hN.sl 0 rfl).len_le
 refine RQ.do rfl rfl (OpR.ev (ev_lenS Tryz.underlying25 (hN.sl 0 rfl) rfl) ⟨(hN.sub [2, 3, 4, 5] (by decide) rfl), ?_⟩)
 replace hN := hN.addNilM i3cells 3 246
 replace hN : Now w none_ w7 [.ownm i3cells 3 246 (.slice none 0 0) ([]), .own vI 3 (v7) (os7), .own vI 3 (v6) (os6), .blk g4 [v3, .slice none 0 0] 209, .own vI 3 (v3) (List.replicate (n + 1) 0), .blk g2 [.slice none 0 0, .slice none 0 0] 209, .blk g1 [.int .i64 ((n : Int)), mv] 24] := hN
 have hkl := keysOf_len ar (·.1) os7
 have hknn : ∀ x ∈ (keysOf ar (·.1) os7), 0 ≤ x := keysOf_nn hvs7 (fun a ha => by obtain ⟨h0, _, h2, _⟩ := hok a ha; first | exact h0 | exact h2)
 refine RQ.done (by kernel_rfl) (thenN (RW.block ?_))
 refine RW.loop (fun k R0 w0' => ∃ cs : List Int, ∃ ve : Value, ∃ es : List I3, ∃ i : Nat, R0 2 = .func (.func 145) #[] #[.pointer (some ⟨gm, 0, none⟩)] ∧ R0 3 = .func (.func 146) #[] #[.pointer (some ⟨gm, 0, none⟩)] ∧ R0 4 = .pointer (some ⟨g1, 0, none⟩) ∧ R0 8 = .pointer (some ⟨g2, 0, none⟩) ∧ R0 9 = .pointer (some ⟨g4, 0, none⟩) ∧ R0 26 = v7 ∧ R0 27 = .int .i64 ((os7.length : Int)) ∧ R0 28 = .int .i64 ((i : Int)) ∧ Now w none_ w0' [.ownm i3cells 3 246 (ve) (es), .own vI 3 (v7) (os7), .own vI 3 (v6) (os6), .blk g4 [v3, ve] 209, .own vI 3 (v3) (cs), .blk g2 [.slice none 0 0, .slice none 0 0] 209, .blk g1 [.int .i64 ((n : Int)), mv] 24] ∧ (i + k = os7.length) ∧ (Cs n cs (f0 (keysOf ar (·.1) os7) i)) ∧ (es = (os7.take i).map (edgeOf ar (·.2.1))) ∧ (es.length = i)) (os7.length) ?_ ?_
 exact ⟨List.replicate (n + 1) 0, .slice none 0 0, [], 0, rfl, rfl, rfl, rfl, rfl, rfl, rfl, rfl, hN, by omega, f0_start, rfl, rfl⟩
 clear hN
 rintro k R0 w0' ⟨cs, ve, es, i, hr2_, hr3_, hr4_, hr8_, hr9_, hr26_, hr27_, hr28_, hN, hik, hcs, hes, hel⟩
 have hR_ : ∃ R0_, R0 = (upd (upd (upd (upd (upd (upd (upd (upd R0_ 2 _) 3 _) 4 _) 8 _) 9 _) 26 _) 27 _) 28 _) := ⟨R0, by rw [upd_self hr2_, upd_self hr3_, upd_self hr4_, upd_self hr8_, upd_self hr9_, upd_self hr26_, upd_self hr27_, upd_self hr28_]⟩
 obtain ⟨R0_, rfl⟩ := hR_
 clear hr2_ hr3_ hr4_ hr8_ hr9_ hr26_ hr27_ hr28_
 refine RW.seq (RW.region (RL.ev rfl rfl (ev_lss rfl rfl) (RL.nil (thenN (RW.seq ?_)))))
 refine RW.condP _ rfl (fun hlt => ?_) (fun hlt => ?_)
 refine RW.skip (thenN (RW.seq (RW.block (RW.seq (RW.region (RL.ev rfl rfl (ev_index Tryz.underlying25 sz3 (hN.sl 1 rfl) rfl rfl (by omega) (by omega)) ?_))))))
 have hOb_ : ∃ a_, (os7)[i]? = some a_ := ⟨_, List.getElem?_eq_getElem (by omega)⟩
 obtain ⟨ap, hap⟩ := hOb_
 refine RL.ev rfl rfl (ev_loadG (m := i) (a := ap) Tryz.underlying3 rfl (hN.sl 1 rfl) rfl hap) (RL.ev (v := .int .i64 (ap)) rfl rfl ev_assign ?_)
 have hOb_ := hvs7 ap (List.mem_of_getElem? hap)
 obtain ⟨hkp0, hkp1⟩ := hOb_
 have hOb_ : ∃ a_, ar[(ap).toNat]? = some a_ := ⟨_, List.getElem?_eq_getElem (by omega)⟩
 obtain ⟨br, hbr⟩ := hOb_
 refine RL.nil (thenN (RW.seq ?_))
 replace hN := hN.ext (Ext.drew w0')
 refine RW.drawR rfl (fun u => Now w none_ u [.own vI 3 (v7) (os7), .own vI 3 (v6) (os6), .blk g4 [v3, ve] 209, .own vI 3 (v3) (cs), .blk g2 [.slice none 0 0, .slice none 0 0] 209, .blk g1 [.int .i64 ((n : Int)), mv] 24]) 16 [(0,0), (1,0), (2,0), (3,0), (5,0), (6,0), (7,0), (8,0), (9,0), (10,0), (11,0), (4,1), (12,0), (13,1), (14,1), (15,0), (16,2)] (by intro _ _ _ h; exact h) (by kernel_rfl) (hN.sub [1, 2, 3, 4, 5, 6] (by decide) rfl) (RQ.ev rfl rfl (fun w hS => (ev_fieldAddr Tryz.underlying209 rfl sz207 (by decide) rfl)) (RQ.ev rfl rfl (fun w hS => (ev_loadB Tryz.underlying207 rfl rfl (hS.blk 2 rfl) rfl)) (RQ.ev (v := .func (.func 146) #[] #[.pointer (some ⟨gm, 0, none⟩)]) rfl rfl (fun w hS => ev_move) (RQ.ev (v := .int .i64 (ap)) rfl rfl (fun w hS => ev_move) (RQ.ev rfl rfl (fun w hS => (ev_fieldAddr Tryz.underlying24 rfl sz22 (by decide) rfl)) (RQ.ev rfl rfl (fun w hS => (ev_loadB Tryz.underlying22 rfl rfl (hS.blk 5 rfl) rfl)) (RQ.ev (v := .int .i64 (ap)) rfl rfl (fun w hS => ev_move) (RQ.ev rfl rfl (fun w hS => (ev_indexM Tryz.underlying22 sz100 i3cells_len (by decide) (hm.o.now hS) rfl rfl (by omega) (by omega))) (RQ.ev rfl rfl (fun w hS => (ev_fieldM (m := (ap).toNat) (b := 0) Tryz.underlying100 rfl sz3 (by decide) i3cells_len (hm.o.now hS) hbr rfl rfl)) ?_)))))))))
 refine RQ.ev rfl rfl (fun w hS => (ev_loadMF (m := (ap).toNat) (j := 2) (a := br) Tryz.underlying3 rfl i3cells_len (hm.o.now hS) rfl hbr rfl)) (RQ.ev (v := .int .i64 (ap)) rfl rfl (fun w hS => ev_move) ?_)
 have hkv10 : 0 ≤ ap ∧ ap < (ar.length : Int) := ⟨by omega, by omega⟩
 have hOb_ : ∃ a_, ar[(ap).toNat]? = some a_ := ⟨_, List.getElem?_eq_getElem (by omega)⟩
 obtain ⟨b10, hb10⟩ := hOb_
 have hOb_ := hok b10 (List.mem_of_getElem? hb10)
 obtain ⟨hq100, hq101, hq102, hq103, hq104, hq105⟩ := hOb_
 refine RQ.do rfl rfl (op_callw1 (first := #[]) (captured := #[.pointer (some ⟨gm, 0, none⟩)]) (v0 := .int .i64 (ap)) (args := #[.int .i64 (ap), .pointer (some ⟨gm, 0, none⟩)]) Tryz.func146 rfl rfl (by simp) rfl rfl ((to_calls (ap) gm ((n : Int)) _ ar b10 _ (hb.ext hN.ext0) (hm.o.now hN) hkv10.1 hb10).mono ?_))
 rintro _ w9 ⟨rfl, he_⟩
 replace hN := hN.ext he_
 clear he_
 refine ⟨(hN.sub [1, 2, 3, 4, 5, 6] (by decide) rfl), ?_⟩
 have hbe_ : br = b10 := Option.some.inj (hbr.symm.trans hb10)
 subst hbe_
 refine RQ.ev rfl rfl (fun w hS => (ev_buildL (cs := [.int .i64 (br.2.1), .int .i64 (br.2.2), .int .i64 (ap)]) Tryz.underlying246 zero246 (places := #[(0, 1), (1, 1), (2, 1)]) (by intro w; kernel_rfl) (pl := [(0, .tmp 36), (1, .tmp 42), (2, .tmp 43)]) rfl (ps := [(0, .int .i64 (br.2.1)), (1, .int .i64 (br.2.2)), (2, .int .i64 (ap))]) rfl (zc := [.int .i64 (0), .int .i64 (0), .int .i64 (0)]) rfl (fill_step (vs := [.int .i64 (br.2.1)]) rfl rfl (Nat.le_of_ble_eq_true rfl) (fill_step (vs := [.int .i64 (br.2.2)]) rfl rfl (Nat.le_of_ble_eq_true rfl) (fill_step (vs := [.int .i64 (ap)]) rfl rfl (Nat.le_of_ble_eq_true rfl) rfl))))) ?_
 refine RQ.do rfl rfl (opN_litM (cf := i3cells) (s := 3) (pl := [(0, .tmp 44)]) (ps := [(0, .agg #[.int .i64 (br.2.1), .int .i64 (br.2.2), .int .i64 (ap)])]) (zc := [.int .i64 (0), .int .i64 (0), .int .i64 (0)]) (l := [(br.2.1, br.2.2, ap)]) Tryz.underlying207 inf246 (by kernel_rfl) rfl rfl (fill_step (vs := [.int .i64 (br.2.1), .int .i64 (br.2.2), .int .i64 (ap)]) rfl rfl (Nat.le_of_ble_eq_true rfl) rfl) i3cells_len rfl (by decide) (by decide) (by decide) hN ?_)
 clear hN
 intro g11 w11 (hN : Now w none_ w11 [_, _, _, _, _, _, _, _])
 refine ⟨(hN.sub [2, 3, 4, 5, 6, 7] (by decide) rfl), ?_⟩
 refine RQ.do rfl rfl (opN_appendM Tryz.underlying207 inf246 rfl (by decide) i3cells_one i3cells_len hN 1 rfl rfl (hN.sm 0 rfl) rfl (by rw [hel]; simp only [List.length_singleton, List.length_cons, List.length_nil]; omega) (by decide) ?_)
 clear hN
 intro v12 w12 (hN : Now w none_ w12 [_, _, _, _, _, _, _, _])
 refine ⟨(hN.sub [2, 3, 4, 5, 6, 7] (by decide) rfl), ?_⟩
 refine RQ.ev rfl rfl (fun w hS => (ev_fieldAddr Tryz.underlying209 rfl sz207 (by decide) rfl)) ?_
 refine RQ.last rfl rfl (opN_store sz207 rfl rfl (hN.sm 1 rfl).cells1 (hN.sm 1 rfl).one1 hN 4 rfl (Nat.le_of_ble_eq_true rfl) ?_)
 clear hN
 intro w13 (hN : Now w none_ w13 [_, _, _, _, _, _, _, _])
 refine RZ.done (by kernel_rfl) (thenN ?_)
 have hcl := hcs.len
 replace hN := hN.ext (Ext.drew w13)
 refine RW.drawR rfl (fun u => Now w none_ u [.ownm i3cells 3 246 (.slice (some ⟨g11, 0, none⟩) 1 1) ([(br.2.1, br.2.2, ap)]), .ownm i3cells 3 246 (v12) (es ++ [(br.2.1, br.2.2, ap)]), .own vI 3 (v7) (os7), .own vI 3 (v6) (os6), .blk g4 [v3, v12] 209, .own vI 3 (v3) (cs), .blk g2 [.slice none 0 0, .slice none 0 0] 209, .blk g1 [.int .i64 ((n : Int)), mv] 24]) 10 [(0,0), (1,0), (2,0), (3,0), (4,1), (5,0), (6,0), (7,0), (8,0), (9,0), (10,2)] (by intro _ _ _ h; exact h) (by kernel_rfl) hN (RQ.ev rfl rfl (fun w hS => (ev_fieldAddr Tryz.underlying209 rfl sz25 (by decide) rfl)) (RQ.ev rfl rfl (fun w hS => (ev_loadB Tryz.underlying25 rfl rfl (hS.blk 4 rfl) rfl)) (RQ.ev (v := .func (.func 145) #[] #[.pointer (some ⟨gm, 0, none⟩)]) rfl rfl (fun w hS => ev_move) (RQ.ev (v := .int .i64 (ap)) rfl rfl (fun w hS => ev_move) ?_))))
 have hkv15 : 0 ≤ ap ∧ ap < (ar.length : Int) := ⟨by omega, by omega⟩
 have hOb_ : ∃ a_, ar[(ap).toNat]? = some a_ := ⟨_, List.getElem?_eq_getElem (by omega)⟩
 obtain ⟨b15, hb15⟩ := hOb_
 have hOb_ := hok b15 (List.mem_of_getElem? hb15)
 obtain ⟨hq150, hq151, hq152, hq153, hq154, hq155⟩ := hOb_
 refine RQ.do rfl rfl (op_callw1 (first := #[]) (captured := #[.pointer (some ⟨gm, 0, none⟩)]) (v0 := .int .i64 (ap)) (args := #[.int .i64 (ap), .pointer (some ⟨gm, 0, none⟩)]) Tryz.func145 rfl rfl (by simp) rfl rfl ((from_calls (ap) gm ((n : Int)) _ ar b15 _ (hb.ext hN.ext0) (hm.o.now hN) hkv15.1 hb15).mono ?_))
 rintro _ w14 ⟨rfl, he_⟩
 replace hN := hN.ext he_
 clear he_
 refine ⟨hN, ?_⟩
 have hbe_ : br = b15 := Option.some.inj (hbr.symm.trans hb15)
 subst hbe_
 refine RQ.ev rfl rfl (fun w hS => (ev_arith rfl rfl rfl (add64 (by omega) (by omega)))) (RQ.ev rfl rfl (fun w hS => (ev_index Tryz.underlying25 sz3 (hS.sl 5 rfl) rfl rfl (by omega) (by omega))) ?_)
 have hOb_ : ∃ a_, (cs)[(br.1 + 1).toNat]? = some a_ := ⟨_, List.getElem?_eq_getElem (by omega)⟩
 obtain ⟨ac, hac⟩ := hOb_
 refine RQ.ev rfl rfl (fun w hS => (ev_loadG (m := (br.1 + 1).toNat) (a := ac) Tryz.underlying3 rfl (hS.sl 5 rfl) rfl hac)) ?_
 have hst := f0_step hcs (keysOf_at hap hb15) (by omega) (by omega) hac
 obtain ⟨hx0, hx1, hst⟩ := hst
 refine RQ.ev rfl rfl (fun w hS => (ev_arith rfl rfl rfl (add64 (by omega) (by omega)))) (RQ.ev rfl rfl (fun w hS => (ev_index Tryz.underlying25 sz3 (hS.sl 5 rfl) rfl rfl (by omega) (by omega))) ?_)
 refine RQ.last rfl rfl (opN_storeOwn (m := (br.1 + 1).toNat) (a := (ac + 1)) sz3 hN 5 rfl rfl (by omega) rfl rfl rfl rfl ?_)
 clear hN
 intro w16 (hN : Now w none_ w16 [_, _, _, _, _, _, _, _])
 refine RZ.done (by kernel_rfl) (blockN (thenN (RW.region (RL.ev rfl rfl (ev_arith rfl rfl rfl (add64 (by omega) (by omega))) (RL.ev (v := .int .i64 ((i : Int) + 1)) rfl rfl ev_move (RL.nil (thenN ?_)))))))
 exact ⟨k - 1, by omega, (cs).set (br.1 + 1).toNat ((ac + 1)), v12, es ++ [(br.2.1, br.2.2, ap)], i + 1, rfl, rfl, rfl, rfl, rfl, rfl, rfl, rfl, (hN.sub [1, 2, 3, 4, 5, 6, 7] (by decide) rfl), by omega, hst, by rw [map_take_succ _ hap, hes, edgeOf_at hb15], by rw [List.length_append, hel]; rfl⟩
 refine RW.exit ?_
 iterate 2 refine thenX ?_
 refine blockHit (thenN ?_)
 iterate 2 refine RW.seq ?_
 refine RW.region (RL.ev rfl rfl (ev_fieldAddr Tryz.underlying24 rfl sz3 (by decide) rfl) (RL.ev rfl rfl (ev_loadB Tryz.underlying3 rfl rfl (hN.blk 6 rfl) rfl) (RL.ev (v := .int .i64 (0)) rfl rfl ev_move (RL.nil (thenN (RW.block ?_))))))
 refine RW.loop (fun k1 R1 w1' => ∃ cs1 : List Int, ∃ v : Nat, R1 8 = .pointer (some ⟨g2, 0, none⟩) ∧ R1 9 = .pointer (some ⟨g4, 0, none⟩) ∧ R1 60 = .int .i64 ((n : Int)) ∧ R1 61 = .int .i64 ((v : Int)) ∧ Now w none_ w1' [.ownm i3cells 3 246 (ve) (es), .own vI 3 (v7) (os7), .own vI 3 (v6) (os6), .blk g4 [v3, ve] 209, .own vI 3 (v3) (cs1), .blk g2 [.slice none 0 0, .slice none 0 0] 209, .blk g1 [.int .i64 ((n : Int)), mv] 24] ∧ (v + k1 = n) ∧ (Cs n cs1 (f1 (keysOf ar (·.1) os7) v))) (n) ?_ ?_
 have hcs_ : Cs n cs (f0 (keysOf ar (·.1) os7) (keysOf ar (·.1) os7).length) := by rw [hkl, ← (show i = os7.length by omega)]; exact hcs
 exact ⟨cs, 0, rfl, rfl, rfl, rfl, hN, by omega, f1_start hcs_ hknn⟩
 clear hN
 rintro k1 R1 w1' ⟨cs1, v, hr8_, hr9_, hr60_, hr61_, hN, hvk, hcs1⟩
 have hR_ : ∃ R1_, R1 = (upd (upd (upd (upd R1_ 8 _) 9 _) 60 _) 61 _) := ⟨R1, by rw [upd_self hr8_, upd_self hr9_, upd_self hr60_, upd_self hr61_]⟩
 obtain ⟨R1_, rfl⟩ := hR_
 clear hr8_ hr9_ hr60_ hr61_
 refine RW.seq (RW.region (RL.ev rfl rfl (ev_lss rfl rfl) (RL.nil (thenN (RW.seq ?_)))))
 refine RW.condP _ rfl (fun hlt1 => ?_) (fun hlt1 => ?_)
 refine RW.skip (thenN (RW.seq (RW.block (RW.seq (RW.region (RL.ev (v := .int .i64 ((v : Int))) rfl rfl ev_move (RL.ev (v := .int .i64 ((v : Int))) rfl rfl ev_assign (RL.nil (thenN ?_)))))))))
 have hcl := hcs1.len
 have hOb_ : ∃ a_, cs1[v + 1]? = some a_ := ⟨_, List.getElem?_eq_getElem (by omega)⟩
 obtain ⟨ax, hax⟩ := hOb_
 have hOb_ : ∃ a_, cs1[v]? = some a_ := ⟨_, List.getElem?_eq_getElem (by omega)⟩
 obtain ⟨ay, hay⟩ := hOb_
 have hst := f1_step hcs1 (by omega) hax hay
 obtain ⟨hx0, hx1, hy0, hy1, hst⟩ := hst
 replace hN := hN.ext (Ext.drew w1')
 refine RW.drawR rfl (fun u => Now w none_ u [.ownm i3cells 3 246 (ve) (es), .own vI 3 (v7) (os7), .own vI 3 (v6) (os6), .blk g4 [v3, ve] 209, .own vI 3 (v3) (cs1), .blk g2 [.slice none 0 0, .slice none 0 0] 209, .blk g1 [.int .i64 ((n : Int)), mv] 24]) 13 [(0,0), (1,0), (2,0), (3,0), (4,0), (5,0), (6,0), (7,0), (8,0), (9,0), (10,0), (11,0), (12,0), (13,2)] (by intro _ _ _ h; exact h) (by kernel_rfl) hN (RQ.ev rfl rfl (fun w hS => (ev_fieldAddr Tryz.underlying209 rfl sz25 (by decide) rfl)) (RQ.ev rfl rfl (fun w hS => (ev_loadB Tryz.underlying25 rfl rfl (hS.blk 3 rfl) rfl)) (RQ.ev (v := .int .i64 ((v : Int))) rfl rfl (fun w hS => ev_move) (RQ.ev rfl rfl (fun w hS => (ev_arith rfl rfl rfl ((add64 (by omega) (by omega)).trans (by omega : (v : Int) + 1 = ((v + 1 : Nat) : Int))))) (RQ.ev rfl rfl (fun w hS => (ev_index Tryz.underlying25 sz3 (hS.sl 4 rfl) rfl rfl (by omega) (by omega))) (RQ.ev rfl rfl (fun w hS => (ev_loadG (m := (v + 1)) (a := ax) Tryz.underlying3 rfl (hS.sl 4 rfl) rfl hax)) (RQ.ev rfl rfl (fun w hS => (ev_fieldAddr Tryz.underlying209 rfl sz25 (by decide) rfl)) (RQ.ev rfl rfl (fun w hS => (ev_loadB Tryz.underlying25 rfl rfl (hS.blk 3 rfl) rfl)) (RQ.ev (v := .int .i64 ((v : Int))) rfl rfl (fun w hS => ev_move) ?_)))))))))
 refine RQ.ev rfl rfl (fun w hS => (ev_index Tryz.underlying25 sz3 (hS.sl 4 rfl) rfl rfl (by omega) (by omega))) (RQ.ev rfl rfl (fun w hS => (ev_loadG (m := v) (a := ay) Tryz.underlying3 rfl (hS.sl 4 rfl) rfl hay)) (RQ.ev rfl rfl (fun w hS => (ev_arith rfl rfl rfl (add64 (by omega) (by omega)))) (RQ.ev rfl rfl (fun w hS => (ev_index Tryz.underlying25 sz3 (hS.sl 4 rfl) rfl rfl (by omega) (by omega))) ?_)))
 refine RQ.last rfl rfl (opN_storeOwn (m := (v + 1)) (a := (ax + ay)) sz3 hN 4 rfl rfl (by omega) rfl rfl rfl rfl ?_)
 clear hN
 intro w19 (hN : Now w none_ w19 [_, _, _, _, _, _, _])
 refine RZ.done (by kernel_rfl) (blockN (thenN (RW.region (RL.ev rfl rfl (ev_arith rfl rfl rfl (add64 (by omega) (by omega))) (RL.ev (v := .int .i64 ((v : Int) + 1)) rfl rfl ev_move (RL.nil (thenN ?_)))))))
 exact ⟨k1 - 1, by omega, (cs1).set (v + 1) ((ax + ay)), v + 1, rfl, rfl, rfl, rfl, hN, by omega, hst⟩
 refine RW.exit ?_
 iterate 2 refine thenX ?_
 refine blockHit (thenN (RW.seq (RW.region (RL.ev rfl rfl (ev_loadAll (cs := [v3, ve]) Tryz.underlying209 rfl sz209 rfl (hN.blk 3 rfl)) ?_))))
 refine RL.op rfl rfl (opN_storeAll (vs := [v3, ve]) sz209 rfl rfl rfl (by intro u hu; simp only [List.mem_cons, List.not_mem_nil, or_false] at hu; rcases hu with rfl | rfl <;> first | rfl | exact (hN.sl 4 rfl).one1 | exact (hN.sm 0 rfl).one1) hN 5 rfl rfl ?_)
 clear hN
 intro w20 (hN : Now w none_ w20 [_, _, _, _, _, _, _])
 refine RL.nil (thenN (RW.ret (retI (RV.cell rfl rfl (hN.blk 5 rfl) Tryz.underlying209 rfl sz209) ?_)))
 have hv_ : v = n := by omega
 subst hv_
 have hi_ : i = os7.length := by omega
 rw [hi_, List.take_length] at hes
 exact ⟨_, _, cs1, es, _, _, rfl, hN.sub [4, 0] (by decide) rfl, hcs1, hes, hla7, hla6⟩
set_option maxHeartbeats 4000000 in
set_option maxRecDepth 100000 in
theorem lay_to (n : Nat) (lv : Value) (l : List Int) (gm : Nat) (mv : Value) (ar : List I3) (w : World) (hl : Sl vI w lv l) (hb : Blk w gm [.int .i64 (n : Int), mv] 24) (hm : Sm i3cells w mv ar) (hok : ∀ a ∈ ar, okA n a) (hv : ∀ k ∈ l, 0 ≤ k ∧ k < (ar.length : Int)) (hn : n ≤ 16777216) (hll : l.length ≤ 67108864) : Gives Tryz.prog 152 #[.agg #[.int .i64 (n : Int), mv], lv, .func (.func 146) #[] #[.pointer (some ⟨gm, 0, none⟩)], .func (.func 145) #[] #[.pointer (some ⟨gm, 0, none⟩)]] w fun r w' => ∃ bv ev bs es os os1, r = .agg #[bv, ev] ∧ Now w none_ w' [.own vI 3 bv bs, .ownm i3cells 3 246 ev es] ∧ Cs n bs (f1 (keysOf ar (·.2.1) os) n) ∧ es = os.map (edgeOf ar (·.1)) ∧ Laid os1 (keysOf ar (·.2.1) os1) os os1.length ∧ Laid l (keysOf ar (·.1) l) os1 l.length := by
 refine Gives.start Tryz.func152 rfl (Nat.le_of_ble_eq_true rfl) ?_
 rw [args4]
 have hN := Now.nil w none_
 refine RW.seq (RW.region ?_)
 refine RL.op rfl rfl (opN_box (cs := [.int .i64 ((n : Int)), mv]) rfl rfl hN ?_)
 clear hN
 intro g1 w1 (hN : Now w none_ w1 [_])
 refine RL.op rfl rfl (opN_alloc (cs := [.slice none 0 0, .slice none 0 0]) zero209 rfl hN ?_)
 clear hN
 intro g2 w2 (hN : Now w none_ w2 [_, _])
 refine RL.nil (thenN (RW.seq (RW.region (RL.ev rfl rfl (ev_fieldAddr Tryz.underlying24 rfl sz3 (by decide) rfl) (RL.ev rfl rfl (ev_loadB Tryz.underlying3 rfl rfl (hN.blk 1 rfl) rfl) (RL.ev rfl rfl (ev_arith rfl rfl rfl ((add64 (by omega) (by omega)).trans (by omega : (n : Int) + 1 = ((n + 1 : Nat) : Int)))) ?_))))))
 refine RL.op rfl rfl (opN_make (enc := vI) (z := 0) Tryz.underlying25 inf3 rfl hN rfl (by omega) (by omega) (by omega) ?_)
 clear hN
 intro v3 w3 (hN : Now w none_ w3 [_, _, _])
 refine RL.ev rfl rfl (ev_buildL (cs := [v3, .slice none 0 0]) Tryz.underlying209 zero209 (places := #[(0, 1), (1, 1)]) (by intro w; kernel_rfl) (pl := [(0, .tmp 16)]) rfl (ps := [(0, v3)]) rfl (zc := [.slice none 0 0, .slice none 0 0]) rfl (fill_step (vs := [v3]) (hN.sl 0 rfl).cells1 rfl (Nat.le_of_ble_eq_true rfl) rfl)) ?_
 refine RL.op rfl rfl (opN_alloc (cs := [.slice none 0 0, .slice none 0 0]) zero209 rfl hN ?_)
 clear hN
 intro g4 w4 (hN : Now w none_ w4 [_, _, _, _])
 refine RL.op rfl rfl (opN_storeAll (vs := [v3, .slice none 0 0]) sz209 rfl rfl rfl (by intro u hu; simp only [List.mem_cons, List.not_mem_nil, or_false] at hu; rcases hu with rfl | rfl <;> first | rfl | exact (hN.sl 1 rfl).one1) hN 0 rfl rfl ?_)
 clear hN
 intro w5 (hN : Now w none_ w5 [_, _, _, _])
 refine RL.nil (thenN ?_)
 iterate 2 refine RW.seq ?_
 replace hN := hN.ext (Ext.drew w5)
 refine RW.drawR rfl (fun u => Now w none_ u [.blk g4 [v3, .slice none 0 0] 209, .own vI 3 (v3) (List.replicate (n + 1) 0), .blk g2 [.slice none 0 0, .slice none 0 0] 209, .blk g1 [.int .i64 ((n : Int)), mv] 24]) 11 [(0,0), (1,0), (2,0), (3,0), (4,0), (5,0), (7,0), (10,0), (6,1), (8,1), (9,1)] (by intro _ _ _ h; exact h) (by kernel_rfl) hN (RQ.ev rfl rfl (fun w hS => (ev_fieldAddr Tryz.underlying24 rfl sz3 (by decide) rfl)) (RQ.ev rfl rfl (fun w hS => (ev_loadB Tryz.underlying3 rfl rfl (hS.blk 3 rfl) rfl)) (RQ.ev rfl rfl (fun w hS => (ev_fieldAddr Tryz.underlying24 rfl sz3 (by decide) rfl)) (RQ.ev rfl rfl (fun w hS => (ev_loadB Tryz.underlying3 rfl rfl (hS.blk 3 rfl) rfl)) (RQ.ev (v := lv) rfl rfl (fun w hS => ev_move) (RQ.ev (v := .func (.func 145) #[] #[.pointer (some ⟨gm, 0, none⟩)]) rfl rfl (fun w hS => ev_move) (RQ.ev (v := .func (.func 146) #[] #[.pointer (some ⟨gm, 0, none⟩)]) rfl rfl (fun w hS => ev_move) (RQ.ev (v := .int .i64 (0)) rfl rfl (fun w hS => ev_move) ?_))))))))
 refine RQ.do rfl rfl (op_call3 Tryz.func149 rfl rfl rfl rfl rfl ((sorted_from n _ l gm _ ar _ (hl.o.now hN) (hb.ext hN.ext0) (hm.o.now hN) hok hv (by omega) (by omega)).mono ?_))
 rintro v6 w6 ⟨os6, ho_, hla6, he_⟩
 replace hN : Now w none_ w6 [_, _, _, _, _] := hN.pushOwn ho_ he_
 clear ho_ he_
 have hpm6 := hla6.perm (keysOf_len _ _ _)
 have hln6 := hpm6.length_eq
 have hvs6 : ∀ x ∈ os6, 0 ≤ x ∧ x < (ar.length : Int) := fun x hx => hv x (hpm6.mem_iff.1 hx)
 refine ⟨(hN.sub [1, 2, 3, 4] (by decide) rfl), ?_⟩
 refine RQ.do rfl rfl (op_call3 Tryz.func149 rfl rfl rfl rfl rfl ((sorted_to n _ os6 gm _ ar _ (hN.sl 0 rfl) (hb.ext hN.ext0) (hm.o.now hN) hok hvs6 (by omega) (by omega)).mono ?_))
 rintro v7 w7 ⟨os7, ho_, hla7, he_⟩
 replace hN : Now w none_ w7 [_, _, _, _, _, _] := hN.pushOwn ho_ he_
 clear ho_ he_
 have hpm7 := hla7.perm (keysOf_len _ _ _)
 have hln7 := hpm7.length_eq
 have hvs7 : ∀ x ∈ os7, 0 ≤ x ∧ x < (ar.length : Int) := fun x hx => hvs6 x (hpm7.mem_iff.1 hx)
 refine ⟨(hN.sub [2, 3, 4, 5] (by decide) rfl), ?_⟩
 have hL_8 := (hN.sl 0 rfl).len_le
 refine RQ.do rfl rfl (OpR.ev (ev_lenS Tryz.underlying25 (hN.sl 0 rfl) rfl) ⟨(hN.sub [2, 3, 4, 5] (by decide) rfl), ?_⟩)
 replace hN := hN.addNilM i3cells 3 246
 replace hN : Now w none_ w7 [.ownm i3cells 3 246 (.slice none 0 0) ([]), .own vI 3 (v7) (os7), .own vI 3 (v6) (os6), .blk g4 [v3, .slice none 0 0] 209, .own vI 3 (v3) (List.replicate (n + 1) 0), .blk g2 [.slice none 0 0, .slice none 0 0] 209, .blk g1 [.int .i64 ((n : Int)), mv] 24] := hN
 have hkl := keysOf_len ar (·.2.1) os7
 have hknn : ∀ x ∈ (keysOf ar (·.2.1) os7), 0 ≤ x := keysOf_nn hvs7 (fun a ha => by obtain ⟨h0, _, h2, _⟩ := hok a ha; first | exact h0 | exact h2)
 refine RQ.done (by kernel_rfl) (thenN (RW.block ?_))
 refine RW.loop (fun k R0 w0' => ∃ cs : List Int, ∃ ve : Value, ∃ es : List I3, ∃ i : Nat, R0 2 = .func (.func 146) #[] #[.pointer (some ⟨gm, 0, none⟩)] ∧ R0 3 = .func (.func 145) #[] #[.pointer (some ⟨gm, 0, none⟩)] ∧ R0 4 = .pointer (some ⟨g1, 0, none⟩) ∧ R0 8 = .pointer (some ⟨g2, 0, none⟩) ∧ R0 9 = .pointer (some ⟨g4, 0, none⟩) ∧ R0 26 = v7 ∧ R0 27 = .int .i64 ((os7.length : Int)) ∧ R0 28 = .int .i64 ((i : Int)) ∧ Now w none_ w0' [.ownm i3cells 3 246 (ve) (es), .own vI 3 (v7) (os7), .own vI 3 (v6) (os6), .blk g4 [v3, ve] 209, .own vI 3 (v3) (cs), .blk g2 [.slice none 0 0, .slice none 0 0] 209, .blk g1 [.int .i64 ((n : Int)), mv] 24] ∧ (i + k = os7.length) ∧ (Cs n cs (f0 (keysOf ar (·.2.1) os7) i)) ∧ (es = (os7.take i).map (edgeOf ar (·.1))) ∧ (es.length = i)) (os7.length) ?_ ?_
 exact ⟨List.replicate (n + 1) 0, .slice none 0 0, [], 0, rfl, rfl, rfl, rfl, rfl, rfl, rfl, rfl, hN, by omega, f0_start, rfl, rfl⟩
 clear hN
 rintro k R0 w0' ⟨cs, ve, es, i, hr2_, hr3_, hr4_, hr8_, hr9_, hr26_, hr27_, hr28_, hN, hik, hcs, hes, hel⟩
 have hR_ : ∃ R0_, R0 = (upd (upd (upd (upd (upd (upd (upd (upd R0_ 2 _) 3 _) 4 _) 8 _) 9 _) 26 _) 27 _) 28 _) := ⟨R0, by rw [upd_self hr2_, upd_self hr3_, upd_self hr4_, upd_self hr8_, upd_self hr9_, upd_self hr26_, upd_self hr27_, upd_self hr28_]⟩
 obtain ⟨R0_, rfl⟩ := hR_
 clear hr2_ hr3_ hr4_ hr8_ hr9_ hr26_ hr27_ hr28_
 refine RW.seq (RW.region (RL.ev rfl rfl (ev_lss rfl rfl) (RL.nil (thenN (RW.seq ?_)))))
 refine RW.condP _ rfl (fun hlt => ?_) (fun hlt => ?_)
 refine RW.skip (thenN (RW.seq (RW.block (RW.seq (RW.region (RL.ev rfl rfl (ev_index Tryz.underlying25 sz3 (hN.sl 1 rfl) rfl rfl (by omega) (by omega)) ?_))))))
 have hOb_ : ∃ a_, (os7)[i]? = some a_ := ⟨_, List.getElem?_eq_getElem (by omega)⟩
 obtain ⟨ap, hap⟩ := hOb_
 refine RL.ev rfl rfl (ev_loadG (m := i) (a := ap) Tryz.underlying3 rfl (hN.sl 1 rfl) rfl hap) (RL.ev (v := .int .i64 (ap)) rfl rfl ev_assign ?_)
 have hOb_ := hvs7 ap (List.mem_of_getElem? hap)
 obtain ⟨hkp0, hkp1⟩ := hOb_
 have hOb_ : ∃ a_, ar[(ap).toNat]? = some a_ := ⟨_, List.getElem?_eq_getElem (by omega)⟩
 obtain ⟨br, hbr⟩ := hOb_
 refine RL.nil (thenN (RW.seq ?_))
 replace hN := hN.ext (Ext.drew w0')
 refine RW.drawR rfl (fun u => Now w none_ u [.own vI 3 (v7) (os7), .own vI 3 (v6) (os6), .blk g4 [v3, ve] 209, .own vI 3 (v3) (cs), .blk g2 [.slice none 0 0, .slice none 0 0] 209, .blk g1 [.int .i64 ((n : Int)), mv] 24]) 16 [(0,0), (1,0), (2,0), (3,0), (5,0), (6,0), (7,0), (8,0), (9,0), (10,0), (11,0), (4,1), (12,0), (13,1), (14,1), (15,0), (16,2)] (by intro _ _ _ h; exact h) (by kernel_rfl) (hN.sub [1, 2, 3, 4, 5, 6] (by decide) rfl) (RQ.ev rfl rfl (fun w hS => (ev_fieldAddr Tryz.underlying209 rfl sz207 (by decide) rfl)) (RQ.ev rfl rfl (fun w hS => (ev_loadB Tryz.underlying207 rfl rfl (hS.blk 2 rfl) rfl)) (RQ.ev (v := .func (.func 145) #[] #[.pointer (some ⟨gm, 0, none⟩)]) rfl rfl (fun w hS => ev_move) (RQ.ev (v := .int .i64 (ap)) rfl rfl (fun w hS => ev_move) (RQ.ev rfl rfl (fun w hS => (ev_fieldAddr Tryz.underlying24 rfl sz22 (by decide) rfl)) (RQ.ev rfl rfl (fun w hS => (ev_loadB Tryz.underlying22 rfl rfl (hS.blk 5 rfl) rfl)) (RQ.ev (v := .int .i64 (ap)) rfl rfl (fun w hS => ev_move) (RQ.ev rfl rfl (fun w hS => (ev_indexM Tryz.underlying22 sz100 i3cells_len (by decide) (hm.o.now hS) rfl rfl (by omega) (by omega))) (RQ.ev rfl rfl (fun w hS => (ev_fieldM (m := (ap).toNat) (b := 0) Tryz.underlying100 rfl sz3 (by decide) i3cells_len (hm.o.now hS) hbr rfl rfl)) ?_)))))))))
 refine RQ.ev rfl rfl (fun w hS => (ev_loadMF (m := (ap).toNat) (j := 2) (a := br) Tryz.underlying3 rfl i3cells_len (hm.o.now hS) rfl hbr rfl)) (RQ.ev (v := .int .i64 (ap)) rfl rfl (fun w hS => ev_move) ?_)
 have hkv10 : 0 ≤ ap ∧ ap < (ar.length : Int) := ⟨by omega, by omega⟩
 have hOb_ : ∃ a_, ar[(ap).toNat]? = some a_ := ⟨_, List.getElem?_eq_getElem (by omega)⟩
 obtain ⟨b10, hb10⟩ := hOb_
 have hOb_ := hok b10 (List.mem_of_getElem? hb10)
 obtain ⟨hq100, hq101, hq102, hq103, hq104, hq105⟩ := hOb_
 refine RQ.do rfl rfl (op_callw1 (first := #[]) (captured := #[.pointer (some ⟨gm, 0, none⟩)]) (v0 := .int .i64 (ap)) (args := #[.int .i64 (ap), .pointer (some ⟨gm, 0, none⟩)]) Tryz.func145 rfl rfl (by simp) rfl rfl ((from_calls (ap) gm ((n : Int)) _ ar b10 _ (hb.ext hN.ext0) (hm.o.now hN) hkv10.1 hb10).mono ?_))
 rintro _ w9 ⟨rfl, he_⟩
 replace hN := hN.ext he_
 clear he_
 refine ⟨(hN.sub [1, 2, 3, 4, 5, 6] (by decide) rfl), ?_⟩
 have hbe_ : br = b10 := Option.some.inj (hbr.symm.trans hb10)
 subst hbe_
 refine RQ.ev rfl rfl (fun w hS => (ev_buildL (cs := [.int .i64 (br.1), .int .i64 (br.2.2), .int .i64 (ap)]) Tryz.underlying246 zero246 (places := #[(0, 1), (1, 1), (2, 1)]) (by intro w; kernel_rfl) (pl := [(0, .tmp 36), (1, .tmp 42), (2, .tmp 43)]) rfl (ps := [(0, .int .i64 (br.1)), (1, .int .i64 (br.2.2)), (2, .int .i64 (ap))]) rfl (zc := [.int .i64 (0), .int .i64 (0), .int .i64 (0)]) rfl (fill_step (vs := [.int .i64 (br.1)]) rfl rfl (Nat.le_of_ble_eq_true rfl) (fill_step (vs := [.int .i64 (br.2.2)]) rfl rfl (Nat.le_of_ble_eq_true rfl) (fill_step (vs := [.int .i64 (ap)]) rfl rfl (Nat.le_of_ble_eq_true rfl) rfl))))) ?_
 refine RQ.do rfl rfl (opN_litM (cf := i3cells) (s := 3) (pl := [(0, .tmp 44)]) (ps := [(0, .agg #[.int .i64 (br.1), .int .i64 (br.2.2), .int .i64 (ap)])]) (zc := [.int .i64 (0), .int .i64 (0), .int .i64 (0)]) (l := [(br.1, br.2.2, ap)]) Tryz.underlying207 inf246 (by kernel_rfl) rfl rfl (fill_step (vs := [.int .i64 (br.1), .int .i64 (br.2.2), .int .i64 (ap)]) rfl rfl (Nat.le_of_ble_eq_true rfl) rfl) i3cells_len rfl (by decide) (by decide) (by decide) hN ?_)
 clear hN
 intro g11 w11 (hN : Now w none_ w11 [_, _, _, _, _, _, _, _])
 refine ⟨(hN.sub [2, 3, 4, 5, 6, 7] (by decide) rfl), ?_⟩
 refine RQ.do rfl rfl (opN_appendM Tryz.underlying207 inf246 rfl (by decide) i3cells_one i3cells_len hN 1 rfl rfl (hN.sm 0 rfl) rfl (by rw [hel]; simp only [List.length_singleton, List.length_cons, List.length_nil]; omega) (by decide) ?_)
 clear hN
 intro v12 w12 (hN : Now w none_ w12 [_, _, _, _, _, _, _, _])
 refine ⟨(hN.sub [2, 3, 4, 5, 6, 7] (by decide) rfl), ?_⟩
 refine RQ.ev rfl rfl (fun w hS => (ev_fieldAddr Tryz.underlying209 rfl sz207 (by decide) rfl)) ?_
 refine RQ.last rfl rfl (opN_store sz207 rfl rfl (hN.sm 1 rfl).cells1 (hN.sm 1 rfl).one1 hN 4 rfl (Nat.le_of_ble_eq_true rfl) ?_)
 clear hN
 intro w13 (hN : Now w none_ w13 [_, _, _, _, _, _, _, _])
 refine RZ.done (by kernel_rfl) (thenN ?_)
 have hcl := hcs.len
 replace hN := hN.ext (Ext.drew w13)
 refine RW.drawR rfl (fun u => Now w none_ u [.ownm i3cells 3 246 (.slice (some ⟨g11, 0, none⟩) 1 1) ([(br.1, br.2.2, ap)]), .ownm i3cells 3 246 (v12) (es ++ [(br.1, br.2.2, ap)]), .own vI 3 (v7) (os7), .own vI 3 (v6) (os6), .blk g4 [v3, v12] 209, .own vI 3 (v3) (cs), .blk g2 [.slice none 0 0, .slice none 0 0] 209, .blk g1 [.int .i64 ((n : Int)), mv] 24]) 10 [(0,0), (1,0), (2,0), (3,0), (4,1), (5,0), (6,0), (7,0), (8,0), (9,0), (10,2)] (by intro _ _ _ h; exact h) (by kernel_rfl) hN (RQ.ev rfl rfl (fun w hS => (ev_fieldAddr Tryz.underlying209 rfl sz25 (by decide) rfl)) (RQ.ev rfl rfl (fun w hS => (ev_loadB Tryz.underlying25 rfl rfl (hS.blk 4 rfl) rfl)) (RQ.ev (v := .func (.func 146) #[] #[.pointer (some ⟨gm, 0, none⟩)]) rfl rfl (fun w hS => ev_move) (RQ.ev (v := .int .i64 (ap)) rfl rfl (fun w hS => ev_move) ?_))))
 have hkv15 : 0 ≤ ap ∧ ap < (ar.length : Int) := ⟨by omega, by omega⟩
 have hOb_ : ∃ a_, ar[(ap).toNat]? = some a_ := ⟨_, List.getElem?_eq_getElem (by omega)⟩
 obtain ⟨b15, hb15⟩ := hOb_
 have hOb_ := hok b15 (List.mem_of_getElem? hb15)
 obtain ⟨hq150, hq151, hq152, hq153, hq154, hq155⟩ := hOb_
 refine RQ.do rfl rfl (op_callw1 (first := #[]) (captured := #[.pointer (some ⟨gm, 0, none⟩)]) (v0 := .int .i64 (ap)) (args := #[.int .i64 (ap), .pointer (some ⟨gm, 0, none⟩)]) Tryz.func146 rfl rfl (by simp) rfl rfl ((to_calls (ap) gm ((n : Int)) _ ar b15 _ (hb.ext hN.ext0) (hm.o.now hN) hkv15.1 hb15).mono ?_))
 rintro _ w14 ⟨rfl, he_⟩
 replace hN := hN.ext he_
 clear he_
 refine ⟨hN, ?_⟩
 have hbe_ : br = b15 := Option.some.inj (hbr.symm.trans hb15)
 subst hbe_
 refine RQ.ev rfl rfl (fun w hS => (ev_arith rfl rfl rfl (add64 (by omega) (by omega)))) (RQ.ev rfl rfl (fun w hS => (ev_index Tryz.underlying25 sz3 (hS.sl 5 rfl) rfl rfl (by omega) (by omega))) ?_)
 have hOb_ : ∃ a_, (cs)[(br.2.1 + 1).toNat]? = some a_ := ⟨_, List.getElem?_eq_getElem (by omega)⟩
 obtain ⟨ac, hac⟩ := hOb_
 refine RQ.ev rfl rfl (fun w hS => (ev_loadG (m := (br.2.1 + 1).toNat) (a := ac) Tryz.underlying3 rfl (hS.sl 5 rfl) rfl hac)) ?_
 have hst := f0_step hcs (keysOf_at hap hb15) (by omega) (by omega) hac
 obtain ⟨hx0, hx1, hst⟩ := hst
 refine RQ.ev rfl rfl (fun w hS => (ev_arith rfl rfl rfl (add64 (by omega) (by omega)))) (RQ.ev rfl rfl (fun w hS => (ev_index Tryz.underlying25 sz3 (hS.sl 5 rfl) rfl rfl (by omega) (by omega))) ?_)
 refine RQ.last rfl rfl (opN_storeOwn (m := (br.2.1 + 1).toNat) (a := (ac + 1)) sz3 hN 5 rfl rfl (by omega) rfl rfl rfl rfl ?_)
 clear hN
 intro w16 (hN : Now w none_ w16 [_, _, _, _, _, _, _, _])
 refine RZ.done (by kernel_rfl) (blockN (thenN (RW.region (RL.ev rfl rfl (ev_arith rfl rfl rfl (add64 (by omega) (by omega))) (RL.ev (v := .int .i64 ((i : Int) + 1)) rfl rfl ev_move (RL.nil (thenN ?_)))))))
 exact ⟨k - 1, by omega, (cs).set (br.2.1 + 1).toNat ((ac + 1)), v12, es ++ [(br.1, br.2.2, ap)], i + 1, rfl, rfl, rfl, rfl, rfl, rfl, rfl, rfl, (hN.sub [1, 2, 3, 4, 5, 6, 7] (by decide) rfl), by omega, hst, by rw [map_take_succ _ hap, hes, edgeOf_at hb15], by rw [List.length_append, hel]; rfl⟩
 refine RW.exit ?_
 iterate 2 refine thenX ?_
 refine blockHit (thenN ?_)
 iterate 2 refine RW.seq ?_
 refine RW.region (RL.ev rfl rfl (ev_fieldAddr Tryz.underlying24 rfl sz3 (by decide) rfl) (RL.ev rfl rfl (ev_loadB Tryz.underlying3 rfl rfl (hN.blk 6 rfl) rfl) (RL.ev (v := .int .i64 (0)) rfl rfl ev_move (RL.nil (thenN (RW.block ?_))))))
 refine RW.loop (fun k1 R1 w1' => ∃ cs1 : List Int, ∃ v : Nat, R1 8 = .pointer (some ⟨g2, 0, none⟩) ∧ R1 9 = .pointer (some ⟨g4, 0, none⟩) ∧ R1 60 = .int .i64 ((n : Int)) ∧ R1 61 = .int .i64 ((v : Int)) ∧ Now w none_ w1' [.ownm i3cells 3 246 (ve) (es), .own vI 3 (v7) (os7), .own vI 3 (v6) (os6), .blk g4 [v3, ve] 209, .own vI 3 (v3) (cs1), .blk g2 [.slice none 0 0, .slice none 0 0] 209, .blk g1 [.int .i64 ((n : Int)), mv] 24] ∧ (v + k1 = n) ∧ (Cs n cs1 (f1 (keysOf ar (·.2.1) os7) v))) (n) ?_ ?_
 have hcs_ : Cs n cs (f0 (keysOf ar (·.2.1) os7) (keysOf ar (·.2.1) os7).length) := by rw [hkl, ← (show i = os7.length by omega)]; exact hcs
 exact ⟨cs, 0, rfl, rfl, rfl, rfl, hN, by omega, f1_start hcs_ hknn⟩
 clear hN
 rintro k1 R1 w1' ⟨cs1, v, hr8_, hr9_, hr60_, hr61_, hN, hvk, hcs1⟩
 have hR_ : ∃ R1_, R1 = (upd (upd (upd (upd R1_ 8 _) 9 _) 60 _) 61 _) := ⟨R1, by rw [upd_self hr8_, upd_self hr9_, upd_self hr60_, upd_self hr61_]⟩
 obtain ⟨R1_, rfl⟩ := hR_
 clear hr8_ hr9_ hr60_ hr61_
 refine RW.seq (RW.region (RL.ev rfl rfl (ev_lss rfl rfl) (RL.nil (thenN (RW.seq ?_)))))
 refine RW.condP _ rfl (fun hlt1 => ?_) (fun hlt1 => ?_)
 refine RW.skip (thenN (RW.seq (RW.block (RW.seq (RW.region (RL.ev (v := .int .i64 ((v : Int))) rfl rfl ev_move (RL.ev (v := .int .i64 ((v : Int))) rfl rfl ev_assign (RL.nil (thenN ?_)))))))))
 have hcl := hcs1.len
 have hOb_ : ∃ a_, cs1[v + 1]? = some a_ := ⟨_, List.getElem?_eq_getElem (by omega)⟩
 obtain ⟨ax, hax⟩ := hOb_
 have hOb_ : ∃ a_, cs1[v]? = some a_ := ⟨_, List.getElem?_eq_getElem (by omega)⟩
 obtain ⟨ay, hay⟩ := hOb_
 have hst := f1_step hcs1 (by omega) hax hay
 obtain ⟨hx0, hx1, hy0, hy1, hst⟩ := hst
 replace hN := hN.ext (Ext.drew w1')
 refine RW.drawR rfl (fun u => Now w none_ u [.ownm i3cells 3 246 (ve) (es), .own vI 3 (v7) (os7), .own vI 3 (v6) (os6), .blk g4 [v3, ve] 209, .own vI 3 (v3) (cs1), .blk g2 [.slice none 0 0, .slice none 0 0] 209, .blk g1 [.int .i64 ((n : Int)), mv] 24]) 13 [(0,0), (1,0), (2,0), (3,0), (4,0), (5,0), (6,0), (7,0), (8,0), (9,0), (10,0), (11,0), (12,0), (13,2)] (by intro _ _ _ h; exact h) (by kernel_rfl) hN (RQ.ev rfl rfl (fun w hS => (ev_fieldAddr Tryz.underlying209 rfl sz25 (by decide) rfl)) (RQ.ev rfl rfl (fun w hS => (ev_loadB Tryz.underlying25 rfl rfl (hS.blk 3 rfl) rfl)) (RQ.ev (v := .int .i64 ((v : Int))) rfl rfl (fun w hS => ev_move) (RQ.ev rfl rfl (fun w hS => (ev_arith rfl rfl rfl ((add64 (by omega) (by omega)).trans (by omega : (v : Int) + 1 = ((v + 1 : Nat) : Int))))) (RQ.ev rfl rfl (fun w hS => (ev_index Tryz.underlying25 sz3 (hS.sl 4 rfl) rfl rfl (by omega) (by omega))) (RQ.ev rfl rfl (fun w hS => (ev_loadG (m := (v + 1)) (a := ax) Tryz.underlying3 rfl (hS.sl 4 rfl) rfl hax)) (RQ.ev rfl rfl (fun w hS => (ev_fieldAddr Tryz.underlying209 rfl sz25 (by decide) rfl)) (RQ.ev rfl rfl (fun w hS => (ev_loadB Tryz.underlying25 rfl rfl (hS.blk 3 rfl) rfl)) (RQ.ev (v := .int .i64 ((v : Int))) rfl rfl (fun w hS => ev_move) ?_)))))))))
 refine RQ.ev rfl rfl (fun w hS => (ev_index Tryz.underlying25 sz3 (hS.sl 4 rfl) rfl rfl (by omega) (by omega))) (RQ.ev rfl rfl (fun w hS => (ev_loadG (m := v) (a := ay) Tryz.underlying3 rfl (hS.sl 4 rfl) rfl hay)) (RQ.ev rfl rfl (fun w hS => (ev_arith rfl rfl rfl (add64 (by omega) (by omega)))) (RQ.ev rfl rfl (fun w hS => (ev_index Tryz.underlying25 sz3 (hS.sl 4 rfl) rfl rfl (by omega) (by omega))) ?_)))
 refine RQ.last rfl rfl (opN_storeOwn (m := (v + 1)) (a := (ax + ay)) sz3 hN 4 rfl rfl (by omega) rfl rfl rfl rfl ?_)
 clear hN
 intro w19 (hN : Now w none_ w19 [_, _, _, _, _, _, _])
 refine RZ.done (by kernel_rfl) (blockN (thenN (RW.region (RL.ev rfl rfl (ev_arith rfl rfl rfl (add64 (by omega) (by omega))) (RL.ev (v := .int .i64 ((v : Int) + 1)) rfl rfl ev_move (RL.nil (thenN ?_)))))))
 exact ⟨k1 - 1, by omega, (cs1).set (v + 1) ((ax + ay)), v + 1, rfl, rfl, rfl, rfl, hN, by omega, hst⟩
 refine RW.exit ?_
 iterate 2 refine thenX ?_
 refine blockHit (thenN (RW.seq (RW.region (RL.ev rfl rfl (ev_loadAll (cs := [v3, ve]) Tryz.underlying209 rfl sz209 rfl (hN.blk 3 rfl)) ?_))))
 refine RL.op rfl rfl (opN_storeAll (vs := [v3, ve]) sz209 rfl rfl rfl (by intro u hu; simp only [List.mem_cons, List.not_mem_nil, or_false] at hu; rcases hu with rfl | rfl <;> first | rfl | exact (hN.sl 4 rfl).one1 | exact (hN.sm 0 rfl).one1) hN 5 rfl rfl ?_)
 clear hN
 intro w20 (hN : Now w none_ w20 [_, _, _, _, _, _, _])
 refine RL.nil (thenN (RW.ret (retI (RV.cell rfl rfl (hN.blk 5 rfl) Tryz.underlying209 rfl sz209) ?_)))
 have hv_ : v = n := by omega
 subst hv_
 have hi_ : i = os7.length := by omega
 rw [hi_, List.take_length] at hes
 exact ⟨_, _, cs1, es, _, _, rfl, hN.sub [4, 0] (by decide) rfl, hcs1, hes, hla7, hla6⟩
end Go.Proofs.YtngkdkbpgoddlaaGreat
set_option linter.unusedVariables false
set_option linter.unusedSimpArgs false
namespace Go.Proofs.YtngkdkbpgoddlaaGreat
open Go.RowKit Go.Rl
open Go.Gr
set_option maxHeartbeats 4000000 in
set_option maxRecDepth 100000 in
theorem gcheck_calls (n : Int) (v : Value) (l : List I3) (w : World) (hv : Sm i3cells w v l) : Gives Tryz.prog 105 #[.agg #[.int .i64 n, v]] w fun r w' => r = .int .i64 (mchk n l) ∧ Ext w w' := by
 refine Gives.start Tryz.func105 rfl (Nat.le_of_ble_eq_true rfl) ?_
 rw [args1]
 have hN := Now.nil w none_
 refine RW.seq (RW.region ?_)
 refine RL.op rfl rfl (opN_box (cs := [.int .i64 (n), v]) rfl rfl hN ?_)
 clear hN
 intro g1 w1 (hN : Now w none_ w1 [_])
 refine RL.ev (v := .int .i64 (0)) rfl rfl ev_assign (RL.nil (thenN ?_))
 iterate 2 refine RW.seq ?_
 refine RW.region (RL.ev rfl rfl (ev_fieldAddr Tryz.underlying24 rfl sz3 (by decide) rfl) (RL.ev rfl rfl (ev_loadB Tryz.underlying3 rfl rfl (hN.blk 0 rfl) rfl) (RL.ev rfl rfl (ev_gtr rfl rfl) (RL.ev (v := .bool (decide (16777216 < n))) rfl rfl ev_move ?_))))
 by_cases hg1_3 : 16777216 < n
 rw [decide_eq_true hg1_3]
 iterate 4 refine RL.off rfl rfl (by decide) rfl rfl ?_
 refine RL.ev (v := .bool true) rfl rfl (ev_pickT rfl) (RL.nil (thenN (RW.condT rfl (RW.seq (RW.region (RL.ev (v := .int .i64 (3)) rfl rfl ev_assign (RL.nil (thenN (RW.ret ?_)))))))))
 refine thenR (retI (RV.tmp rfl) ?_)
 exact ⟨congrArg (Value.int .i64) (if_pos (by omega)).symm, hN.ext0⟩
 rw [decide_eq_false hg1_3]
 refine RL.onEv rfl rfl (by decide) rfl rfl (ev_fieldAddr Tryz.underlying24 rfl sz22 (by decide) rfl) (RL.onEv rfl rfl (by decide) rfl rfl (ev_loadB Tryz.underlying22 rfl rfl (hN.blk 0 rfl) rfl) ?_)
 have hL_2 := (hv.o.now hN).len_le
 refine RL.onEv rfl rfl (by decide) rfl rfl (ev_lenM Tryz.underlying22 (hv.o.now hN) rfl) (RL.onEv rfl rfl (by decide) rfl rfl (ev_gtr rfl rfl) (RL.ev (v := .bool (decide (67108864 < (l.length : Int)))) rfl rfl (ev_pickF rfl) (RL.nil (thenN ?_))))
 refine RW.condP _ rfl (fun hc13 => ?_) (fun hc13 => ?_)
 refine RW.seq (RW.region (RL.ev (v := .int .i64 (3)) rfl rfl ev_assign (RL.nil (thenN (RW.ret (thenR (retI (RV.tmp rfl) ?_)))))))
 exact ⟨congrArg (Value.int .i64) (if_pos (by omega)).symm, hN.ext0⟩
 refine RW.skip (thenN ?_)
 iterate 2 refine RW.seq ?_
 refine RW.region (RL.ev rfl rfl (ev_fieldAddr Tryz.underlying24 rfl sz3 (by decide) rfl) (RL.ev rfl rfl (ev_loadB Tryz.underlying3 rfl rfl (hN.blk 0 rfl) rfl) (RL.ev rfl rfl (ev_lss rfl rfl) (RL.nil (thenN ?_)))))
 refine RW.condP _ rfl (fun hc16 => ?_) (fun hc16 => ?_)
 refine RW.seq (RW.region (RL.ev (v := .int .i64 (2)) rfl rfl ev_assign (RL.nil (thenN (RW.ret (thenR (retI (RV.tmp rfl) ?_)))))))
 refine ⟨congrArg (Value.int .i64) ?_, hN.ext0⟩
 unfold mchk
 rw [if_neg (by omega), if_pos (by omega)]
 refine RW.skip (thenN ?_)
 iterate 2 refine RW.seq ?_
 refine RW.region (RL.ev rfl rfl (ev_fieldAddr Tryz.underlying24 rfl sz22 (by decide) rfl) (RL.ev rfl rfl (ev_loadB Tryz.underlying22 rfl rfl (hN.blk 0 rfl) rfl) (RL.ev rfl rfl (ev_lenM Tryz.underlying22 (hv.o.now hN) rfl) (RL.ev (v := .int .i64 (0)) rfl rfl ev_move (RL.nil (thenN (RW.block ?_)))))))
 refine RW.loop (fun k R0 w0' => ∃ i : Nat, R0 1 = .pointer (some ⟨g1, 0, none⟩) ∧ R0 18 = v ∧ R0 19 = .int .i64 ((l.length : Int)) ∧ R0 20 = .int .i64 ((i : Int)) ∧ Now w none_ w0' [.blk g1 [.int .i64 (n), v] 24] ∧ (i + k = l.length) ∧ (∀ a ∈ l.take i, okA n a)) (l.length) ?_ ?_
 exact ⟨0, rfl, rfl, rfl, rfl, hN, by omega, fun a ha => by cases ha⟩
 clear hN
 rintro k R0 w0' ⟨i, hr1_, hr18_, hr19_, hr20_, hN, hik, hok⟩
 have hR_ : ∃ R0_, R0 = (upd (upd (upd (upd R0_ 1 _) 18 _) 19 _) 20 _) := ⟨R0, by rw [upd_self hr1_, upd_self hr18_, upd_self hr19_, upd_self hr20_]⟩
 obtain ⟨R0_, rfl⟩ := hR_
 clear hr1_ hr18_ hr19_ hr20_
 refine RW.seq (RW.region (RL.ev rfl rfl (ev_lss rfl rfl) (RL.nil (thenN (RW.seq ?_)))))
 refine RW.condP _ rfl (fun hlt => ?_) (fun hlt => ?_)
 refine RW.skip (thenN (RW.seq (RW.block (RW.seq (RW.region (RL.ev rfl rfl (ev_indexM Tryz.underlying22 sz100 i3cells_len (by decide) (hv.o.now hN) rfl rfl (by omega) (by omega)) ?_))))))
 have hOb_ : ∃ a_, (l)[i]? = some a_ := ⟨_, List.getElem?_eq_getElem (by omega)⟩
 obtain ⟨ap, hap⟩ := hOb_
 refine RL.ev rfl rfl (ev_loadM (m := i) (a := ap) Tryz.underlying100 rfl sz100 i3cells_len (by decide) (hv.o.now hN) rfl hap (cs := [.int .i64 (ap.1), .int .i64 (ap.2.1), .int .i64 (ap.2.2)]) rfl) ?_
 refine RL.op rfl rfl (opN_alloc (cs := [.int .i64 (0), .int .i64 (0), .int .i64 (0)]) zero100 rfl hN ?_)
 clear hN
 intro g3 w3 (hN : Now w none_ w3 [_, _])
 refine RL.op rfl rfl (opN_storeAll (vs := [.int .i64 (ap.1), .int .i64 (ap.2.1), .int .i64 (ap.2.2)]) sz100 rfl rfl rfl (by intro u hu; simp only [List.mem_cons, List.not_mem_nil, or_false] at hu; rcases hu with rfl | rfl | rfl <;> first | rfl) hN 0 rfl rfl ?_)
 clear hN
 intro w4 (hN : Now w none_ w4 [_, _])
 refine RL.nil (thenN (RW.seq (RW.region (RL.ev rfl rfl (ev_fieldAddr Tryz.underlying100 rfl sz3 (by decide) rfl) (RL.ev rfl rfl (ev_loadB Tryz.underlying3 rfl rfl (hN.blk 0 rfl) rfl) (RL.ev rfl rfl (ev_fieldAddr Tryz.underlying100 rfl sz3 (by decide) rfl) (RL.ev rfl rfl (ev_loadB Tryz.underlying3 rfl rfl (hN.blk 0 rfl) rfl) (RL.ev rfl rfl (ev_fieldAddr Tryz.underlying100 rfl sz3 (by decide) rfl) (RL.ev rfl rfl (ev_loadB Tryz.underlying3 rfl rfl (hN.blk 0 rfl) rfl) ?_)))))))))
 refine RL.ev rfl rfl (ev_min3 rfl rfl rfl) (RL.ev rfl rfl (ev_lss rfl rfl) (RL.ev (v := .bool (decide ((min (min (ap.1) (ap.2.1)) (ap.2.2)) < 0))) rfl rfl ev_move ?_))
 by_cases hg8_8 : (min (min (ap.1) (ap.2.1)) (ap.2.2)) < 0
 rw [decide_eq_true hg8_8]
 iterate 8 refine RL.off rfl rfl (by decide) rfl rfl ?_
 refine RL.ev (v := .bool true) rfl rfl (ev_pickT rfl) (RL.ev (v := .bool true) rfl rfl ev_move ?_)
 iterate 3 refine RL.off rfl rfl (by decide) rfl rfl ?_
 refine RL.ev (v := .bool true) rfl rfl (ev_pickT rfl) (RL.nil (thenN (RW.condT rfl (RW.seq (RW.region (RL.ev (v := .int .i64 (2)) rfl rfl ev_assign (RL.nil (thenN (RW.ret ?_)))))))))
 refine blockR ?_
 iterate 2 refine thenR ?_
 refine blockR (thenR (retI (RV.tmp rfl) ?_))
 refine ⟨congrArg (Value.int .i64) ?_, hN.ext0⟩
 unfold mchk
 rw [if_neg (by omega), if_neg (by omega), if_neg]
 intro hall
 have hOb_ := hall ap (List.mem_of_getElem? hap)
 obtain ⟨h1, h2, h3, h4, h5, h6⟩ := hOb_
 omega
 rw [decide_eq_false hg8_8]
 refine RL.onEv rfl rfl (by decide) rfl rfl (ev_fieldAddr Tryz.underlying100 rfl sz3 (by decide) rfl) (RL.onEv rfl rfl (by decide) rfl rfl (ev_loadB Tryz.underlying3 rfl rfl (hN.blk 0 rfl) rfl) (RL.onEv rfl rfl (by decide) rfl rfl (ev_fieldAddr Tryz.underlying100 rfl sz3 (by decide) rfl) (RL.onEv rfl rfl (by decide) rfl rfl (ev_loadB Tryz.underlying3 rfl rfl (hN.blk 0 rfl) rfl) (RL.onEv rfl rfl (by decide) rfl rfl (ev_max rfl rfl) (RL.onEv rfl rfl (by decide) rfl rfl (ev_fieldAddr Tryz.underlying24 rfl sz3 (by decide) rfl) (RL.onEv rfl rfl (by decide) rfl rfl (ev_loadB Tryz.underlying3 rfl rfl (hN.blk 1 rfl) rfl) (RL.onEv rfl rfl (by decide) rfl rfl (ev_geq rfl rfl) (RL.ev (v := .bool (decide (n ≤ (max (ap.1) (ap.2.1))))) rfl rfl (ev_pickF rfl) (RL.ev (v := .bool (decide (n ≤ (max (ap.1) (ap.2.1))))) rfl rfl ev_move ?_)))))))))
 by_cases hg8_18 : n ≤ (max (ap.1) (ap.2.1))
 rw [decide_eq_true hg8_18]
 iterate 3 refine RL.off rfl rfl (by decide) rfl rfl ?_
 refine RL.ev (v := .bool true) rfl rfl (ev_pickT rfl) (RL.nil (thenN (RW.condT rfl (RW.seq (RW.region (RL.ev (v := .int .i64 (2)) rfl rfl ev_assign (RL.nil (thenN (RW.ret ?_)))))))))
 refine blockR ?_
 iterate 2 refine thenR ?_
 refine blockR (thenR (retI (RV.tmp rfl) ?_))
 refine ⟨congrArg (Value.int .i64) ?_, hN.ext0⟩
 unfold mchk
 rw [if_neg (by omega), if_neg (by omega), if_neg]
 intro hall
 have hOb_ := hall ap (List.mem_of_getElem? hap)
 obtain ⟨h1, h2, h3, h4, h5, h6⟩ := hOb_
 omega
 rw [decide_eq_false hg8_18]
 refine RL.onEv rfl rfl (by decide) rfl rfl (ev_fieldAddr Tryz.underlying100 rfl sz3 (by decide) rfl) (RL.onEv rfl rfl (by decide) rfl rfl (ev_loadB Tryz.underlying3 rfl rfl (hN.blk 0 rfl) rfl) (RL.onEv rfl rfl (by decide) rfl rfl (ev_gtr rfl rfl) (RL.ev (v := .bool (decide (2147483648 < ap.2.2))) rfl rfl (ev_pickF rfl) (RL.nil (thenN ?_)))))
 refine RW.condP _ rfl (fun hc46 => ?_) (fun hc46 => ?_)
 refine RW.seq (RW.region (RL.ev (v := .int .i64 (2)) rfl rfl ev_assign (RL.nil (thenN (RW.ret (blockR ?_))))))
 iterate 2 refine thenR ?_
 refine blockR (thenR (retI (RV.tmp rfl) ?_))
 refine ⟨congrArg (Value.int .i64) ?_, hN.ext0⟩
 unfold mchk
 rw [if_neg (by omega), if_neg (by omega), if_neg]
 intro hall
 have hOb_ := hall ap (List.mem_of_getElem? hap)
 obtain ⟨h1, h2, h3, h4, h5, h6⟩ := hOb_
 omega
 refine RW.skip (blockN (thenN (RW.region (RL.ev rfl rfl (ev_arith rfl rfl rfl (add64 (by omega) (by omega))) (RL.ev (v := .int .i64 ((i : Int) + 1)) rfl rfl ev_move (RL.nil (thenN ?_)))))))
 exact ⟨k - 1, by omega, i + 1, rfl, rfl, rfl, rfl, (hN.sub [1] (by decide) rfl), by omega, fun a ha => (mem_take_succ hap ha).elim (hok a) (fun e => e ▸ ⟨by omega, by omega, by omega, by omega, by omega, by omega⟩)⟩
 refine RW.exit ?_
 iterate 2 refine thenX ?_
 refine blockHit (thenN (RW.seq (RW.region (RL.ev (v := .int .i64 (0)) rfl rfl ev_assign (RL.nil (thenN (RW.ret (retI (RV.tmp rfl) ?_))))))))
 refine ⟨congrArg (Value.int .i64) ?_, hN.ext0⟩
 unfold mchk
 rw [if_neg (by omega), if_neg (by omega), if_pos]
 rw [List.take_of_length_le (by omega)] at hok
 exact hok
end Go.Proofs.YtngkdkbpgoddlaaGreat
set_option linter.unusedVariables false
set_option linter.unusedSimpArgs false
namespace Go.Proofs.YtngkdkbpgoddlaaGreat
open Go.RowKit Go.Rl
open Go.Gr
theorem gcheck_zero (n : Int) (v : Value) (l : List I3) (w : World) (hv : Sm i3cells w v l) (h : mchk n l = 0) : Gives Tryz.prog 105 #[.agg #[.int .i64 n, v]] w fun r w' => r = .int .i64 0 ∧ Ext w w' := (gcheck_calls n v l w hv).mono fun r w' hr => by rw [h] at hr; exact hr
set_option maxHeartbeats 4000000 in
set_option maxRecDepth 100000 in
theorem graphNew_calls (n : Nat) (v : Value) (ar : List I3) (w : World) (hv : Sm i3cells w v ar) (hok0 : mchk (n : Int) ar = 0) : Gives Tryz.prog 67 #[.agg #[.int .i64 (n : Int), v]] w fun r w' => ∃ g mv c0 c1 c2 c3 c4, r = .pointer (some ⟨g, 0, none⟩) ∧ Blk w' g [.int .i64 (n : Int), mv, c0, c1, c2, c3, c4] 211 ∧ Sm i3cells w' mv ar ∧ Ext w w' := by
 refine Gives.startX Tryz.func67 rfl (Nat.le_of_ble_eq_true rfl) ?_
 rw [args1]
 have hN := Now.nil w none_
 have hOb_ := mchk_ok hok0
 obtain ⟨hn0, hn1, hal, hok⟩ := hOb_
 refine XW.seq (XW.region rfl ?_)
 refine RL.op rfl rfl (opN_box (cs := [.int .i64 ((n : Int)), v]) rfl rfl hN ?_)
 clear hN
 intro g1 w1 (hN : Now w none_ w1 [_])
 refine RL.ev (v := .pointer none) rfl rfl ev_assign (RL.nil (onlyNi (xthenN (XW.scope ?_))))
 iterate 2 refine XW.seq ?_
 refine XW.region rfl (RL.ev rfl rfl (ev_loadAll (cs := [.int .i64 ((n : Int)), v]) Tryz.underlying24 rfl sz24 rfl (hN.blk 0 rfl)) ?_)
 refine RL.op rfl rfl (op_call1 Tryz.func105 rfl rfl rfl ((gcheck_zero ((n : Int)) _ ar _ (hv.o.now hN) hok0).mono ?_))
 rintro _ w2 ⟨rfl, he_⟩
 replace hN := hN.ext he_
 clear he_
 refine RL.ev rfl rfl (ev_false (ev_neq rfl rfl) (fun h => h rfl)) (RL.nil (onlyNi (xthenN (XW.condF rfl (XW.skip (xthenN (XW.seq (XW.region rfl (RL.ev rfl rfl (ev_fieldAddr Tryz.underlying24 rfl sz22 (by decide) rfl) ?_)))))))))
 refine RL.ev rfl rfl (ev_loadB Tryz.underlying22 rfl rfl (hN.blk 0 rfl) rfl) ?_
 replace hN := hN.addNilM i3cells 3 100
 refine RL.op rfl rfl (opN_appendM Tryz.underlying22 inf100 rfl (by decide) i3cells_one i3cells_len hN 0 rfl rfl (hv.o.now hN) rfl (by simp only [List.length_nil]; omega) (by decide) ?_)
 clear hN
 intro v3 w3 (hN : Now w none_ w3 [_, _])
 replace hN := hN.relistM 0 rfl (show _ = ar from List.nil_append _)
 replace hN : Now w none_ w3 [_, _] := hN
 refine RL.ev rfl rfl (ev_fieldAddr Tryz.underlying24 rfl sz22 (by decide) rfl) ?_
 refine RL.op rfl rfl (opN_store sz22 rfl rfl (hN.sm 0 rfl).cells1 (hN.sm 0 rfl).one1 hN 1 rfl (Nat.le_of_ble_eq_true rfl) ?_)
 clear hN
 intro w4 (hN : Now w none_ w4 [_, _])
 refine RL.nil (onlyNi (xthenN (XW.seq ?_)))
 replace hN := hN.ext (Ext.drew w4)
 refine XW.drawR rfl (by kernel_rfl) (fun u => Now w none_ u [.ownm i3cells 3 100 (v3) (ar), .blk g1 [.int .i64 ((n : Int)), v3] 24]) 8 [(0,0), (1,0), (2,0), (3,0), (4,1), (5,1), (6,1), (7,0)] (by kernel_rfl) hN (RQ.ev rfl rfl (fun w hS => (ev_loadAll (cs := [.int .i64 ((n : Int)), v3]) Tryz.underlying24 rfl sz24 rfl (hS.blk 1 rfl))) (RQ.ev rfl rfl (fun w hS => (ev_fieldAddr Tryz.underlying24 rfl sz22 (by decide) rfl)) (RQ.ev rfl rfl (fun w hS => (ev_loadB Tryz.underlying22 rfl rfl (hS.blk 1 rfl) rfl)) ?_)))
 have hL_5 := (hN.sm 0 rfl).len_le
 refine RQ.ev rfl rfl (fun w hS => (ev_lenM Tryz.underlying22 (hS.sm 0 rfl) rfl)) ?_
 refine RQ.do rfl rfl (opN_make (enc := vB) (z := false) Tryz.underlying206 inf4 rfl hN rfl (by omega) (by omega) (by omega) ?_)
 clear hN
 intro v6 w6 (hN : Now w none_ w6 [_, _, _])
 refine ⟨(hN.sub [1, 2] (by decide) rfl), ?_⟩
 refine RQ.do rfl rfl (OpR.ev (ev_buildL (cs := [.int .i64 ((n : Int)), v3, .slice none 0 0, .slice none 0 0, .slice none 0 0, .slice none 0 0, v6]) Tryz.underlying211 zero211 (places := #[(0, 2), (2, 2), (4, 2), (6, 1)]) (by intro w; kernel_rfl) (pl := [(0, .tmp 19), (3, .tmp 23)]) rfl (ps := [(0, .agg #[.int .i64 ((n : Int)), v3]), (3, v6)]) rfl (zc := [.int .i64 (0), .slice none 0 0, .slice none 0 0, .slice none 0 0, .slice none 0 0, .slice none 0 0, .slice none 0 0]) rfl (fill_step (vs := [.int .i64 ((n : Int)), v3]) rfl rfl (Nat.le_of_ble_eq_true rfl) (fill_step (vs := [v6]) (hN.sl 0 rfl).cells1 rfl (Nat.le_of_ble_eq_true rfl) rfl))) ⟨(hN.sub [1, 2] (by decide) rfl), ?_⟩)
 refine RQ.do rfl rfl (opN_box (cs := [.int .i64 ((n : Int)), v3, .slice none 0 0, .slice none 0 0, .slice none 0 0, .slice none 0 0, v6]) rfl rfl hN ?_)
 clear hN
 intro g7 w7 (hN : Now w none_ w7 [_, _, _, _])
 refine ⟨(hN.sub [2, 3] (by decide) rfl), ?_⟩
 refine RQ.ev (v := .pointer (some ⟨g7, 0, none⟩)) rfl rfl (fun w hS => ev_assign) (RQ.done (by kernel_rfl) (onlyNi (xthenN (XW.seq (XW.region rfl (RL.ev rfl rfl (ev_makeFuncL (vs := [.pointer (some ⟨g1, 0, none⟩)]) (xs := [.tmp 1]) rfl rfl) (RL.ev (v := .func (.func 145) #[] #[.pointer (some ⟨g1, 0, none⟩)]) rfl rfl ev_assign (RL.nil (onlyNi ?_)))))))))
 refine xthenN (XW.seq (XW.region rfl (RL.ev rfl rfl (ev_makeFuncL (vs := [.pointer (some ⟨g1, 0, none⟩)]) (xs := [.tmp 1]) rfl rfl) (RL.ev (v := .func (.func 146) #[] #[.pointer (some ⟨g1, 0, none⟩)]) rfl rfl ev_assign (RL.nil (onlyNi (xthenN (XW.seq (XW.region rfl ?_)))))))))
 refine RL.op rfl rfl (opN_alloc (cs := [.slice none 0 0]) zero25 rfl hN ?_)
 clear hN
 intro g8 w8 (hN : Now w none_ w8 [_, _, _, _, _])
 refine RL.nil (onlyNi (xthenN ?_))
 iterate 2 refine XW.seq ?_
 have hA9 := hN.smoOut (M := [.blk g8 [.slice none 0 0] 25, .blk g7 [.int .i64 ((n : Int)), v3, .slice none 0 0, .slice none 0 0, .slice none 0 0, .slice none 0 0, v6] 211, .own vB 4 (v6) (List.replicate (((ar).length : Int)).toNat false)]) 3 rfl [0, 1, 2] rfl rfl
 have hA10 := hN.blkOut (M := [.blk g8 [.slice none 0 0] 25, .blk g7 [.int .i64 ((n : Int)), v3, .slice none 0 0, .slice none 0 0, .slice none 0 0, .slice none 0 0, v6] 211, .own vB 4 (v6) (List.replicate (((ar).length : Int)).toNat false)]) 4 rfl [0, 1, 2] rfl rfl
 have hF11 : Now w none_ w8 [.blk g8 [.slice none 0 0] 25, .blk g7 [.int .i64 ((n : Int)), v3, .slice none 0 0, .slice none 0 0, .slice none 0 0, .slice none 0 0, v6] 211, .own vB 4 (v6) (List.replicate (((ar).length : Int)).toNat false)] := hN.sub [0, 1, 2] (by decide) rfl
 clear hN
 have hN := hF11.here
 replace hN : Now w8 (foots [.blk g8 [.slice none 0 0] 25, .blk g7 [.int .i64 ((n : Int)), v3, .slice none 0 0, .slice none 0 0, .slice none 0 0, .slice none 0 0, v6] 211, .own vB 4 (v6) (List.replicate (((ar).length : Int)).toNat false)]) w8 [.blk g8 [.slice none 0 0] 25, .blk g7 [.int .i64 ((n : Int)), v3, .slice none 0 0, .slice none 0 0, .slice none 0 0, .slice none 0 0, v6] 211, .own vB 4 (v6) (List.replicate (((ar).length : Int)).toNat false)] := hN
 replace hN := hN.addNil vI 3
 replace hN : Now w8 (foots [.blk g8 [.slice none 0 0] 25, .blk g7 [.int .i64 ((n : Int)), v3, .slice none 0 0, .slice none 0 0, .slice none 0 0, .slice none 0 0, v6] 211, .own vB 4 (v6) (List.replicate (((ar).length : Int)).toNat false)]) w8 [.own vI 3 (.slice none 0 0) ([]), .blk g8 [.slice none 0 0] 25, .blk g7 [.int .i64 ((n : Int)), v3, .slice none 0 0, .slice none 0 0, .slice none 0 0, .slice none 0 0, v6] 211, .own vB 4 (v6) (List.replicate (((ar).length : Int)).toNat false)] := hN
 refine XW.region rfl (RL.ev rfl rfl (ev_fieldAddr Tryz.underlying24 rfl sz22 (by decide) rfl) (RL.ev rfl rfl (ev_loadB Tryz.underlying22 rfl rfl (hA10.now hN) rfl) ?_))
 refine RL.op rfl rfl (op_call2 Tryz.func147 rfl rfl rfl rfl ((numArc_calls _ (ar) _ (hA9.now hN)).mono ?_))
 rintro _ w12 ⟨gp12, gq12, rfl, hC_⟩
 replace hN : Now w8 (foots [.blk g8 [.slice none 0 0] 25, .blk g7 [.int .i64 ((n : Int)), v3, .slice none 0 0, .slice none 0 0, .slice none 0 0, .slice none 0 0, v6] 211, .own vB 4 (v6) (List.replicate (((ar).length : Int)).toNat false)]) w12 [_, _, _, _, _, _] := hN.call0 hC_
 clear hC_
 refine RL.nil (onlyNi (xthenN (XW.block ?_)))
 refine XW.rangeT (gf := 190) (lb := #[.pointer (some ⟨gp12, 0, none⟩), .pointer (some ⟨gq12, 0, none⟩)]) (M := [_, _]) (fun s : Value × List Int => [.blk g8 [s.1] 25, .own vI 3 s.1 s.2, .blk g7 [.int .i64 ((n : Int)), v3, .slice none 0 0, .slice none 0 0, .slice none 0 0, .slice none 0 0, v6] 211, .own vB 4 (v6) (List.replicate (((ar).length : Int)).toNat false)]) (AppT Int) (.slice none 0 0, []) (hN.sub [3, 2, 4, 5, 0, 1] (by decide) rfl) rfl Tryz.func190 rfl rfl (numArc_iter (ar) gp12 gq12 _ (by omega)) AppT.on hA9 (fun _ => rfl) (by decide) ?_ ?_
 clear hN
 rintro l_ D_ rc_ FF ⟨v_, a_⟩ x_ pre_ post_ wr hrun hxs hrd hN
 change XW _ _ _ _ _ _ (upd _ 31 (.int .i64 (x_))) _
 replace hN : Now wr FF wr [.obj l_ (.loop (rc_ .ready none)), .obj D_ (.deferred (some [])), .blk g8 [v_] 25, .own vI 3 (v_) (a_), .blk g7 [.int .i64 ((n : Int)), v3, .slice none 0 0, .slice none 0 0, .slice none 0 0, .slice none 0 0, v6] 211, .own vB 4 (v6) (List.replicate (((ar).length : Int)).toNat false)] := hN
 have hal_ : a_.length < ((restI (isWay ar) 0 ar.length)).length := app_len hrun rfl hxs
 have hxl_ := restI_len (isWay ar) ar.length 0
 refine XW.region rfl (RL.ev (v := .int .i64 (x_)) rfl rfl ev_assign (RL.nil (onlyNi (assignQi ?_))))
 clear hN
 intro w13 (hN : Now wr FF w13 [.obj l_ (.loop (rc_ .busy none)), .obj D_ (.deferred (some [])), .blk g8 [v_] 25, .own vI 3 (v_) (a_), .blk g7 [.int .i64 ((n : Int)), v3, .slice none 0 0, .slice none 0 0, .slice none 0 0, .slice none 0 0, v6] 211, .own vB 4 (v6) (List.replicate (((ar).length : Int)).toNat false)])
 refine XW.block (XW.region rfl (RL.ev rfl rfl (ev_loadB Tryz.underlying25 rfl rfl (hN.blk 2 rfl) rfl) (RL.ev (v := .int .i64 (x_)) rfl rfl ev_move ?_)))
 refine RL.op rfl rfl (opN_lit (enc := vI) (l := [x_]) (xs := [.tmp 33]) Tryz.underlying25 sz3 zr3 rfl rfl (fun _ => rfl) rfl (by decide) (by decide) hN ?_)
 clear hN
 intro g14 w14 (hN : Now wr FF w14 [_, _, _, _, _, _, _])
 refine RL.op rfl rfl (opN_append Tryz.underlying25 inf3 rfl (fun _ => rfl) hN 4 rfl rfl (hN.sl 0 rfl) rfl (by (try simp only [List.length_append, List.length_take, List.length_drop, List.length_nil, List.length_cons, List.length_singleton, List.length_replicate, List.length_append, List.length_map]); omega) (by decide) ?_)
 clear hN
 intro v15 w15 (hN : Now wr FF w15 [_, _, _, _, _, _, _])
 refine RL.op rfl rfl (opN_store sz25 rfl rfl (hN.sl 4 rfl).cells1 (hN.sl 4 rfl).one1 hN 3 rfl (Nat.le_of_ble_eq_true rfl) ?_)
 clear hN
 intro w16 (hN : Now wr FF w16 [_, _, _, _, _, _, _])
 refine RL.nil (onlyNi (xblockN ?_))
 exact roundQn ⟨v15, a_ ++ [x_]⟩ ⟨rfl, rfl⟩ (hN.sub [1, 2, 3, 4, 5, 6] (by decide) rfl)
 clear hN
 rintro l_ D_ o_ ⟨v_, a_⟩ w17 hrun hN
 replace hN : Now w8 (foots [.blk g8 [.slice none 0 0] 25, .blk g7 [.int .i64 ((n : Int)), v3, .slice none 0 0, .slice none 0 0, .slice none 0 0, .slice none 0 0, v6] 211, .own vB 4 (v6) (List.replicate (((ar).length : Int)).toNat false)]) w17 [.obj l_ o_, .obj D_ (.deferred (some [])), .blk g8 [v_] 25, .own vI 3 (v_) (a_), .blk g7 [.int .i64 ((n : Int)), v3, .slice none 0 0, .slice none 0 0, .slice none 0 0, .slice none 0 0, v6] 211, .own vB 4 (v6) (List.replicate (((ar).length : Int)).toNat false)] := hN
 have ha_ : a_ = (restI (isWay ar) 0 ar.length) := app_run hrun
 refine xblockN (xthenN (XW.seq ?_))
 have hwl_ := restI_len (isWay ar) ar.length 0
 have hwv_ : ∀ x ∈ a_, 0 ≤ x ∧ x < (ar.length : Int) := fun x hx => by
   rw [ha_] at hx
   have hOb_ := mem_restI.1 hx
   obtain ⟨j, _, hj, _, rfl⟩ := hOb_
   omega
 have hal_ : a_.length ≤ ar.length := by rw [ha_]; exact hwl_
 refine XW.region rfl (RL.ev (v := .int .i64 (-1)) rfl rfl ev_assign (RL.nil (onlyNi (xthenN (XW.seq (XW.label (xthenN ?_)))))))
 iterate 2 refine XW.seq ?_
 replace hN := hN.ext (Ext.drew w17)
 refine XW.drawR rfl (by kernel_rfl) (fun u => Now w8 (foots [.blk g8 [.slice none 0 0] 25, .blk g7 [.int .i64 ((n : Int)), v3, .slice none 0 0, .slice none 0 0, .slice none 0 0, .slice none 0 0, v6] 211, .own vB 4 (v6) (List.replicate (((ar).length : Int)).toNat false)]) u [.obj l_ o_, .obj D_ (.deferred (some [])), .blk g8 [v_] 25, .own vI 3 (v_) (a_), .blk g7 [.int .i64 ((n : Int)), v3, .slice none 0 0, .slice none 0 0, .slice none 0 0, .slice none 0 0, v6] 211, .own vB 4 (v6) (List.replicate (((ar).length : Int)).toNat false)]) 11 [(0,0), (1,0), (2,0), (3,0), (4,0), (5,0), (7,0), (10,0), (6,1), (8,1), (9,1)] (by kernel_rfl) hN (RQ.ev rfl rfl (fun w hS => (ev_fieldAddr Tryz.underlying24 rfl sz3 (by decide) rfl)) (RQ.ev rfl rfl (fun w hS => (ev_loadB Tryz.underlying3 rfl rfl (hA10.now hS) rfl)) (RQ.ev rfl rfl (fun w hS => (ev_fieldAddr Tryz.underlying24 rfl sz3 (by decide) rfl)) (RQ.ev rfl rfl (fun w hS => (ev_loadB Tryz.underlying3 rfl rfl (hA10.now hS) rfl)) (RQ.ev rfl rfl (fun w hS => (ev_loadB Tryz.underlying25 rfl rfl (hS.blk 2 rfl) rfl)) (RQ.ev (v := .func (.func 146) #[] #[.pointer (some ⟨g1, 0, none⟩)]) rfl rfl (fun w hS => ev_move) (RQ.ev (v := .func (.func 145) #[] #[.pointer (some ⟨g1, 0, none⟩)]) rfl rfl (fun w hS => ev_move) (RQ.ev (v := .int .i64 (0)) rfl rfl (fun w hS => ev_move) ?_))))))))
 refine RQ.do rfl rfl (op_call3 Tryz.func149 rfl rfl rfl rfl rfl ((sorted_to n _ a_ g1 _ ar _ (hN.sl 3 rfl) (hA10.now hN) (hA9.now hN) hok hwv_ (by omega) (by omega)).mono ?_))
 rintro v18 w18 ⟨os18, ho_, hla18, he_⟩
 replace hN : Now w8 (foots [.blk g8 [.slice none 0 0] 25, .blk g7 [.int .i64 ((n : Int)), v3, .slice none 0 0, .slice none 0 0, .slice none 0 0, .slice none 0 0, v6] 211, .own vB 4 (v6) (List.replicate (((ar).length : Int)).toNat false)]) w18 [_, _, _, _, _, _, _] := hN.pushOwn ho_ he_
 clear ho_ he_
 have hpm18 := hla18.perm (keysOf_len _ _ _)
 have hln18 := hpm18.length_eq
 have hvs18 : ∀ x ∈ os18, 0 ≤ x ∧ x < (ar.length : Int) := fun x hx => hwv_ x (hpm18.mem_iff.1 hx)
 refine ⟨(hN.sub [1, 2, 3, 4, 5, 6] (by decide) rfl), ?_⟩
 refine RQ.do rfl rfl (op_call3 Tryz.func149 rfl rfl rfl rfl rfl ((sorted_from n _ os18 g1 _ ar _ (hN.sl 0 rfl) (hA10.now hN) (hA9.now hN) hok hvs18 (by omega) (by omega)).mono ?_))
 rintro v19 w19 ⟨os19, ho_, hla19, he_⟩
 replace hN : Now w8 (foots [.blk g8 [.slice none 0 0] 25, .blk g7 [.int .i64 ((n : Int)), v3, .slice none 0 0, .slice none 0 0, .slice none 0 0, .slice none 0 0, v6] 211, .own vB 4 (v6) (List.replicate (((ar).length : Int)).toNat false)]) w19 [_, _, _, _, _, _, _, _] := hN.pushOwn ho_ he_
 clear ho_ he_
 have hpm19 := hla19.perm (keysOf_len _ _ _)
 have hln19 := hpm19.length_eq
 have hvs19 : ∀ x ∈ os19, 0 ≤ x ∧ x < (ar.length : Int) := fun x hx => hvs18 x (hpm19.mem_iff.1 hx)
 refine ⟨(hN.sub [2, 3, 4, 5, 6, 7] (by decide) rfl), ?_⟩
 have hL_20 := (hN.sl 0 rfl).len_le
 refine RQ.do rfl rfl (OpR.ev (ev_lenS Tryz.underlying25 (hN.sl 0 rfl) rfl) ⟨(hN.sub [2, 3, 4, 5, 6, 7] (by decide) rfl), ?_⟩)
 refine RQ.done (by kernel_rfl) (onlyNi (xthenN (XW.block ?_)))
 refine XW.loop (fun k R0 w0' => ∃ la : Int, ∃ kl : List Bool, ∃ i : Nat, R0 1 = .pointer (some ⟨g1, 0, none⟩) ∧ R0 3 = .pointer (some ⟨g7, 0, none⟩) ∧ R0 4 = .func (.func 145) #[] #[.pointer (some ⟨g1, 0, none⟩)] ∧ R0 5 = .func (.func 146) #[] #[.pointer (some ⟨g1, 0, none⟩)] ∧ R0 8 = .int .i64 (la) ∧ R0 44 = v19 ∧ R0 45 = .int .i64 ((os19.length : Int)) ∧ R0 46 = .int .i64 ((i : Int)) ∧ Now w8 (foots [.blk g8 [.slice none 0 0] 25, .blk g7 [.int .i64 ((n : Int)), v3, .slice none 0 0, .slice none 0 0, .slice none 0 0, .slice none 0 0, v6] 211, .own vB 4 (v6) (List.replicate (((ar).length : Int)).toNat false)]) w0' [.own vI 3 (v19) (os19), .own vI 3 (v18) (os18), .obj l_ o_, .obj D_ (.deferred (some [])), .blk g8 [v_] 25, .own vI 3 (v_) (a_), .blk g7 [.int .i64 ((n : Int)), v3, .slice none 0 0, .slice none 0 0, .slice none 0 0, .slice none 0 0, v6] 211, .own vB 4 (v6) (kl)] ∧ (i + k = os19.length) ∧ (la = -1 ∨ (0 ≤ la ∧ la < (ar.length : Int))) ∧ (kl.length = ar.length)) (os19.length) ?_ ?_
 exact ⟨-1, List.replicate ar.length false, 0, rfl, rfl, rfl, rfl, rfl, rfl, rfl, rfl, hN, by omega, .inl rfl, List.length_replicate⟩
 clear hN
 rintro k R0 w0' ⟨la, kl, i, hr1_, hr3_, hr4_, hr5_, hr8_, hr44_, hr45_, hr46_, hN, hik, hla, hkl⟩
 have hR_ : ∃ R0_, R0 = (upd (upd (upd (upd (upd (upd (upd (upd R0_ 1 _) 3 _) 4 _) 5 _) 8 _) 44 _) 45 _) 46 _) := ⟨R0, by rw [upd_self hr1_, upd_self hr3_, upd_self hr4_, upd_self hr5_, upd_self hr8_, upd_self hr44_, upd_self hr45_, upd_self hr46_]⟩
 obtain ⟨R0_, rfl⟩ := hR_
 clear hr1_ hr3_ hr4_ hr5_ hr8_ hr44_ hr45_ hr46_
 refine XW.seq (XW.region rfl (RL.ev rfl rfl (ev_lss rfl rfl) (RL.nil (onlyNi (xthenN (XW.seq ?_))))))
 refine XW.condP _ rfl (fun hlt => ?_) (fun hlt => ?_)
 refine XW.skip (xthenN (XW.seq (XW.block (XW.seq (XW.region rfl (RL.ev rfl rfl (ev_index Tryz.underlying25 sz3 (hN.sl 0 rfl) rfl rfl (by omega) (by omega)) ?_))))))
 have hOb_ : ∃ a_, (os19)[i]? = some a_ := ⟨_, List.getElem?_eq_getElem (by omega)⟩
 obtain ⟨ap, hap⟩ := hOb_
 refine RL.ev rfl rfl (ev_loadG (m := i) (a := ap) Tryz.underlying3 rfl (hN.sl 0 rfl) rfl hap) (RL.ev (v := .int .i64 (ap)) rfl rfl ev_assign ?_)
 have hOb_ := hvs19 ap (List.mem_of_getElem? hap)
 obtain ⟨hkp0, hkp1⟩ := hOb_
 refine RL.nil (onlyNi (xthenN ?_))
 iterate 2 refine XW.seq ?_
 refine XW.region rfl (RL.ev (v := .int .i64 (la)) rfl rfl ev_move (RL.ev rfl rfl (ev_geq rfl rfl) (RL.ev (v := .bool (decide (0 ≤ la))) rfl rfl ev_move ?_)))
 by_cases hg15_2 : 0 ≤ la
 rw [decide_eq_true hg15_2]
 refine RL.onEv (v := .func (.func 145) #[] #[.pointer (some ⟨g1, 0, none⟩)]) rfl rfl (by decide) rfl rfl ev_move (RL.onEv (v := .int .i64 (la)) rfl rfl (by decide) rfl rfl ev_move ?_)
 have hkv22 : 0 ≤ la ∧ la < (ar.length : Int) := ⟨by omega, by omega⟩
 have hOb_ : ∃ a_, ar[(la).toNat]? = some a_ := ⟨_, List.getElem?_eq_getElem (by omega)⟩
 obtain ⟨b22, hb22⟩ := hOb_
 have hOb_ := hok b22 (List.mem_of_getElem? hb22)
 obtain ⟨hq220, hq221, hq222, hq223, hq224, hq225⟩ := hOb_
 refine RL.on rfl rfl (by decide) rfl rfl (op_callw1 (first := #[]) (captured := #[.pointer (some ⟨g1, 0, none⟩)]) (v0 := .int .i64 (la)) (args := #[.int .i64 (la), .pointer (some ⟨g1, 0, none⟩)]) Tryz.func145 rfl rfl (by simp) rfl rfl ((from_calls (la) g1 ((n : Int)) _ ar b22 _ (hA10.now hN) (hA9.now hN) hkv22.1 hb22).mono ?_))
 rintro _ w21 ⟨rfl, he_⟩
 replace hN := hN.ext he_
 clear he_
 refine RL.onEv (v := .func (.func 145) #[] #[.pointer (some ⟨g1, 0, none⟩)]) rfl rfl (by decide) rfl rfl ev_move (RL.onEv (v := .int .i64 (ap)) rfl rfl (by decide) rfl rfl ev_move ?_)
 have hkv24 : 0 ≤ ap ∧ ap < (ar.length : Int) := ⟨by omega, by omega⟩
 have hOb_ : ∃ a_, ar[(ap).toNat]? = some a_ := ⟨_, List.getElem?_eq_getElem (by omega)⟩
 obtain ⟨b24, hb24⟩ := hOb_
 have hOb_ := hok b24 (List.mem_of_getElem? hb24)
 obtain ⟨hq240, hq241, hq242, hq243, hq244, hq245⟩ := hOb_
 refine RL.on rfl rfl (by decide) rfl rfl (op_callw1 (first := #[]) (captured := #[.pointer (some ⟨g1, 0, none⟩)]) (v0 := .int .i64 (ap)) (args := #[.int .i64 (ap), .pointer (some ⟨g1, 0, none⟩)]) Tryz.func145 rfl rfl (by simp) rfl rfl ((from_calls (ap) g1 ((n : Int)) _ ar b24 _ (hA10.now hN) (hA9.now hN) hkv24.1 hb24).mono ?_))
 rintro _ w23 ⟨rfl, he_⟩
 replace hN := hN.ext he_
 clear he_
 refine RL.onEv rfl rfl (by decide) rfl rfl (ev_eql rfl rfl) (RL.ev (v := .bool (decide (b22.1 = b24.1))) rfl rfl (ev_pickT rfl) (RL.ev (v := .bool (decide (b22.1 = b24.1))) rfl rfl ev_move ?_))
 by_cases hg15_11 : b22.1 = b24.1
 rw [decide_eq_true hg15_11]
 refine RL.onEv (v := .func (.func 146) #[] #[.pointer (some ⟨g1, 0, none⟩)]) rfl rfl (by decide) rfl rfl ev_move (RL.onEv (v := .int .i64 (la)) rfl rfl (by decide) rfl rfl ev_move ?_)
 have hkv26 : 0 ≤ la ∧ la < (ar.length : Int) := ⟨by omega, by omega⟩
 have hOb_ : ∃ a_, ar[(la).toNat]? = some a_ := ⟨_, List.getElem?_eq_getElem (by omega)⟩
 obtain ⟨b26, hb26⟩ := hOb_
 have hOb_ := hok b26 (List.mem_of_getElem? hb26)
 obtain ⟨hq260, hq261, hq262, hq263, hq264, hq265⟩ := hOb_
 refine RL.on rfl rfl (by decide) rfl rfl (op_callw1 (first := #[]) (captured := #[.pointer (some ⟨g1, 0, none⟩)]) (v0 := .int .i64 (la)) (args := #[.int .i64 (la), .pointer (some ⟨g1, 0, none⟩)]) Tryz.func146 rfl rfl (by simp) rfl rfl ((to_calls (la) g1 ((n : Int)) _ ar b26 _ (hA10.now hN) (hA9.now hN) hkv26.1 hb26).mono ?_))
 rintro _ w25 ⟨rfl, he_⟩
 replace hN := hN.ext he_
 clear he_
 refine RL.onEv (v := .func (.func 146) #[] #[.pointer (some ⟨g1, 0, none⟩)]) rfl rfl (by decide) rfl rfl ev_move (RL.onEv (v := .int .i64 (ap)) rfl rfl (by decide) rfl rfl ev_move ?_)
 have hkv28 : 0 ≤ ap ∧ ap < (ar.length : Int) := ⟨by omega, by omega⟩
 have hOb_ : ∃ a_, ar[(ap).toNat]? = some a_ := ⟨_, List.getElem?_eq_getElem (by omega)⟩
 obtain ⟨b28, hb28⟩ := hOb_
 have hOb_ := hok b28 (List.mem_of_getElem? hb28)
 obtain ⟨hq280, hq281, hq282, hq283, hq284, hq285⟩ := hOb_
 refine RL.on rfl rfl (by decide) rfl rfl (op_callw1 (first := #[]) (captured := #[.pointer (some ⟨g1, 0, none⟩)]) (v0 := .int .i64 (ap)) (args := #[.int .i64 (ap), .pointer (some ⟨g1, 0, none⟩)]) Tryz.func146 rfl rfl (by simp) rfl rfl ((to_calls (ap) g1 ((n : Int)) _ ar b28 _ (hA10.now hN) (hA9.now hN) hkv28.1 hb28).mono ?_))
 rintro _ w27 ⟨rfl, he_⟩
 replace hN := hN.ext he_
 clear he_
 refine RL.onEv rfl rfl (by decide) rfl rfl (ev_eql rfl rfl) (RL.ev (v := .bool (decide (b26.2.1 = b28.2.1))) rfl rfl (ev_pickT rfl) (RL.nil (onlyNi (xthenN ?_))))
 refine XW.condP _ rfl (fun hc69 => ?_) (fun hc69 => ?_)
 iterate 2 refine XW.seq ?_
 refine XW.region rfl (RL.ev rfl rfl (ev_loadAll (cs := [.int .i64 ((n : Int)), v3]) Tryz.underlying24 rfl sz24 rfl (hA10.now hN)) (RL.ev (v := .int .i64 (ap)) rfl rfl ev_move (RL.ev (v := .int .i64 (la)) rfl rfl ev_move ?_)))
 have hOb_ : ∃ a_, ar[(ap).toNat]? = some a_ := ⟨_, List.getElem?_eq_getElem (by omega)⟩
 obtain ⟨e31, he31⟩ := hOb_
 have hOb_ : ∃ a_, ar[(la).toNat]? = some a_ := ⟨_, List.getElem?_eq_getElem (by omega)⟩
 obtain ⟨e32, he32⟩ := hOb_
 refine RL.op rfl rfl (op_call3 Tryz.func150 rfl rfl rfl rfl rfl ((better_calls ((n : Int)) (ap) (la) _ ar e31 e32 _ (hA9.now hN) (by omega) he31 (by omega) he32).mono ?_))
 rintro _ w29 ⟨rfl, he_⟩
 replace hN := hN.ext he_
 clear he_
 refine RL.ev rfl rfl (ev_notP rfl) (RL.nil (onlyNi (xthenN ?_)))
 refine XW.condP _ rfl (fun hc74 => ?_) (fun hc74 => ?_)
 refine XW.exit ?_
 iterate 2 refine xthenX ?_
 refine xblockHit (xthenN (XW.region rfl (RL.ev rfl rfl (ev_arith rfl rfl rfl (add64 (by omega) (by omega))) (RL.ev (v := .int .i64 ((i : Int) + 1)) rfl rfl ev_move (RL.nil (onlyNi (xthenN ?_)))))))
 exact ⟨rfl, k - 1, by omega, la, kl, i + 1, rfl, rfl, rfl, rfl, rfl, rfl, rfl, rfl, hN, by omega, hla, by (try simp only [List.length_set]); exact hkl⟩
 refine XW.skip (xthenN (XW.region rfl (RL.ev (v := .pointer (some ⟨g7, 0, none⟩)) rfl rfl ev_move (RL.ev rfl rfl (ev_nilCheck rfl) (RL.ev rfl rfl (ev_fieldAddr Tryz.underlying211 rfl sz206 (by decide) rfl) (RL.ev rfl rfl (ev_loadB Tryz.underlying206 rfl rfl (hN.blk 6 rfl) rfl) (RL.ev (v := .int .i64 (la)) rfl rfl ev_move (RL.ev rfl rfl (ev_index Tryz.underlying206 sz4 (hN.sl 7 rfl) rfl rfl (by omega) (by omega)) ?_))))))))
 refine RL.op rfl rfl (opN_storeOwn (m := (la).toNat) (a := false) sz4 hN 7 rfl rfl (by omega) rfl rfl rfl rfl ?_)
 clear hN
 intro w33 (hN : Now w8 (foots [.blk g8 [.slice none 0 0] 25, .blk g7 [.int .i64 ((n : Int)), v3, .slice none 0 0, .slice none 0 0, .slice none 0 0, .slice none 0 0, v6] 211, .own vB 4 (v6) (List.replicate (((ar).length : Int)).toNat false)]) w33 [_, _, _, _, _, _, _, _])
 refine RL.nil (onlyNi (xthenN ?_))
 have hkl2 : ((kl).set (la).toNat (false)).length = ar.length := by (try simp only [List.length_set]); exact hkl
 refine XW.region rfl (RL.ev (v := .pointer (some ⟨g7, 0, none⟩)) rfl rfl ev_move (RL.ev rfl rfl (ev_nilCheck rfl) (RL.ev rfl rfl (ev_fieldAddr Tryz.underlying211 rfl sz206 (by decide) rfl) (RL.ev rfl rfl (ev_loadB Tryz.underlying206 rfl rfl (hN.blk 6 rfl) rfl) ?_))))
 iterate 2 refine RL.ev (v := .int .i64 (ap)) rfl rfl ev_move ?_
 refine RL.ev rfl rfl (ev_index Tryz.underlying206 sz4 (hN.sl 7 rfl) rfl rfl (by omega) (by omega)) ?_
 refine RL.op rfl rfl (opN_storeOwn (m := (ap).toNat) (a := true) sz4 hN 7 rfl rfl (by omega) rfl rfl rfl rfl ?_)
 clear hN
 intro w34 (hN : Now w8 (foots [.blk g8 [.slice none 0 0] 25, .blk g7 [.int .i64 ((n : Int)), v3, .slice none 0 0, .slice none 0 0, .slice none 0 0, .slice none 0 0, v6] 211, .own vB 4 (v6) (List.replicate (((ar).length : Int)).toNat false)]) w34 [_, _, _, _, _, _, _, _])
 refine RL.ev (v := .int .i64 (ap)) rfl rfl ev_assign (RL.nil (onlyNi (xblockN (xthenN (XW.region rfl (RL.ev rfl rfl (ev_arith rfl rfl rfl (add64 (by omega) (by omega))) (RL.ev (v := .int .i64 ((i : Int) + 1)) rfl rfl ev_move (RL.nil (onlyNi ?_)))))))))
 refine xthenN ?_
 exact ⟨rfl, k - 1, by omega, ap, ((kl).set (la).toNat (false)).set (ap).toNat (true), i + 1, rfl, rfl, rfl, rfl, rfl, rfl, rfl, rfl, hN, by omega, .inr ⟨by omega, by omega⟩, by (try simp only [List.length_set]); exact hkl⟩
 refine XW.skip (xthenN ?_)
 have hkl2 : (kl).length = ar.length := by (try simp only [List.length_set]); exact hkl
 refine XW.region rfl (RL.ev (v := .pointer (some ⟨g7, 0, none⟩)) rfl rfl ev_move (RL.ev rfl rfl (ev_nilCheck rfl) (RL.ev rfl rfl (ev_fieldAddr Tryz.underlying211 rfl sz206 (by decide) rfl) (RL.ev rfl rfl (ev_loadB Tryz.underlying206 rfl rfl (hN.blk 6 rfl) rfl) ?_))))
 iterate 2 refine RL.ev (v := .int .i64 (ap)) rfl rfl ev_move ?_
 refine RL.ev rfl rfl (ev_index Tryz.underlying206 sz4 (hN.sl 7 rfl) rfl rfl (by omega) (by omega)) ?_
 refine RL.op rfl rfl (opN_storeOwn (m := (ap).toNat) (a := true) sz4 hN 7 rfl rfl (by omega) rfl rfl rfl rfl ?_)
 clear hN
 intro w35 (hN : Now w8 (foots [.blk g8 [.slice none 0 0] 25, .blk g7 [.int .i64 ((n : Int)), v3, .slice none 0 0, .slice none 0 0, .slice none 0 0, .slice none 0 0, v6] 211, .own vB 4 (v6) (List.replicate (((ar).length : Int)).toNat false)]) w35 [_, _, _, _, _, _, _, _])
 refine RL.ev (v := .int .i64 (ap)) rfl rfl ev_assign (RL.nil (onlyNi (xblockN (xthenN (XW.region rfl (RL.ev rfl rfl (ev_arith rfl rfl rfl (add64 (by omega) (by omega))) (RL.ev (v := .int .i64 ((i : Int) + 1)) rfl rfl ev_move (RL.nil (onlyNi ?_)))))))))
 refine xthenN ?_
 exact ⟨rfl, k - 1, by omega, ap, (kl).set (ap).toNat (true), i + 1, rfl, rfl, rfl, rfl, rfl, rfl, rfl, rfl, hN, by omega, .inr ⟨by omega, by omega⟩, by (try simp only [List.length_set]); exact hkl⟩
 rw [decide_eq_false hg15_11]
 iterate 7 refine RL.off rfl rfl (by decide) rfl rfl ?_
 refine RL.ev (v := .bool false) rfl rfl (ev_pickF rfl) (RL.nil (onlyNi (xthenN (XW.condF rfl (XW.skip (xthenN ?_))))))
 have hkl2 : (kl).length = ar.length := by (try simp only [List.length_set]); exact hkl
 refine XW.region rfl (RL.ev (v := .pointer (some ⟨g7, 0, none⟩)) rfl rfl ev_move (RL.ev rfl rfl (ev_nilCheck rfl) (RL.ev rfl rfl (ev_fieldAddr Tryz.underlying211 rfl sz206 (by decide) rfl) (RL.ev rfl rfl (ev_loadB Tryz.underlying206 rfl rfl (hN.blk 6 rfl) rfl) ?_))))
 iterate 2 refine RL.ev (v := .int .i64 (ap)) rfl rfl ev_move ?_
 refine RL.ev rfl rfl (ev_index Tryz.underlying206 sz4 (hN.sl 7 rfl) rfl rfl (by omega) (by omega)) ?_
 refine RL.op rfl rfl (opN_storeOwn (m := (ap).toNat) (a := true) sz4 hN 7 rfl rfl (by omega) rfl rfl rfl rfl ?_)
 clear hN
 intro w36 (hN : Now w8 (foots [.blk g8 [.slice none 0 0] 25, .blk g7 [.int .i64 ((n : Int)), v3, .slice none 0 0, .slice none 0 0, .slice none 0 0, .slice none 0 0, v6] 211, .own vB 4 (v6) (List.replicate (((ar).length : Int)).toNat false)]) w36 [_, _, _, _, _, _, _, _])
 refine RL.ev (v := .int .i64 (ap)) rfl rfl ev_assign (RL.nil (onlyNi (xblockN (xthenN (XW.region rfl (RL.ev rfl rfl (ev_arith rfl rfl rfl (add64 (by omega) (by omega))) (RL.ev (v := .int .i64 ((i : Int) + 1)) rfl rfl ev_move (RL.nil (onlyNi ?_)))))))))
 refine xthenN ?_
 exact ⟨rfl, k - 1, by omega, ap, (kl).set (ap).toNat (true), i + 1, rfl, rfl, rfl, rfl, rfl, rfl, rfl, rfl, hN, by omega, .inr ⟨by omega, by omega⟩, by (try simp only [List.length_set]); exact hkl⟩
 rw [decide_eq_false hg15_2]
 iterate 7 refine RL.off rfl rfl (by decide) rfl rfl ?_
 refine RL.ev (v := .bool false) rfl rfl (ev_pickF rfl) (RL.ev (v := .bool false) rfl rfl ev_move ?_)
 iterate 7 refine RL.off rfl rfl (by decide) rfl rfl ?_
 refine RL.ev (v := .bool false) rfl rfl (ev_pickF rfl) (RL.nil (onlyNi (xthenN (XW.condF rfl (XW.skip (xthenN ?_))))))
 have hkl2 : (kl).length = ar.length := by (try simp only [List.length_set]); exact hkl
 refine XW.region rfl (RL.ev (v := .pointer (some ⟨g7, 0, none⟩)) rfl rfl ev_move (RL.ev rfl rfl (ev_nilCheck rfl) (RL.ev rfl rfl (ev_fieldAddr Tryz.underlying211 rfl sz206 (by decide) rfl) (RL.ev rfl rfl (ev_loadB Tryz.underlying206 rfl rfl (hN.blk 6 rfl) rfl) ?_))))
 iterate 2 refine RL.ev (v := .int .i64 (ap)) rfl rfl ev_move ?_
 refine RL.ev rfl rfl (ev_index Tryz.underlying206 sz4 (hN.sl 7 rfl) rfl rfl (by omega) (by omega)) ?_
 refine RL.op rfl rfl (opN_storeOwn (m := (ap).toNat) (a := true) sz4 hN 7 rfl rfl (by omega) rfl rfl rfl rfl ?_)
 clear hN
 intro w37 (hN : Now w8 (foots [.blk g8 [.slice none 0 0] 25, .blk g7 [.int .i64 ((n : Int)), v3, .slice none 0 0, .slice none 0 0, .slice none 0 0, .slice none 0 0, v6] 211, .own vB 4 (v6) (List.replicate (((ar).length : Int)).toNat false)]) w37 [_, _, _, _, _, _, _, _])
 refine RL.ev (v := .int .i64 (ap)) rfl rfl ev_assign (RL.nil (onlyNi (xblockN (xthenN (XW.region rfl (RL.ev rfl rfl (ev_arith rfl rfl rfl (add64 (by omega) (by omega))) (RL.ev (v := .int .i64 ((i : Int) + 1)) rfl rfl ev_move (RL.nil (onlyNi ?_)))))))))
 refine xthenN ?_
 exact ⟨rfl, k - 1, by omega, ap, (kl).set (ap).toNat (true), i + 1, rfl, rfl, rfl, rfl, rfl, rfl, rfl, rfl, hN, by omega, .inr ⟨by omega, by omega⟩, by (try simp only [List.length_set]); exact hkl⟩
 refine XW.exit ?_
 iterate 2 refine xthenX ?_
 refine xblockHit (xthenN (XW.seq (XW.region rfl (RL.ev (v := .pointer (some ⟨g7, 0, none⟩)) rfl rfl ev_move ?_))))
 refine RL.op rfl rfl (op_call1 Tryz.func151 rfl rfl rfl ((keptG_calls g7 (.int .i64 ((n : Int))) (v3) (.slice none 0 0) (.slice none 0 0) (.slice none 0 0) (.slice none 0 0) _ kl _ (hN.blk 6 rfl) (hN.sl 7 rfl) (by omega)).mono ?_))
 rintro v38 w38 ⟨ho_, he_⟩
 replace hN : Now w8 (foots [.blk g8 [.slice none 0 0] 25, .blk g7 [.int .i64 ((n : Int)), v3, .slice none 0 0, .slice none 0 0, .slice none 0 0, .slice none 0 0, v6] 211, .own vB 4 (v6) (List.replicate (((ar).length : Int)).toNat false)]) w38 [_, _, _, _, _, _, _, _, _] := hN.pushOwn (l := (restI (isOn kl) 0 kl.length)) ho_ he_
 clear ho_ he_
 have hkv_ : ∀ x ∈ (restI (isOn kl) 0 kl.length), 0 ≤ x ∧ x < (ar.length : Int) := fun x hx => by
   have hOb_ := mem_restI.1 hx
   obtain ⟨j, _, hj, _, rfl⟩ := hOb_
   omega
 have hkl_ := restI_len (isOn kl) kl.length 0
 refine RL.ev (v := v38) rfl rfl ev_assign (RL.nil (onlyNi (xthenN (XW.seq ?_))))
 replace hN := hN.ext (Ext.drew w38)
 refine XW.drawR rfl (by kernel_rfl) (fun u => Now w8 (foots [.blk g8 [.slice none 0 0] 25, .blk g7 [.int .i64 ((n : Int)), v3, .slice none 0 0, .slice none 0 0, .slice none 0 0, .slice none 0 0, v6] 211, .own vB 4 (v6) (List.replicate (((ar).length : Int)).toNat false)]) u [.own vI 3 (v19) (os19), .own vI 3 (v18) (os18), .obj l_ o_, .obj D_ (.deferred (some [])), .blk g8 [v_] 25, .own vI 3 (v_) (a_), .own vB 4 (v6) (kl)]) 18 [(0,0), (1,0), (2,0), (3,0), (4,0), (5,0), (7,0), (8,0), (9,0), (10,0), (6,1), (11,1), (12,0), (13,0), (14,1), (15,0), (16,0), (17,1)] (by kernel_rfl) (hN.sub [1, 2, 3, 4, 5, 6, 8] (by decide) rfl) ?_
 iterate 2 refine RQ.ev (v := .pointer (some ⟨g7, 0, none⟩)) rfl rfl (fun w hS => ev_move) ?_
 refine RQ.ev rfl rfl (fun w hS => (ev_loadAll (cs := [.int .i64 ((n : Int)), v3]) Tryz.underlying24 rfl sz24 rfl (hA10.now hS))) (RQ.ev (v := v38) rfl rfl (fun w hS => ev_move) (RQ.ev (v := .func (.func 145) #[] #[.pointer (some ⟨g1, 0, none⟩)]) rfl rfl (fun w hS => ev_move) (RQ.ev (v := .func (.func 146) #[] #[.pointer (some ⟨g1, 0, none⟩)]) rfl rfl (fun w hS => ev_move) (RQ.ev rfl rfl (fun w hS => (ev_loadAll (cs := [.int .i64 ((n : Int)), v3]) Tryz.underlying24 rfl sz24 rfl (hA10.now hS))) (RQ.ev (v := v38) rfl rfl (fun w hS => ev_move) (RQ.ev (v := .func (.func 146) #[] #[.pointer (some ⟨g1, 0, none⟩)]) rfl rfl (fun w hS => ev_move) (RQ.ev (v := .func (.func 145) #[] #[.pointer (some ⟨g1, 0, none⟩)]) rfl rfl (fun w hS => ev_move) ?_)))))))
 refine RQ.do rfl rfl (op_call4 Tryz.func152 rfl rfl rfl rfl rfl rfl ((lay_from n _ (restI (isOn kl) 0 kl.length) g1 _ ar _ (hN.sl 0 rfl) (hA10.now hN) (hA9.now hN) hok hkv_ (by omega) (by omega)).mono ?_))
 rintro _ w39 ⟨bv39, ev39, bs39, es39, os39, ot39, rfl, hC_, _, _, _, _⟩
 replace hN : Now w8 (foots [.blk g8 [.slice none 0 0] 25, .blk g7 [.int .i64 ((n : Int)), v3, .slice none 0 0, .slice none 0 0, .slice none 0 0, .slice none 0 0, v6] 211, .own vB 4 (v6) (List.replicate (((ar).length : Int)).toNat false)]) w39 [_, _, _, _, _, _, _, _, _, _, _] := hN.call0 hC_
 clear hC_
 refine ⟨(hN.sub [3, 4, 5, 6, 7, 8, 10] (by decide) rfl), ?_⟩
 refine RQ.do rfl rfl (op_call4 Tryz.func152 rfl rfl rfl rfl rfl rfl ((lay_to n _ (restI (isOn kl) 0 kl.length) g1 _ ar _ (hN.sl 2 rfl) (hA10.now hN) (hA9.now hN) hok hkv_ (by omega) (by omega)).mono ?_))
 rintro _ w40 ⟨bv40, ev40, bs40, es40, os40, ot40, rfl, hC_, _, _, _, _⟩
 replace hN : Now w8 (foots [.blk g8 [.slice none 0 0] 25, .blk g7 [.int .i64 ((n : Int)), v3, .slice none 0 0, .slice none 0 0, .slice none 0 0, .slice none 0 0, v6] 211, .own vB 4 (v6) (List.replicate (((ar).length : Int)).toNat false)]) w40 [_, _, _, _, _, _, _, _, _, _, _, _, _] := hN.call0 hC_
 clear hC_
 refine ⟨(hN.sub [5, 6, 7, 8, 9, 10, 12] (by decide) rfl), ?_⟩
 refine RQ.ev rfl rfl (fun w hS => (ev_nilCheck rfl)) (RQ.ev rfl rfl (fun w hS => (ev_fieldAddr Tryz.underlying211 rfl sz209 (by decide) rfl)) ?_)
 refine RQ.do rfl rfl (opN_storeSub (vs := [bv39, ev39]) sz209 rfl rfl rfl (by intro u hu; simp only [List.mem_cons, List.not_mem_nil, or_false] at hu; rcases hu with rfl | rfl <;> first | rfl | exact (hN.sl 2 rfl).one1 | exact (hN.sm 3 rfl).one1) hN 11 rfl (Nat.le_of_ble_eq_true rfl) ?_)
 clear hN
 intro w41 (hN : Now w8 (foots [.blk g8 [.slice none 0 0] 25, .blk g7 [.int .i64 ((n : Int)), v3, .slice none 0 0, .slice none 0 0, .slice none 0 0, .slice none 0 0, v6] 211, .own vB 4 (v6) (List.replicate (((ar).length : Int)).toNat false)]) w41 [_, _, _, _, _, _, _, _, _, _, _, _, _])
 refine ⟨(hN.sub [5, 6, 7, 8, 9, 10, 12] (by decide) rfl), ?_⟩
 refine RQ.ev rfl rfl (fun w hS => (ev_nilCheck rfl)) (RQ.ev rfl rfl (fun w hS => (ev_fieldAddr Tryz.underlying211 rfl sz209 (by decide) rfl)) ?_)
 refine RQ.do rfl rfl (opN_storeSub (vs := [bv40, ev40]) sz209 rfl rfl rfl (by intro u hu; simp only [List.mem_cons, List.not_mem_nil, or_false] at hu; rcases hu with rfl | rfl <;> first | rfl | exact (hN.sl 0 rfl).one1 | exact (hN.sm 1 rfl).one1) hN 11 rfl (Nat.le_of_ble_eq_true rfl) ?_)
 clear hN
 intro w42 (hN : Now w8 (foots [.blk g8 [.slice none 0 0] 25, .blk g7 [.int .i64 ((n : Int)), v3, .slice none 0 0, .slice none 0 0, .slice none 0 0, .slice none 0 0, v6] 211, .own vB 4 (v6) (List.replicate (((ar).length : Int)).toNat false)]) w42 [_, _, _, _, _, _, _, _, _, _, _, _, _])
 refine ⟨(hN.sub [5, 6, 7, 8, 9, 10, 12] (by decide) rfl), ?_⟩
 refine RQ.done (by kernel_rfl) (onlyNi (xthenN (XW.seq (XW.region rfl (RL.ev (v := .pointer (some ⟨g7, 0, none⟩)) rfl rfl ev_move (RL.ev (v := .pointer (some ⟨g7, 0, none⟩)) rfl rfl ev_assign (RL.nil (onlyNi (xthenN ?_)))))))))
 refine XW.ret (xscopeR (xretM hN (.inl rfl) 8 rfl ?_))
 clear hN
 intro w43 (hN : Now w8 (foots [.blk g8 [.slice none 0 0] 25, .blk g7 [.int .i64 ((n : Int)), v3, .slice none 0 0, .slice none 0 0, .slice none 0 0, .slice none 0 0, v6] 211, .own vB 4 (v6) (List.replicate (((ar).length : Int)).toNat false)]) w43 [_, _, _, _, _, _, _, _, _, _, _, _, _])
 refine ⟨_, RV.tmp rfl, ?_⟩
 exact ⟨_, _, _, _, _, _, _, rfl, (hN.blk 11 rfl), (hA9.now hN), (hF11.back hN).ext0⟩
set_option maxHeartbeats 4000000 in
set_option maxRecDepth 100000 in
theorem graphNew_nil (n : Int) (v : Value) (ar : List I3) (w : World) (hv : Sm i3cells w v ar) (hbad : ¬ mchk n ar = 0) : Gives Tryz.prog 67 #[.agg #[.int .i64 n, v]] w fun r w' => r = .pointer none ∧ Ext w w' := by
 refine Gives.startX Tryz.func67 rfl (Nat.le_of_ble_eq_true rfl) ?_
 rw [args1]
 have hN := Now.nil w none_
 refine XW.seq (XW.region rfl ?_)
 refine RL.op rfl rfl (opN_box (cs := [.int .i64 (n), v]) rfl rfl hN ?_)
 clear hN
 intro g1 w1 (hN : Now w none_ w1 [_])
 refine RL.ev (v := .pointer none) rfl rfl ev_assign (RL.nil (onlyNi (xthenN (XW.scope ?_))))
 iterate 2 refine XW.seq ?_
 refine XW.region rfl (RL.ev rfl rfl (ev_loadAll (cs := [.int .i64 (n), v]) Tryz.underlying24 rfl sz24 rfl (hN.blk 0 rfl)) ?_)
 refine RL.op rfl rfl (op_call1 Tryz.func105 rfl rfl rfl ((gcheck_calls (n) _ ar _ (hv.o.now hN)).mono ?_))
 rintro _ w2 ⟨rfl, he_⟩
 replace hN := hN.ext he_
 clear he_
 refine RL.ev rfl rfl (ev_true (ev_neq rfl rfl) hbad) (RL.nil (onlyNi (xthenN (XW.condT rfl (XW.seq (XW.region rfl (RL.ev (v := .pointer none) rfl rfl ev_assign (RL.nil (onlyNi ?_)))))))))
 refine xthenN (XW.ret (xthenR (xscopeR (xretI (RV.tmp rfl) ?_))))
 exact ⟨rfl, hN.ext0⟩
end Go.Proofs.YtngkdkbpgoddlaaGreat
set_option linter.unusedVariables false
set_option linter.unusedSimpArgs false
namespace Go.Proofs.YtngkdkbpgoddlaaGreat
open Go.RowKit Go.Rl
open Go.Gr
end Go.Proofs.YtngkdkbpgoddlaaGreat
set_option linter.unusedVariables false
set_option linter.unusedSimpArgs false
namespace Go.Proofs.YtngkdkbpgoddlaaGreat
open Go.RowKit Go.Rl
open Go.Gr
set_option maxHeartbeats 4000000 in
set_option maxRecDepth 100000 in
theorem add_calls (h : B64) (x : Int) (g : Nat) (w : World) (hN : Now w (foots [.blk g [.int .u64 ((h).toNat : Int)] 57]) w [.blk g [.int .u64 ((h).toNat : Int)] 57]) : Gives Tryz.prog 153 #[.int .i64 x, .pointer (some ⟨g, 0, none⟩)] w fun r w' => r = .tuple #[] ∧ Now w (foots [.blk g [.int .u64 ((h).toNat : Int)] 57]) w' [.blk g [.int .u64 ((stir h x).toNat : Int)] 57] := by
 refine Gives.start Tryz.func153 rfl (Nat.le_of_ble_eq_true rfl) ?_
 rw [args2]
 refine RW.seq (RW.region (RL.ev rfl rfl (ev_loadB Tryz.underlying57 rfl rfl (hN.blk 0 rfl) rfl) (RL.ev (v := .int .i64 (x)) rfl rfl ev_move (RL.ev rfl rfl (ev_conv Tryz.underlying3 Tryz.underlying57 rfl (s_conv x)) (RL.ev rfl rfl (ev_arith rfl rfl rfl (s_xor _ _)) (RL.ev rfl rfl (ev_arith rfl rfl rfl (s_mul _)) ?_))))))
 refine RL.op rfl rfl (opN_store sz57 rfl rfl rfl rfl hN 0 rfl (Nat.le_of_ble_eq_true rfl) ?_)
 clear hN
 intro w1 (hN : Now w (foots [.blk g [.int .u64 ((h).toNat : Int)] 57]) w1 [_])
 refine RL.nil (thenN (RW.region ?_))
 iterate 2 refine RL.ev rfl rfl (ev_loadB Tryz.underlying57 rfl rfl (hN.blk 0 rfl) rfl) ?_
 refine RL.ev rfl rfl (ev_shr rfl rfl (by decide) (s_shr _)) (RL.ev rfl rfl (ev_arith rfl rfl rfl (s_xor _ _)) ?_)
 refine RL.op rfl rfl (opN_store sz57 rfl rfl rfl rfl hN 0 rfl (Nat.le_of_ble_eq_true rfl) ?_)
 clear hN
 intro w2 (hN : Now w (foots [.blk g [.int .u64 ((h).toNat : Int)] 57]) w2 [_])
 refine RL.nil (retN (RV.zero rfl) ?_)
 exact ⟨rfl, hN⟩
end Go.Proofs.YtngkdkbpgoddlaaGreat
