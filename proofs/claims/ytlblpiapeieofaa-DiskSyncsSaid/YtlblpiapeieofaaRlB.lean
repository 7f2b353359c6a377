import Derived.Test.YtlblpiapeieofaaRl
import Derived.Laws.Cover3
import Derived.Sort.Walk0
/- Several things of the ledger as one, and in whatever order. Nothing here names a program. -/
set_option linter.unusedVariables false
set_option linter.unusedSimpArgs false
namespace Go.Rl
section
variable {w0 w w' : World} {F : Nat → Prop} {L M R : List Atom} {a a' : Atom}
def Apart (a b : Atom) : Prop := ∀ k, a.foot k → ¬ b.foot k
theorem Apart.symm {a b : Atom} (h : Apart a b) : Apart b a := fun k hb ha => h k ha hb
/-- The ledger, by members. -/
theorem Now.iff : Now w0 F w L ↔ Mod F w0 w ∧ (∀ a ∈ L, a.says w) ∧ (∀ a ∈ L, ∀ k, a.foot k → (F k ∨ w0.heap.size ≤ k) ∧ k < w.heap.size) ∧ L.Pairwise Apart := by
  constructor
  · intro h
    refine ⟨h.mod, fun a ha => ?_, fun a ha => ?_, ?_⟩
    · obtain ⟨i, hi⟩ := List.getElem?_of_mem ha; exact h.says i a hi
    · obtain ⟨i, hi⟩ := List.getElem?_of_mem ha; exact h.low i a hi
    · rw [List.pairwise_iff_getElem]
      intro i j hi hj hij
      exact h.sep i j _ _ (by omega) (List.getElem?_eq_getElem hi) (List.getElem?_eq_getElem hj)
  · rintro ⟨h1, h2, h3, h4⟩
    rw [List.pairwise_iff_getElem] at h4
    refine ⟨h1, fun i a ha => h2 a (List.mem_of_getElem? ha), fun i a ha => h3 a (List.mem_of_getElem? ha), fun i j a b hij ha hb => ?_⟩
    obtain ⟨hi, rfl⟩ := List.getElem?_eq_some_iff.1 ha
    obtain ⟨hj, rfl⟩ := List.getElem?_eq_some_iff.1 hb
    rcases Nat.lt_or_gt_of_ne hij with h | h
    · exact h4 i j hi hj h
    · exact (h4 j i hj hi h).symm
theorem Now.perm (h : Now w0 F w L) (hp : L.Perm M) : Now w0 F w M := by
  rw [Now.iff] at h ⊢
  refine ⟨h.1, fun a ha => h.2.1 a (hp.mem_iff.2 ha), fun a ha => h.2.2.1 a (hp.mem_iff.2 ha), (hp.pairwise_iff (fun {x y} => Apart.symm)).1 h.2.2.2⟩
/-- Things that are told by a word: some ledger of which the word holds. -/
def Atom.exs (B : Nat → Prop) (Φ : List Atom → Prop) : Atom where
  foot := B
  says w := ∃ L, Φ L ∧ Now w B w L
  keep := by
    rintro w w' hb ⟨L, hΦ, hN⟩
    rw [Now.iff] at hN
    have up : ∀ a ∈ L, ∀ k, a.foot k → B k ∧ k < w.heap.size := fun a ha k hk => ⟨(hN.2.2.1 a ha k hk).1.elim id fun e => absurd (hN.2.2.1 a ha k hk).2 (Nat.not_lt.2 e), (hN.2.2.1 a ha k hk).2⟩
    refine ⟨L, hΦ, Now.iff.2 ⟨Mod.refl _ _, fun a ha => a.keep (fun k hk hlt => hb k (up a ha k hk).1 hlt) (hN.2.1 a ha), fun a ha k hk => ⟨.inl (up a ha k hk).1, ?_⟩, hN.2.2.2⟩⟩
    have h1 := up a ha k hk
    have h2 := hb k h1.1 h1.2
    rw [Array.getElem?_eq_getElem h1.2] at h2
    exact (Array.getElem?_eq_some_iff.1 h2).1
theorem Now.exsOpen {B : Nat → Prop} {Φ : List Atom → Prop} (h : Now w0 F w (.exs B Φ :: R)) : ∃ L, Φ L ∧ Now w0 F w (L ++ R) := by
  rw [Now.iff] at h
  obtain ⟨hm, hs, hl, hp⟩ := h
  obtain ⟨L, hΦ, hN⟩ := (hs _ (List.mem_cons_self ..) : ∃ L, Φ L ∧ Now w B w L)
  rw [Now.iff] at hN
  have up : ∀ a ∈ L, ∀ k, a.foot k → B k := fun a ha k hk => (hN.2.2.1 a ha k hk).1.elim id fun e => absurd (hN.2.2.1 a ha k hk).2 (Nat.not_lt.2 e)
  rw [List.pairwise_cons] at hp
  refine ⟨L, hΦ, Now.iff.2 ⟨hm, fun a ha => ?_, fun a ha k hk => ?_, ?_⟩⟩
  · rcases List.mem_append.1 ha with ha | ha
    · exact hN.2.1 a ha
    · exact hs a (List.mem_cons_of_mem _ ha)
  · rcases List.mem_append.1 ha with ha | ha
    · exact hl _ (List.mem_cons_self ..) k (up a ha k hk)
    · exact hl a (List.mem_cons_of_mem _ ha) k hk
  · rw [List.pairwise_append]
    exact ⟨hN.2.2.2, hp.2, fun a ha b hb k hk hk' => hp.1 b hb k (up a ha k hk) hk'⟩
theorem Now.take (h : Now w0 F w (L ++ R)) : Now w (foots L) w L := by
  rw [Now.iff] at h ⊢
  exact ⟨Mod.refl _ _, fun a ha => h.2.1 a (List.mem_append_left _ ha), fun a ha k hk => ⟨.inl ⟨a, ha, hk⟩, (h.2.2.1 a (List.mem_append_left _ ha) k hk).2⟩, (List.pairwise_append.1 h.2.2.2).1⟩
theorem Now.exsShutB {B : Nat → Prop} (Φ : List Atom → Prop) (hΦ : Φ L) (hB : ∀ k, B k ↔ foots L k) (h : Now w0 F w (L ++ R)) : Now w0 F w (.exs B Φ :: R) := by
  have ht := h.take
  have he : B = foots L := funext fun k => propext (hB k)
  subst he
  rw [Now.iff] at h ⊢
  obtain ⟨hm, hs, hl, hp⟩ := h
  rw [List.pairwise_append] at hp
  refine ⟨hm, fun a ha => ?_, fun a ha k hk => ?_, List.pairwise_cons.2 ⟨fun b hb k hk hk' => ?_, hp.2.1⟩⟩
  · rcases List.mem_cons.1 ha with rfl | ha
    · exact ⟨L, hΦ, ht⟩
    · exact hs a (List.mem_append_right _ ha)
  · rcases List.mem_cons.1 ha with rfl | ha
    · obtain ⟨a, ha, hk⟩ := hk
      exact hl a (List.mem_append_left _ ha) k hk
    · exact hl a (List.mem_append_right _ ha) k hk
  · obtain ⟨a, ha, hk⟩ := hk
    exact hp.2.2 a ha b hb k hk hk'
theorem Now.exsShut (Φ : List Atom → Prop) (hΦ : Φ L) (h : Now w0 F w (L ++ R)) : Now w0 F w (.exs (foots L) Φ :: R) := h.exsShutB Φ hΦ (fun _ => Iff.rfl)
theorem Atom.exs_imp {B : Nat → Prop} {Φ Ψ : List Atom → Prop} (h : ∀ L, Φ L → Ψ L) : (Atom.exs B Φ).says w → (Atom.exs B Ψ).says w := fun ⟨L, hL, hN⟩ => ⟨L, h L hL, hN⟩
/-- One thing is told in another way, on the same blocks or fewer. -/
theorem Now.retell (h : Now w0 F w (a :: R)) (hs : a.says w → a'.says w) (hf : ∀ k, a'.foot k → a.foot k) : Now w0 F w (a' :: R) := h.turn 0 rfl (hs (h.says 0 a rfl)) hf
/-- A thing a member of a list. -/
inductive Each {α : Type} (P : α → Atom → Prop) : List α → List Atom → Prop
  | nil : Each P [] []
  | cons {x : α} {a : Atom} {l : List α} {L : List Atom} : P x a → Each P l L → Each P (x :: l) (a :: L)
theorem Each.perm {α : Type} {P : α → Atom → Prop} {l l' : List α} (hp : l.Perm l') : ∀ {L : List Atom}, Each P l L → ∃ L', Each P l' L' ∧ L.Perm L' := by
  induction hp with
  | nil => intro L h; exact ⟨L, h, .refl _⟩
  | cons x _ ih => intro L h; cases h with | cons hx h => obtain ⟨L', h1, h2⟩ := ih h; exact ⟨_, .cons hx h1, .cons _ h2⟩
  | swap x y l => intro L h; cases h with | cons hx h => cases h with | cons hy h => exact ⟨_, .cons hy (.cons hx h), .swap _ _ _⟩
  | trans _ _ ih1 ih2 => intro L h; obtain ⟨L1, h1, p1⟩ := ih1 h; obtain ⟨L2, h2, p2⟩ := ih2 h1; exact ⟨L2, h2, p1.trans p2⟩
theorem Each.mem {α : Type} {P : α → Atom → Prop} {l : List α} {L : List Atom} (h : Each P l L) {x : α} (hx : x ∈ l) : ∃ a ∈ L, P x a := by
  induction h with
  | nil => cases hx
  | cons hp _ ih =>
    rcases List.mem_cons.1 hx with rfl | hx
    · exact ⟨_, List.mem_cons_self .., hp⟩
    · obtain ⟨a, ha, hp⟩ := ih hx; exact ⟨a, List.mem_cons_of_mem _ ha, hp⟩
/-- As many things as a list has members, as one. -/
def Atom.each {α : Type} (P : α → Atom → Prop) (B : Nat → Prop) (l : List α) : Atom := .exs B (Each P l)
variable {α : Type} {P : α → Atom → Prop} {B : Nat → Prop} {l l' : List α} {x : α}
theorem Now.eachPerm (h : Now w0 F w (.each P B l :: R)) (hp : l.Perm l') : Now w0 F w (.each P B l' :: R) := h.retell (fun ⟨L, hL, hN⟩ => by
  obtain ⟨L', h1, h2⟩ := hL.perm hp
  exact ⟨L', h1, hN.perm h2⟩) (fun _ h => h)
theorem Now.eachUncons (h : Now w0 F w (.each P B (x :: l) :: R)) : ∃ a B', P x a ∧ Now w0 F w (a :: .each P B' l :: R) := by
  obtain ⟨L, hL, hN⟩ := h.exsOpen
  cases hL with
  | cons hx hl =>
    rename_i a L
    refine ⟨a, foots L, hx, ?_⟩
    have h1 : Now w0 F w (L ++ (a :: R)) := hN.perm List.perm_middle.symm
    have h2 := h1.exsShut (Each P l) hl
    exact h2.perm (.swap _ _ _)
theorem Now.eachCons (hx : P x a) (h : Now w0 F w (a :: .each P B l :: R)) : ∃ B', Now w0 F w (.each P B' (x :: l) :: R) := by
  have h1 : Now w0 F w (.each P B l :: a :: R) := h.perm (.swap _ _ _)
  obtain ⟨L, hL, hN⟩ := h1.exsOpen
  have h2 : Now w0 F w ((a :: L) ++ R) := hN.perm List.perm_middle
  exact ⟨_, h2.exsShut (Each P (x :: l)) (.cons hx hL)⟩
theorem Now.eachNil (h : Now w0 F w R) (P : α → Atom → Prop) : Now w0 F w (.each P none_ [] :: R) :=
  Now.exsShutB (L := []) _ Each.nil (fun k => ⟨fun e => e.elim, fun ⟨a, ha, _⟩ => by cases ha⟩) h
/-- The i-th is taken out. -/
theorem perm_eraseIdx {l : List α} {i : Nat} {x : α} (h : l[i]? = some x) : l.Perm (x :: l.eraseIdx i) := by
  induction l generalizing i with
  | nil => simp at h
  | cons y l ih =>
    cases i with
    | zero => simp at h; subst h; exact .refl _
    | succ i => simp at h; exact (List.Perm.cons y (ih h)).trans (.swap _ _ _)
theorem perm_set {l : List α} {i : Nat} {x y : α} (h : l[i]? = some x) : (y :: l.eraseIdx i).Perm (l.set i y) := by
  induction l generalizing i with
  | nil => simp at h
  | cons z l ih =>
    cases i with
    | zero => simp
    | succ i => simp at h; simp only [List.eraseIdx_cons_succ, List.set_cons_succ]; exact (List.Perm.swap _ _ _).trans (.cons z (ih h))
theorem Now.eachOut {i : Nat} (h : Now w0 F w (.each P B l :: R)) (hi : l[i]? = some x) : ∃ a B', P x a ∧ Now w0 F w (a :: .each P B' (l.eraseIdx i) :: R) := (h.eachPerm (perm_eraseIdx hi)).eachUncons
theorem Now.eachIn {i : Nat} {y : α} (hx : P y a) (hi : l[i]? = some x) (h : Now w0 F w (a :: .each P B (l.eraseIdx i) :: R)) : ∃ B', Now w0 F w (.each P B' (l.set i y) :: R) := by
  obtain ⟨B', h'⟩ := h.eachCons hx
  exact ⟨B', h'.eachPerm (perm_set hi)⟩
end
end Go.Rl

/- Slices whose elements have several cells. Nothing here names a program. -/
set_option linter.unusedVariables false
set_option linter.unusedSimpArgs false
namespace Go.Rl
open Go.RowKit
theorem flatMap_get {α β : Type} {cf : α → List β} {s : Nat} (hs : ∀ a, (cf a).length = s) : ∀ {l : List α} {m : Nat} {a : α} {j : Nat}, l[m]? = some a → j < s → (l.flatMap cf)[m * s + j]? = (cf a)[j]? := by
  intro l
  induction l with
  | nil => intro m a j h; simp at h
  | cons x r ih =>
    intro m a j h hj
    cases m with
    | zero => simp at h; subst h; rw [List.flatMap_cons, Nat.zero_mul, Nat.zero_add, List.getElem?_append_left (by rw [hs]; exact hj)]
    | succ m =>
      simp at h
      have e : (m + 1) * s + j = s + (m * s + j) := by rw [Nat.succ_mul]; omega
      rw [List.flatMap_cons, e, List.getElem?_append_right (by rw [hs]; omega), hs, Nat.add_sub_cancel_left, ih h hj]
theorem flatMap_len {α β : Type} {cf : α → List β} {s : Nat} (hs : ∀ a, (cf a).length = s) (l : List α) : (l.flatMap cf).length = l.length * s := by
  induction l with
  | nil => simp
  | cons x r ih => rw [List.flatMap_cons, List.length_append, hs, ih, List.length_cons, Nat.succ_mul]; omega
section
variable {α : Type} {cf : α → List Value} {s : Nat}
/-- The slice value v reads, in world w, as the list l; an element a lies in the cells cf a. -/
def Sm (cf : α → List Value) (w : World) (v : Value) (l : List α) : Prop := ∃ A c, v = .slice A l.length c ∧ l.length ≤ c ∧ c ≤ maxLen ∧ Cells w A (l.flatMap cf)
theorem Sm.nil (cf : α → List Value) (w : World) : Sm cf w (.slice none 0 0) [] := ⟨none, 0, rfl, Nat.le_refl _, by unfold maxLen; omega, Cells.nil _ _⟩
theorem Sm.mod {M : Nat → Prop} {w w' : World} {v : Value} {l : List α} (h : Sm cf w v l) (hm : Mod M w w') (hb : ∀ k, v.ownBlock = some k → ¬ M k) : Sm cf w' v l := by
  obtain ⟨A, c, rfl, h1, h2, hc⟩ := h
  refine ⟨A, c, rfl, h1, h2, hc.mod hm ?_⟩
  rintro ad rfl
  exact hb _ rfl
theorem Sm.ext {w w' : World} {v : Value} {l : List α} (h : Sm cf w v l) (hm : Ext w w') : Sm cf w' v l := h.mod hm (fun _ _ e => e)
theorem Sm.off {M : Nat → Prop} {w w' : World} {v : Value} {l : List α} (h : Sm cf w v l) (ho : Off M v l) (hm : Mod M w w') : Sm cf w' v l := by
  by_cases hl : l = []
  · subst hl
    obtain ⟨A, c, h1, h2, h3, h4⟩ := h
    exact ⟨A, c, h1, h2, h3, Cells.nil _ _⟩
  · exact h.mod hm (ho hl)
theorem Sm.len_le {w : World} {v : Value} {l : List α} (h : Sm cf w v l) : l.length ≤ 9223372036854775807 := by
  obtain ⟨A, c, rfl, h1, h2, _⟩ := h; unfold maxLen at h2; omega
theorem Sm.lt {w : World} {v : Value} {l : List α} (h : Sm cf w v l) (hs : ∀ a, cf a ≠ []) (hl : l ≠ []) : ∀ k, v.ownBlock = some k → k < w.heap.size := by
  obtain ⟨A, c, rfl, h1, h2, hc⟩ := h
  intro k hk
  cases l with
  | nil => exact absurd rfl hl
  | cons x xs =>
    cases hx : cf x with
    | nil => exact absurd hx (hs x)
    | cons u us =>
      obtain ⟨ad, rfl, hu⟩ := hc 0 u (by simp [hx])
      have := block_lt_of_cell hu
      rw [block_add] at this
      simp [Value.ownBlock] at hk
      omega
theorem Sm.cells1 {w : World} {v : Value} {l : List α} (h : Sm cf w v l) : v.cells = #[v] := by obtain ⟨A, c, rfl, _⟩ := h; rfl
theorem Sm.one1 {w : World} {v : Value} {l : List α} (h : Sm cf w v l) : v.oneCell' = true := by obtain ⟨A, c, rfl, _⟩ := h; rfl
theorem Sm.hd {w : World} {v : Value} {l : List α} (h : Sm cf w v l) : ∃ a : Hd, v = vh a := by obtain ⟨A, c, rfl, _⟩ := h; exact ⟨(A, l.length, c), rfl⟩
/-- A slice of the call's own. -/
def OwnM (cf : α → List Value) (s : Nat) (E : TypeId) (w : World) (base : Nat) (v : Value) (l : List α) : Prop := w.ownsRow base E s v l.length (l.flatMap cf)
theorem OwnM.nil (cf : α → List Value) (s : Nat) (E : TypeId) (w : World) (base : Nat) : OwnM cf s E w base (.slice none 0 0) [] := World.ownsRow_nil _ _ _ _
theorem OwnM.sm {E : TypeId} {w : World} {base : Nat} {v : Value} {l : List α} (h : OwnM cf s E w base v l) : Sm cf w v l := by
  rcases h.2 with ⟨rfl, h0⟩ | ⟨g, cap, cur, rfl, hb, hh, h1, h2, h3, h4⟩
  · have : l = [] := List.eq_nil_of_length_eq_zero h0
    subst this
    exact Sm.nil _ _
  · refine ⟨_, cap, rfl, h1, h2, fun j v hv => ⟨_, rfl, ?_⟩⟩
    exact World.ownsRow.cells h (g := g) rfl j v hv
theorem OwnM.mod {E : TypeId} {M : Nat → Prop} {w w' : World} {base : Nat} {v : Value} {l : List α} (h : OwnM cf s E w base v l) (hm : Mod M w w') (hb : ∀ k, v.ownBlock = some k → ¬ M k) : OwnM cf s E w' base v l := by
  unfold OwnM World.ownsRow at *
  refine ⟨h.1, h.2.imp id ?_⟩
  rintro ⟨g, cap, cur, rfl, hb', hh, hr⟩
  exact ⟨g, cap, cur, rfl, hb', hm.heap hh (hb g rfl), hr⟩
theorem OwnM.lt {E : TypeId} {w : World} {base : Nat} {v : Value} {l : List α} (h : OwnM cf s E w base v l) : ∀ k, v.ownBlock = some k → base ≤ k ∧ k < w.heap.size := World.ownsRow.lt h
theorem OwnM.lower {E : TypeId} {w : World} {base base' : Nat} {v : Value} {l : List α} (h : OwnM cf s E w base v l) (hb : base' ≤ base) : OwnM cf s E w base' v l := by
  unfold OwnM World.ownsRow at *
  refine ⟨h.1, h.2.imp id ?_⟩
  rintro ⟨g, cap, cur, rfl, hb', hr⟩
  exact ⟨g, cap, cur, rfl, Nat.le_trans hb hb', hr⟩
theorem OwnM.lift {E : TypeId} {w : World} {v : Value} {l : List α} {base base' : Nat} (h : OwnM cf s E w base v l) (hb : ∀ k, v.ownBlock = some k → base' ≤ k) : OwnM cf s E w base' v l := by
  unfold OwnM World.ownsRow at *
  refine ⟨h.1, h.2.imp id ?_⟩
  rintro ⟨g, cap, cur, rfl, _, hr⟩
  exact ⟨g, cap, cur, rfl, hb g rfl, hr⟩
def Atom.ownm (cf : α → List Value) (s : Nat) (E : TypeId) (v : Value) (l : List α) : Atom where
  foot k := v.ownBlock = some k
  says w := OwnM cf s E w 0 v l
  keep := by
    intro w w' h hs
    unfold OwnM World.ownsRow at *
    refine ⟨hs.1, hs.2.imp id ?_⟩
    rintro ⟨g, cap, cur, rfl, hb', hh, hr⟩
    exact ⟨g, cap, cur, rfl, hb', (h g rfl (Array.getElem?_eq_some_iff.1 hh).1).trans hh, hr⟩
end
section
variable {P : Program} {n : Nat} {Q : Post} {R : Nat → Value} {w0 w : World} {F : Nat → Prop} {L : List Atom} {K : Value → World → Prop} {dst : Option Tmp} {ty : TypeId} {pos : String} {af : Array Edge} {gd : Option (Nat × Bool)}
universe u
variable {α : Type} {cf : α → List Value} {s : Nat}
theorem set_self {α : Type u} {l : List α} {i : Nat} {a : α} (h : l[i]? = some a) : l.set i a = l := by
  obtain ⟨hi, rfl⟩ := List.getElem?_eq_some_iff.1 h
  exact List.set_getElem_self hi
theorem Now.ownm (h : Now w0 F w L) (i : Nat) {E : TypeId} {v : Value} {l : List α} (hi : L[i]? = some (.ownm cf s E v l)) : OwnM cf s E w 0 v l := h.says i _ hi
theorem Now.sm (h : Now w0 F w L) (i : Nat) {E : TypeId} {v : Value} {l : List α} (hi : L[i]? = some (.ownm cf s E v l)) : Sm cf w v l := (h.ownm i hi).sm
theorem Now.ownmOut (h : Now w0 none_ w L) (i : Nat) {E : TypeId} {v : Value} {l : List α} (hi : L[i]? = some (.ownm cf s E v l)) : OwnM cf s E w w0.heap.size v l :=
  (h.ownm i hi).lift fun k hk => (h.low i _ hi k hk).1.elim (fun e => e.elim) id
theorem Now.addNilM (h : Now w0 F w L) (cf : α → List Value) (s : Nat) (E : TypeId) : Now w0 F w (.ownm cf s E (.slice none 0 0) [] :: L) :=
  h.add (OwnM.nil _ _ _ _ _) (fun k hk => by cases hk) (fun _ _ _ _ _ hk => by cases hk)
theorem Now.pushOwnM (h : Now w0 F w L) {w' : World} {E : TypeId} {v : Value} {l : List α} (ho : OwnM cf s E w' w.heap.size v l) (he : Ext w w') : Now w0 F w' (.ownm cf s E v l :: L) :=
  h.push he (ho.lower (Nat.zero_le _)) (fun k hk => ho.lt k hk)
theorem Now.relistM {E : TypeId} {v : Value} {l m : List α} (h : Now w0 F w L) (i : Nat) (hi : L[i]? = some (.ownm cf s E v l)) (e : l = m) : Now w0 F w (L.set i (.ownm cf s E v m)) := by
  subst e
  rw [set_self hi]; exact h
theorem ev_lenM {t : TypeId} {x : Operand} {v : Value} {l : List α} {e : TypeId} (ht : P.underlying t = some (.slice e)) (hs : Sm cf w v l) (hx : ev R x = v) :
    Ev P ⟨dst, .call ⟨.builtin .len, #[x], #[t]⟩, ty, pos, af, gd⟩ R w (.int .i64 l.length) := by
  obtain ⟨A, c, rfl, _⟩ := hs
  exact ev_len ht hx
theorem Sm.at (hcf : ∀ a, (cf a).length = s) {v : Value} {l : List α} {m j : Nat} {a : α} {u : Value} (h : Sm cf w v l) (hm : l[m]? = some a) (hj : (cf a)[j]? = some u) :
    ∃ ad c, v = .slice (some ad) l.length c ∧ elemAddr v (m * s + j) = .pointer (some (ad.add (m * s + j))) ∧ w.cell? (ad.add (m * s + j)) = some u := by
  obtain ⟨A, c, rfl, h1, h2, hc⟩ := h
  have hjs : j < s := by rw [← hcf a]; exact (List.getElem?_eq_some_iff.1 hj).1
  obtain ⟨ad, rfl, hcell⟩ := hc (m * s + j) u (by rw [flatMap_get hcf hm hjs, hj])
  exact ⟨ad, c, rfl, rfl, hcell⟩
theorem ev_indexM {t e : TypeId} {x i : Operand} {v : Value} {l : List α} {k : IntKind} {m : Int} (ht : P.underlying t = some (.slice e)) (hsz : (P.info? e).map (·.size) = some s) (hcf : ∀ a, (cf a).length = s) (hpos : 0 < s)
    (hs : Sm cf w v l) (hx : ev R x = v) (hi : ev R i = .int k m) (h0 : 0 ≤ m) (h1 : m < l.length) : Ev P ⟨dst, .indexAddr t x i, ty, pos, af, gd⟩ R w (elemAddr v (m.toNat * s)) := by
  have hlt : m.toNat < l.length := by omega
  have hne : ∃ u, (cf l[m.toNat])[0]? = some u := ⟨_, List.getElem?_eq_getElem (by rw [hcf]; exact hpos)⟩
  obtain ⟨u, hu⟩ := hne
  obtain ⟨ad, c, rfl, _, _⟩ := hs.at hcf (List.getElem?_eq_getElem hlt) hu
  have hr : (0 ≤ m ∧ m < (l.length : Int)) := ⟨h0, h1⟩
  have hs0 : s ≠ 0 := by omega
  simp [Ev, elemAddr, execOp, hx, hi, Instr.indexAt, asIntOf, run_underlying ht, hr, size_of (w := w) hsz, hs0]
/-- x[m], all of it. -/
theorem ev_loadM {t : TypeId} {x : Operand} {v : Value} {l : List α} {m : Nat} {a : α} {d : TypeDesc} (hu : P.underlying t = some d) (hd : d.isRow = true) (hsz : (P.info? t).map (·.size) = some s) (hcf : ∀ a, (cf a).length = s) (hpos : 0 < s)
    (hs : Sm cf w v l) (hx : ev R x = elemAddr v (m * s)) (hm : l[m]? = some a) {cs : List Value} (hcs : cf a = cs) : Ev P ⟨dst, .load t x, ty, pos, af, gd⟩ R w (.agg cs.toArray) := by
  subst hcs
  have hne : ∃ u, (cf a)[0]? = some u := ⟨_, List.getElem?_eq_getElem (by rw [hcf]; exact hpos)⟩
  obtain ⟨u, hu0⟩ := hne
  obtain ⟨ad, c, rfl, he, _⟩ := hs.at hcf hm hu0
  rw [Nat.add_zero] at he
  have key : ∀ j u, (cf a)[j]? = some u → w.cell? ((ad.add (m * s)).add j) = some u := by
    intro j u hj
    obtain ⟨ad', c', h1, _, h3⟩ := hs.at hcf hm hj
    cases h1
    rw [add_add]; exact h3
  have hrow := run_loadCells_list (P := P) (w := w) (ad.add (m * s)) (cf a) key
  have hagg : (isAgg t).run P w = .ok true w := by
    unfold isAgg
    rw [Sem.run_bind, run_underlying hu w]
    cases d <;> simp_all [TypeDesc.isRow]
  rw [hcf a] at hrow
  simp [Ev, execOp, hx, he, Instr.loadAt, Instr.sureAddr, loadVar, hagg, size_of (w := w) hsz, hrow]
/-- &x[m].f -/
theorem ev_fieldM {t : TypeId} {x : Operand} {v : Value} {l : List α} {m f : Nat} {a : α} {u : Value} {fs : Array Field} {fd : Field} (ht : P.underlying t = some (.struct fs)) (hf : fs[f]? = some fd) {z : Nat} (hsz : (P.info? fd.type).map (·.size) = some z) (hz : z ≠ 0)
    (hcf : ∀ a, (cf a).length = s) (hs : Sm cf w v l) (hm : l[m]? = some a) (hj : (cf a)[0]? = some u) {b : Nat} (hx : ev R x = elemAddr v (m * s + b)) : Ev P ⟨dst, .fieldAddr t x f, ty, pos, af, gd⟩ R w (elemAddr v (m * s + (b + fd.offset))) := by
  obtain ⟨ad, c, rfl, he, _⟩ := hs.at hcf hm hj
  simp [Ev, elemAddr, execOp, hx, Instr.fieldAt, Instr.sureAddr, run_underlying ht, hf, fieldPlace, size_of (w := w) hsz, hz, add_add, Nat.add_assoc]
/-- x[m].f -/
theorem ev_loadMF {t : TypeId} {x : Operand} {v : Value} {l : List α} {m j : Nat} {a : α} {u : Value} {d : TypeDesc} (ht : P.underlying t = some d) (hd : (match d with | .struct _ | .array _ _ => false | _ => true) = true)
    (hcf : ∀ a, (cf a).length = s) (hs : Sm cf w v l) (hx : ev R x = elemAddr v (m * s + j)) (hm : l[m]? = some a) (hj : (cf a)[j]? = some u) : Ev P ⟨dst, .load t x, ty, pos, af, gd⟩ R w u := by
  obtain ⟨ad, c, rfl, he, hcell⟩ := hs.at hcf hm hj
  rw [he] at hx
  exact ev_load ht hd hx hcell
theorem opN_appendM {t e : TypeId} {x y : Operand} {v u : Value} {l m : List α} {z : Value} {bytes : Nat} (ht : P.underlying t = some (.slice e))
    (hinfo : (P.info? e).map (fun i => (i.zero, i.size, i.bytes)) = some (some z, s, bytes)) (hz : z.cells.size = s) (hpos : 0 < s) (h1 : ∀ a, ∀ u ∈ cf a, u.oneCell' = true) (hcf : ∀ a, (cf a).length = s)
    (hN : Now w0 F w L) (i : Nat) (hi : L[i]? = some (.ownm cf s e v l)) (hx : ev R x = v) (hu : Sm cf w u m) (hy : ev R y = u) (hlen : (l.length + m.length) * bytes ≤ 140737488355328) (hbytes : 0 < bytes)
    (h : ∀ v' w', Now w0 F w' (L.set i (.ownm cf s e v' (l ++ m))) → K v' w') :
    OpR P ⟨dst, .call ⟨.builtin .append, #[x, y], #[t, t]⟩, ty, pos, af, gd⟩ R w K := by
  obtain ⟨A, c, rfl, hlc, hm, hc⟩ := hu
  have hinf : ∃ i, P.info? e = some i ∧ i.zero = some z ∧ i.size = s ∧ i.bytes = bytes := by
    cases hq : P.info? e with
    | none => simp [hq] at hinfo
    | some i => simp [hq] at hinfo; exact ⟨i, rfl, hinfo⟩
  obtain ⟨j, hj, hi1, hi2, hi3⟩ := hinf
  have hown := hN.ownm i hi
  have hbig : l.length + m.length ≤ maxLen := by
    unfold maxLen
    have : (l.length + m.length) * 1 ≤ (l.length + m.length) * bytes := Nat.mul_le_mul_left _ hbytes
    omega
  have hall : ∀ u ∈ m.flatMap cf, u.oneCell' = true := fun u hu => by
    obtain ⟨a, _, hu⟩ := List.mem_flatMap.1 hu
    exact h1 a u hu
  cases A with
  | some ad =>
    obtain ⟨v', w', hrun, hown', hgrow, _, hblk⟩ := run_append_own_at (P := P) (w := w) 0 t ty e j z s bytes ht hj hi1 hi2 hi3 hz hpos v l.length (l.flatMap cf) hown ad m.length c (m.flatMap cf) (flatMap_len hcf m)
      (fun j u hj => by obtain ⟨ad', h', hcell⟩ := hc j u hj; cases h'; exact hcell) hall hbig hlen (Nat.zero_le _)
    have ho : OwnM cf s e w' 0 v' (l ++ m) := by unfold OwnM; rw [List.flatMap_append, List.length_append]; exact hown'
    refine OpR.value (v := v') (w' := w') ?_ (h v' w' (hN.upd i hi (Mod.of_grown hgrow) ho fun k hk' => ?_))
    · simp [execOp, resolve, invoke, builtin, hx, hy, hrun]
    · have hlt := (ho.lt k hk').2
      refine ⟨?_, hlt⟩
      rcases hblk with e | e
      · exact .inl (e.symm.trans hk')
      · exact .inr (Nat.le_of_eq (Option.some.inj (e.symm.trans hk')))
  | none =>
    have hm0 : m = [] := by
      cases m with
      | nil => rfl
      | cons a r =>
        have hne : ∃ u, (cf a)[0]? = some u := ⟨_, List.getElem?_eq_getElem (by rw [hcf]; exact hpos)⟩
        obtain ⟨u, hu0⟩ := hne
        obtain ⟨ad, h', _⟩ := hc 0 u (by
          have := flatMap_get hcf (l := a :: r) (m := 0) (a := a) (j := 0) rfl hpos
          simp only [Nat.zero_mul, Nat.zero_add] at this
          rw [this, hu0])
        cases h'
    subst hm0
    have hrun : (Builtin.append_ #[t, t] ty #[v, .slice none 0 c]).run P w = .ok v w := by
      obtain ⟨A', c', rfl, hl', hm', _⟩ := hown.sm
      have hle : l.length ≤ c' := hl'
      cases A' <;> simp [Builtin.append_, run_underlying ht, sizeOf, typeInfo, hj, hi2, Builtin.lenOf, Builtin.firstCells, hle, storeCells]
    have hset : L.set i (.ownm cf s e v (l ++ [])) = L := by rw [List.append_nil]; exact set_self hi
    refine OpR.value (v := v) (w' := w) ?_ (h v w (by rw [hset]; exact hN))
    simp only [List.length_nil] at hy
    simp [execOp, resolve, invoke, builtin, hx, hy, hrun]
/-- A literal. -/
theorem opN_litM {t e : TypeId} {len : Nat} {parts : Array (Nat × Operand)} {pl : List (Nat × Operand)} {ps : List (Nat × Value)} {z : Value} {zc : List Value} {l : List α} (ht : P.underlying t = some (.slice e))
    {bytes : Nat} (hinfo : (P.info? e).map (fun i => (i.zero, i.size, i.bytes)) = some (some z, s, bytes)) (hzc : (Array.range (len * s)).map (z.cells[· % z.cells.size]!) = zc.toArray) (hp : parts.toList = pl) (hps : (pl.map fun (i, x) => (i, ev R x)) = ps)
    (hf : Instr.fill (fun i => some (i * s, s)) zc.toArray ps = some (l.flatMap cf).toArray) (hcf : ∀ a, (cf a).length = s) (hlen : len = l.length) (hpos : 0 < len) (hs0 : 0 < s) (hsmall : len * s ≤ 2 ^ 24) (hN : Now w0 F w L)
    (h : ∀ g w', Now w0 F w' (.ownm cf s e (.slice (some ⟨g, 0, none⟩) len len) l :: L) → K (.slice (some ⟨g, 0, none⟩) len len) w') :
    OpR P ⟨dst, .buildSlice t len parts, ty, pos, af, gd⟩ R w K := by
  cases hie : P.info? e with
  | none => simp [hie] at hinfo
  | some ie =>
    simp only [hie, Option.map_some, Option.some.injEq, Prod.mk.injEq] at hinfo
    obtain ⟨hzz, hsz, _⟩ := hinfo
    have hpe : (parts.map fun (i, x) => (i, ev R x)).toList = ps := by rw [Array.toList_map, hp, ← hps]
    have hf' : Instr.fill (fun i => some (i * ie.size, ie.size)) ((Array.range (len * ie.size)).map (z.cells[· % z.cells.size]!)) (parts.map fun (i, x) => (i, ev R x)).toList = some (l.flatMap cf).toArray := by
      rw [hpe, hsz, hzc]; exact hf
    have hpos2 : 0 < len * s := Nat.mul_pos hpos hs0
    have hrun := run_buildSlice (P := P) w t e len (parts.map fun (i, x) => (i, ev R x)) _ ie z ht hie hzz (by rw [hsz]; omega) (by rw [hsz]; omega) hf'
    have hle : len ≤ len * s := Nat.le_mul_of_pos_right _ hs0
    have ho : OwnM cf s e (w.alloc (.cells (l.flatMap cf).toArray e)) w.heap.size (.slice (some ⟨w.heap.size, 0, none⟩) len len) l := by
      unfold OwnM
      subst hlen
      have hfl := flatMap_len hcf l
      refine ⟨by rw [hfl], .inr ⟨w.heap.size, l.length, (l.flatMap cf).toArray, rfl, Nat.le_refl _, ?_, Nat.le_refl _, by unfold maxLen; omega, by simp [hfl], ?_⟩⟩
      · rw [heap_alloc_new]
      · rw [List.take_of_length_le (by simp [hfl])]
    refine OpR.value (v := .slice (some ⟨w.heap.size, 0, none⟩) len len) (w' := w.alloc (.cells (l.flatMap cf).toArray e)) ?_ (h _ _ (hN.pushOwnM ho (Ext.alloc _ _)))
    simp [execOp, hrun]
/-- x.f of a struct value. -/
theorem ev_fieldV {t : TypeId} {x : Operand} {cs vs : List Value} {f : Nat} {v : Value} {fs : Array Field} {fd : Field} (ht : P.underlying t = some (.struct fs)) (hx : ev R x = .agg cs.toArray) (h : (execOp (fun _ => Value.agg cs.toArray) ⟨none, .field t x f, ty, pos, af, gd⟩).run P w = .ok (.value v) w) :
    Ev P ⟨dst, .field t x f, ty, pos, af, gd⟩ R w v := by
  unfold Ev
  simp only [execOp, hx] at h ⊢
  exact h
end
end Go.Rl

/- A map's entries, one behind the other, in whatever order. Nothing here names a program. -/
set_option linter.unusedVariables false
set_option linter.unusedSimpArgs false
set_option linter.unusedSectionVars false
namespace Go.Rl
open Go.RowKit Go.ChangeMaps
def Atom.iter (g m since : Nat) (seen : List Nat) (c0 : Nat) : Atom where
  foot k := k = g
  says w := w.heap[g]? = some (.mapIter (some m) since seen.toArray c0)
  keep := by
    intro w w' h hs
    exact (h g rfl (Array.getElem?_eq_some_iff.1 hs).1).trans hs
section
variable {P : Program} {n : Nat} {Q : Post} {R : Nat → Value} {w0 w : World} {F : Nat → Prop} {L : List Atom} {K : Value → World → Prop} {dst : Option Tmp} {ty : TypeId} {pos : String} {af : Array Edge} {gd : Option (Nat × Bool)}
variable {κ : Type} [DecidableEq κ] {ke : κ → Value} {l done left : List (Ent κ)} {clock b : Nat}
theorem Now.iterAt {g m since c0 : Nat} {seen : List Nat} (h : Now w0 F w L) (i : Nat) (hi : L[i]? = some (.iter g m since seen c0)) : w.heap[g]? = some (.mapIter (some m) since seen.toArray c0) := h.says i _ hi
theorem opN_range {t kt et : TypeId} {x : Operand} (ht : P.underlying t = some (.map kt et)) (hb : w.heap[b]? = some (.map (ents ke l) clock)) (hx : ev R x = .map (some b)) (hN : Now w0 F w L)
    (h : ∀ g w', Now w0 F w' (.iter g b clock [] clock :: L) → K (.pointer (some ⟨g, 0, none⟩)) w') : OpR P ⟨dst, .range t x, ty, pos, af, gd⟩ R w K := by
  refine OpR.value (v := .pointer (some ⟨w.heap.size, 0, none⟩)) (w' := w.alloc (.mapIter (some b) clock #[] clock)) ?_ (h _ _ (hN.push (Ext.alloc _ _) ?_ fun k hk => ?_))
  · have := run_range_map (P := P) w t kt et b (ents ke l) clock ht hb
    simp [execOp, hx, this]
  · show (w.alloc (.mapIter (some b) clock #[] clock)).heap[w.heap.size]? = _
    rw [heap_alloc_new]
  · cases hk; simp
theorem opN_next {x : Operand} {g since c0 : Nat} {tw : TypeId} (hN : Now w0 F w L) (i : Nat) (hi : L[i]? = some (.iter g b since (done.map (·.2.2)) c0)) (hb : w.heap[b]? = some (.map (ents ke l) clock)) (hx : ev R x = .pointer (some ⟨g, 0, none⟩))
    (hp : l.Perm (done ++ left)) (hn : (l.map (·.2.2)).Nodup) (hs : ∀ e ∈ l, e.2.2 < since) (hc : since ≤ c0) (hcl : since ≤ clock)
    (h1 : left = [] → K (.tuple #[.bool false]) w)
    (h2 : ∀ e r1 r2, left = r1 ++ e :: r2 → ∀ w', Now w0 F w' (L.set i (.iter g b since ((done ++ [e]).map (·.2.2)) clock)) → K (.tuple #[.bool true, ke e.1, e.2.1]) w') : OpR P ⟨dst, .next x false, ty, pos, af, gd⟩ R w K := by
  have hr : w.heap[g]? = some (.mapIter (some b) since (done.map (·.2.2)).toArray c0) := hN.says i _ hi
  have hmem : ∀ e, e ∈ (ents ke l).toList ↔ ∃ a ∈ l, e = ⟨ke a.1, a.2.1, a.2.2⟩ := fun e => by simp [ents, eq_comm]
  have hnd : ((done ++ left).map (·.2.2)).Nodup := (hp.map _).nodup_iff.1 hn
  have hleft : ∀ e, e ∈ (leftOf (ents ke l) (done.map (·.2.2)).toArray).toList ↔ ∃ a ∈ left, e = ⟨ke a.1, a.2.1, a.2.2⟩ := by
    intro e
    simp only [leftOf, Array.toList_filter, List.mem_filter, hmem]
    constructor
    · rintro ⟨⟨a, ha, rfl⟩, hq⟩
      refine ⟨a, ?_, rfl⟩
      rcases List.mem_append.1 (hp.mem_iff.1 ha) with h | h
      · exfalso
        simp at hq
        exact hq a.1 a.2.1 h
      · exact h
    · rintro ⟨a, ha, rfl⟩
      refine ⟨⟨a, hp.mem_iff.2 (List.mem_append_right _ ha), rfl⟩, ?_⟩
      simp only [List.map_append, List.nodup_append] at hnd
      simp
      intro x1 x2 hx
      exact hnd.2.2 _ (List.mem_map.2 ⟨_, hx, rfl⟩) _ (List.mem_map.2 ⟨_, ha, rfl⟩) rfl
  rcases run_next_at (P := P) w ty g b since c0 (done.map (·.2.2)).toArray (ents ke l) clock hr hb (fun e he => by obtain ⟨a, ha, rfl⟩ := (hmem e).1 he; exact hs a ha) hc with ⟨h0, hrun⟩ | ⟨e, he, w1, hw1, hrun⟩
  · refine OpR.value (v := .tuple #[.bool false]) (w' := w) (by simp [execOp, hx, hrun]) (h1 ?_)
    cases hl : left with
    | nil => rfl
    | cons a r =>
      exfalso
      have := (hleft ⟨ke a.1, a.2.1, a.2.2⟩).2 ⟨a, by rw [hl]; exact List.mem_cons_self .., rfl⟩
      have h3 : (leftOf (ents ke l) (done.map (·.2.2)).toArray) = #[] := Array.eq_empty_of_size_eq_zero h0
      rw [h3] at this
      simp at this
  · obtain ⟨a, ha, rfl⟩ := (hleft e).1 he
    obtain ⟨r1, r2, hr12⟩ := List.append_of_mem ha
    have hN1 : Now w0 F w1 L := by
      rcases hw1 with rfl | rfl
      · exact hN
      · exact hN.ext (Ext.drew _)
    have hr1 : w1.heap[g]? = some (.mapIter (some b) since (done.map (·.2.2)).toArray c0) := hN1.says i _ hi
    have hlt : g < w1.heap.size := (Array.getElem?_eq_some_iff.1 hr1).1
    have hst := MapKept.heap_set (o' := .mapIter (some b) since ((done.map (·.2.2)).toArray.push a.2.2) clock) hr1
    refine OpR.value (v := .tuple #[.bool true, ke a.1, a.2.1]) (w' := setBlock w1 g (.mapIter (some b) since ((done.map (·.2.2)).toArray.push a.2.2) clock)) (by simp [execOp, hx, hrun]) (h2 a r1 r2 hr12 _ ?_)
    refine hN1.upd i hi ⟨rfl, rfl, rfl, by simp [setBlock], fun k _ hM => hst.2 k hM⟩ ?_ fun k hk => ⟨.inl hk, by cases hk; simpa [setBlock] using hlt⟩
    show (setBlock w1 g _).heap[g]? = _
    have := hst.1
    simp only [setBlock]
    rw [this]
    simp
theorem ev_entry {x : Operand} {g since c0 : Nat} {e : Ent κ} (hr : w.heap[g]? = some (.mapIter (some b) since ((done ++ [e]).map (·.2.2)).toArray clock)) (hb : w.heap[b]? = some (.map (ents ke l) clock)) (hx : ev R x = .pointer (some ⟨g, 0, none⟩))
    (he : e ∈ l) (hn : (l.map (·.2.2)).Nodup) : Ev P ⟨dst, .entry x, ty, pos, af, gd⟩ R w (.tuple #[ke e.1, e.2.1]) := by
  have hr' : w.heap[g]? = some (.mapIter (some b) since ((done.map (·.2.2)).toArray.push e.2.2) clock) := by rw [hr]; simp
  have := run_entry_at (P := P) w g b since (done.map (·.2.2)).toArray (ents ke l) clock ⟨ke e.1, e.2.1, e.2.2⟩ hr' hb (by simp [ents]; exact ⟨_, _, _, he, rfl, rfl, rfl⟩) (by
    have : ((ents ke l).toList.map (·.born)) = l.map (·.2.2) := by simp [ents]
    rw [this]; exact hn)
  simp [Ev, execOp, hx, this]
end
end Go.Rl

/- append(x, make([]T, n)...); slices of one's own that are cut; literals without elements. Nothing here names a program. -/
set_option linter.unusedVariables false
set_option linter.unusedSimpArgs false
namespace Go.Rl
open Go.RowKit
theorem zeroCells_one (z : Value) (m : Nat) : Builtin.zeroCells #[z] m = (List.replicate m z).toArray := by
  apply Array.ext'
  simp only [Builtin.zeroCells, Array.toList_map, Array.toList_range, List.size_toArray, List.length_singleton, Nat.mul_one, Nat.mod_one]
  rw [show (List.range m).map (fun i => (#[z] : Array Value)[0]!) = (List.range m).map (fun _ => z) from rfl, List.map_const', List.length_range]
theorem run_append_zeros {P : Program} (w : World) (base : Nat) (t tk ty e : TypeId) (i : TypeInfo) (z : Value) (ht : P.underlying t = some (.slice e)) (htk : P.underlying tk = some (.int .i64)) (hi : P.info? e = some i) (hz : i.zero = some z)
    (hs1 : i.size = 1) (hzc : z.cells = #[z]) (hone : z.oneCell' = true) (hby : 0 < i.bytes) (v : Value) (n : Nat) (xs : List Value) (hown : w.ownsRow base e 1 v n xs) (m : Nat) (hbytes : (n + m) * i.bytes ≤ 140737488355328) (hbase : base ≤ w.heap.size) :
    ∃ v' w', (Builtin.append_ #[t, tk] ty #[v, .int .i64 (m : Int)]).run P w = .ok v' w' ∧ w'.ownsRow base e 1 v' (n + m) (xs ++ List.replicate m z) ∧ w.grownBy w' v.ownBlock ∧ (v'.ownBlock = v.ownBlock ∨ v'.ownBlock = some w.heap.size) := by
  have hsmall : n + m ≤ 140737488355328 := Nat.le_trans (Nat.le_mul_of_pos_right _ hby) hbytes
  have hwrap : IntKind.i64.wrap (m : Int) = (m : Int) := wrap_i64 (by omega) (by omega)
  have hneg : ¬ ((m : Int) < 0) := by omega
  have hmb : (m : Int) * (i.bytes : Int) ≤ 2 ^ 48 := by
    have h1 : m * i.bytes ≤ (n + m) * i.bytes := Nat.mul_le_mul_right _ (by omega)
    have h2 : ((m * i.bytes : Nat) : Int) ≤ 140737488355328 := by omega
    rw [Int.natCast_mul] at h2
    omega
  have hmb' : ¬ ((2 : Int) ^ 48 < (m : Int) * (i.bytes : Int)) := by omega
  have hmb'' : ¬ ((281474976710656 : Int) < (m : Int) * (i.bytes : Int)) := by omega
  have hxl : xs.length = n := by simpa using hown.1
  have hlen : (xs ++ List.replicate m z).length = (n + m) * 1 := by simp [hxl]
  have hzl : z.cells.size = 1 := by rw [hzc]; rfl
  have grown : ∀ (old : Nat), old < n + m → ∀ (row : Option Nat),
      (w.drew.alloc (.cells (xs.toArray ++ (List.replicate m z).toArray ++ Builtin.zeroCells z.cells (grownCap w (n + m) old e - (n + m))) e)).ownsRow base e 1
        (.slice (some ⟨w.heap.size, 0, none⟩) (n + m) (grownCap w (n + m) old e)) (n + m) (xs ++ List.replicate m z) ∧
      w.grownBy (w.drew.alloc (.cells (xs.toArray ++ (List.replicate m z).toArray ++ Builtin.zeroCells z.cells (grownCap w (n + m) old e - (n + m))) e)) row := by
    intro old ho row
    have hge := grownCap_ge w (n + m) old e
    have hcm : grownCap w (n + m) old e ≤ maxLen := grownCap_le_maxLen w (n + m) old e (by unfold maxLen; omega)
    refine ⟨⟨hlen, .inr ⟨w.heap.size, _, _, rfl, hbase, heap_alloc_new w.drew _, hge, hcm, ?_, ?_⟩⟩, ⟨rfl, rfl, rfl, by simp, fun k hk _ => heap_alloc_old w.drew _ hk⟩⟩
    · simp only [Array.size_append, List.size_toArray, size_zeroCells, hzl, hxl, List.length_replicate]
      omega
    · simp only [Array.toList_append, List.append_assoc]
      rw [← List.append_assoc, ← hlen]
      exact List.take_left
  rcases hown.2 with ⟨rfl, rfl⟩ | ⟨g, cap, cur, rfl, hbg, hg, hnc, hcm, hcs, htake⟩
  · have hx : xs = [] := List.eq_nil_of_length_eq_zero hxl
    subst hx
    by_cases hm : m = 0
    · subst hm
      refine ⟨.slice none 0 0, w, ?_, World.ownsRow_nil w base e 1, ⟨rfl, rfl, rfl, Nat.le_refl _, fun _ _ _ => rfl⟩, Or.inl rfl⟩
      simp [Builtin.append_, run_underlying ht, run_underlying htk, sizeOf, typeInfo, hi, asIntOf, asInt]
      simp [IntKind.wrap, IntKind.bits, IntKind.signed]
    · have hgr := grown 0 (by omega) (Value.ownBlock (.slice none 0 0))
      have hfit : ¬ (281474976710656 < Builtin.nextslicecap m 0 * i.bytes) := by rw [nextslicecap_zero (by omega)]; simp only [Nat.zero_add] at hbytes; omega
      have h63' : ¬ (9223372036854775807 < (m : Int)) := by omega
      simp only [Nat.zero_add, List.nil_append, Array.empty_append] at hgr
      refine ⟨_, _, ?_, by simpa using hgr.1, hgr.2, Or.inr rfl⟩
      simp [Builtin.append_, run_underlying ht, run_underlying htk, sizeOf, typeInfo, zeroValue, hi, hz, hs1, asInt, asIntOf, hwrap, hneg, hmb', hmb'', hm, h63', hfit, Question.forced, run_firstCells_none, newRow, grownCap, hzc, zeroCells_one]
  · by_cases hroom : n + m ≤ cap
    · have hst : (storeCells ((⟨g, 0, none⟩ : Addr).add n) (List.replicate m z)).run P w = .ok () (w.setRow g (cur.toList.take n ++ List.replicate m z ++ cur.toList.drop (n + m)).toArray) := by
        have := run_storeCells_at P g n e (List.replicate m z) 0 cur w hg (by simp only [List.length_replicate, Nat.mul_one] at hcs ⊢; omega) (fun u hu => by rw [List.eq_of_mem_replicate hu]; exact hone)
        simp only [Nat.add_zero, List.length_replicate] at this
        simpa [Addr.add_lit] using this
      refine ⟨.slice (some ⟨g, 0, none⟩) (n + m) cap, w.setRow g (cur.toList.take n ++ List.replicate m z ++ cur.toList.drop (n + m)).toArray, ?_, ⟨hlen, .inr ⟨g, cap, (cur.toList.take n ++ List.replicate m z ++ cur.toList.drop (n + m)).toArray, rfl, hbg, setRow_heap w g cur _ e _ hg, hroom, hcm, ?_, ?_⟩⟩, ⟨rfl, rfl, rfl, by simp, fun k _ hk => setRow_other w g k _ (fun e => hk (by simp [Value.ownBlock, e]))⟩, Or.inl rfl⟩
      · by_cases hm : m = 0
        · subst hm
          have hst0 : (storeCells ((⟨g, 0, none⟩ : Addr).add n) []).run P w = .ok () (w.setRow g (cur.toList.take n ++ List.replicate 0 z ++ cur.toList.drop (n + 0)).toArray) := hst
          have hroom0 : n ≤ cap := by omega
          simp only [Int.ofNat_zero] at hwrap
          simp [Builtin.append_, run_underlying ht, run_underlying htk, sizeOf, typeInfo, zeroValue, hi, hz, hs1, asInt, asIntOf, hwrap, hroom0] at hst0 ⊢
          rw [hst0]; rfl
        · simp [Builtin.append_, run_underlying ht, run_underlying htk, sizeOf, typeInfo, zeroValue, hi, hz, hs1, asInt, asIntOf, hwrap, hneg, hmb', hmb'', hm, hroom, hzc, zeroCells_one, hst]
      · simp only [List.size_toArray, List.length_append, List.length_take, List.length_drop, Array.length_toList, List.length_replicate]
        simp only [Nat.mul_one] at hcs
        omega
      · have h4 : cur.toList.take n = xs := by simpa using htake
        have h5 : (cur.toList.take n ++ List.replicate m z ++ cur.toList.drop (n + m)).toArray.toList = (xs ++ List.replicate m z) ++ cur.toList.drop (n + m) := by rw [h4]
        rw [h5, ← hlen]; exact List.take_left
    · have holds : ∀ j u, xs[j]? = some u → w.cell? ((⟨g, 0, none⟩ : Addr).add j) = some u := World.ownsRow.cells hown (g := g) rfl
      have hgr := grown cap (by omega) (Value.ownBlock (.slice (some ⟨g, 0, none⟩) n cap))
      have hfit : ¬ (281474976710656 < Builtin.nextslicecap (n + m) cap * i.bytes) := by have := growslice_fits (old := cap) (by omega) hbytes; omega
      have h63' : ¬ (9223372036854775807 < ((n : Int) + (m : Int))) := by omega
      have hm : m ≠ 0 := by omega
      have hfo := run_firstCells_some (P := P) w.drew 1 n ⟨g, 0, none⟩ n cap xs (by simpa using hxl) (by simpa using holds)
      refine ⟨_, _, ?_, hgr.1, hgr.2, Or.inr rfl⟩
      simp [Builtin.append_, run_underlying ht, run_underlying htk, sizeOf, typeInfo, zeroValue, hi, hz, hs1, asInt, asIntOf, hwrap, hneg, hmb', hmb'', hm, h63', hfit, hroom, Question.forced, hfo, newRow, grownCap, hzc, zeroCells_one]
section
variable {P : Program} {n : Nat} {Q : Post} {R : Nat → Value} {w0 w : World} {F : Nat → Prop} {L : List Atom} {K : Value → World → Prop} {dst : Option Tmp} {ty : TypeId} {pos : String} {af : Array Edge} {gd : Option (Nat × Bool)}
variable {α : Type} {enc : α → Value}
/-- append(x, make([]T, n)...) -/
theorem opN_appendZ {t tk e : TypeId} {s x : Operand} {v : Value} {l : List α} {z : α} {bytes : Nat} {m : Int} (ht : P.underlying t = some (.slice e)) (htk : P.underlying tk = some (.int .i64))
    (hinfo : (P.info? e).map (fun i => (i.zero, i.size, i.bytes)) = some (some (enc z), 1, bytes)) (hz : (enc z).cells = #[enc z]) (h1 : (enc z).oneCell' = true)
    (hN : Now w0 F w L) (i : Nat) (hi : L[i]? = some (.own enc e v l)) (hx : ev R s = v) (hy : ev R x = .int .i64 m) (h0 : 0 ≤ m) (hlen : (l.length + m.toNat) * bytes ≤ 140737488355328) (hbytes : 0 < bytes)
    (h : ∀ v' w', Now w0 F w' (L.set i (.own enc e v' (l ++ List.replicate m.toNat z))) → K v' w') :
    OpR P ⟨dst, .call ⟨.builtin .append, #[s, x], #[t, tk]⟩, ty, pos, af, gd⟩ R w K := by
  have hinf : ∃ i, P.info? e = some i ∧ i.zero = some (enc z) ∧ i.size = 1 ∧ i.bytes = bytes := by
    cases hq : P.info? e with
    | none => simp [hq] at hinfo
    | some i => simp [hq] at hinfo; exact ⟨i, rfl, hinfo⟩
  obtain ⟨j, hj, hi1, hi2, hi3⟩ := hinf
  have hs := hN.own i hi
  obtain ⟨v', w', hrun, hown, hgrow, hblk⟩ := run_append_zeros (P := P) w 0 t tk ty e j (enc z) ht htk hj hi1 hi2 hz h1 (by omega) v l.length (l.map enc) hs m.toNat (by rw [hi3]; exact hlen) (Nat.zero_le _)
  have hm : ((m.toNat : Nat) : Int) = m := by omega
  rw [hm] at hrun
  have ho : Own enc e w' 0 v' (l ++ List.replicate m.toNat z) := by unfold Own; simpa using hown
  refine OpR.value (v := v') (w' := w') ?_ (h v' w' (hN.upd i hi (Mod.of_grown hgrow) ho fun k hk' => ?_))
  · simp [execOp, resolve, invoke, builtin, hx, hy, hrun]
  · have hlt := (ho.lt k hk').2
    refine ⟨?_, hlt⟩
    rcases hblk with e | e
    · exact .inl (e.symm.trans hk')
    · exact .inr (Nat.le_of_eq (Option.some.inj (e.symm.trans hk')))
/-- A literal without elements, as a slice of one's own. -/
theorem opN_lit0O {t e : TypeId} {parts : Array (Nat × Operand)} (enc : α → Value) (ht : P.underlying t = some (.slice e)) (hsz : (P.info? e).map (·.size) = some 1) (hparts : parts = #[]) (hN : Now w0 F w L)
    (h : ∀ v w', Now w0 F w' (.own enc e v [] :: L) → K v w') : OpR P ⟨dst, .buildSlice t 0 parts, ty, pos, af, gd⟩ R w K := by
  subst hparts
  refine OpR.value (v := .slice (some ⟨w.heap.size, 0, none⟩) 0 0) (w' := w.alloc (.cells #[] e)) ?_ (h _ _ (hN.pushOwn (l := []) ?_ (Ext.alloc _ _)))
  · simp [execOp, Instr.buildSlice, run_underlying ht, size_of (w := w) hsz, Instr.fill, newRow]
    congr 2
    apply Array.ext'
    simp
  · unfold Own
    refine ⟨by simp, .inr ⟨w.heap.size, 0, #[], rfl, Nat.le_refl _, ?_, Nat.le_refl _, by unfold maxLen; omega, by simp, by simp⟩⟩
    rw [heap_alloc_new]
/-- x[:hi] of a slice of one's own is one's own. -/
theorem Now.ownCut (h : Now w0 F w L) (i : Nat) {E : TypeId} {v : Value} {l : List α} (hi : L[i]? = some (.own enc E v l)) (m : Nat) (hm : m ≤ l.length) : Now w0 F w (L.set i (.own enc E (cutV v 0 m) (l.take m))) :=
  h.turn i hi ((h.own i hi).take hm) (fun k hk => by
    change (cutV v 0 m).ownBlock = some k at hk
    rwa [cutV_block (h.own i hi).sl] at hk)
theorem ev_capNil {t e : TypeId} {x : Operand} (ht : P.underlying t = some (.slice e)) (hx : ev R x = .slice none 0 0) : Ev P ⟨dst, .call ⟨.builtin .cap, #[x], #[t]⟩, ty, pos, af, gd⟩ R w (.int .i64 0) := by
  simp [Ev, execOp, resolve, invoke, builtin, Builtin.cap_, hx, run_underlying ht, goInt]
theorem ev_cutNil {t e : TypeId} {x hi : Operand} {k' : IntKind} (ht : P.underlying t = some (.slice e)) (hsz : (P.info? e).map (·.size) = some 1) (hx : ev R x = .slice none 0 0) (hhi : ev R hi = .int k' 0) :
    Ev P ⟨dst, .slice t x none (some hi) none, ty, pos, af, gd⟩ R w (.slice none 0 0) := by
  simp [Ev, execOp, hx, hhi, Instr.sliceAt, Instr.slice, run_underlying ht, Instr.sliceBounds, Instr.sliceBound, asIntOf, size_of (w := w) hsz]
/-- x < y of texts -/
theorem ev_strLt {xt yt : TypeId} {x y : Operand} {a b : List UInt8} (hx : ev R x = str a) (hy : ev R y = str b) : Ev P ⟨dst, .binOp .lss xt x y yt, ty, pos, af, gd⟩ R w (.bool (decide (a < b))) := by
  simp only [Ev, execOp, hx, hy, str, binOp_string_lss, eqGuard]
  simp [Go.Proofs.bytesLess_eq]
theorem ev_boolNe {xt yt : TypeId} {x y : Operand} {a b : Bool} (hu : P.underlying xt = some .bool) (hx : ev R x = .bool a) (hy : ev R y = .bool b) : Ev P ⟨dst, .binOp .neq xt x y yt, ty, pos, af, gd⟩ R w (.bool (a != b)) := by
  have h := run_equal_bool (P := P) w xt a b hu
  simp only [Ev, execOp, hx, hy, eqGuard, binOp]
  simp [h, bne]
/-- Is a slice nil? -/
theorem ev_slNil {x y : Operand} {xt yt e : TypeId} {A : Option Addr} {m c : Nat} (hu : P.underlying xt = some (.slice e)) (hx : ev R x = .slice A m c) (hy : ev R y = .slice none 0 0) : Ev P ⟨dst, .binOp .eql xt x y yt, ty, pos, af, gd⟩ R w (.bool A.isNone) := by
  have h := run_equal_slice_nil (P := P) w xt e A m c hu
  simp only [Ev, execOp, hx, hy, eqGuard, binOp]
  simp [h]
end

/-! ### Two that may come up in either order -/
theorem RA.two {P : Program} {n : Nat} {Q : Post} {R : Nat → Value} {w : World} {ops : Array Oper} {S : World → Prop} {fuel i j : Nat} {o o' : Oper} {listed : Array Bool} (hr : Region.ready .any ops listed = [i, j]) (hi : ops[i]? = some o) (hg : o.guard = none) (hd : dstOk n o.dst = true) (hj : ops[j]? = some o') (hg' : o'.guard = none) (hd' : dstOk n o'.dst = true)
    (h : OpR P o R w (fun v w' => S w' ∧ RA P n ops Q S fuel (listed.setIfInBounds i true) (updO R o.dst v) w'))
    (h' : OpR P o' R w (fun v w' => S w' ∧ RA P n ops Q S fuel (listed.setIfInBounds j true) (updO R o'.dst v) w')) : RA P n ops Q S (fuel + 1) listed R w := fun a ha => by
  refine wpAnyH_all hr (by simp) fun k hk => ?_
  simp only [List.mem_cons, List.not_mem_nil, or_false] at hk
  rcases hk with rfl | rfl
  · unfold wpOp
    simp only [hi, Region.wanted, hg, if_true]
    exact .inl (OpR.wp ha hd h fun v w' hv hat => ⟨hv.1, hv.2 _ hat⟩)
  · unfold wpOp
    simp only [hj, Region.wanted, hg', if_true]
    exact .inl (OpR.wp ha hd' h' fun v w' hv hat => ⟨hv.1, hv.2 _ hat⟩)
/-! ### Facts on what is not one's own, from one ledger to the next -/
section
variable {P : Program} {w0 w w' : World} {F G : Nat → Prop} {L : List Atom} {α : Type} {enc : α → Value} {cf : α → List Value} {v : Value} {l : List α}
/-- A slice that reads as a list; F: the blocks that may be written from here on, none of which is its. -/
def SlO (F : Nat → Prop) (enc : α → Value) (w : World) (v : Value) (l : List α) : Prop := Sl enc w v l ∧ Off F v l
def SmO (F : Nat → Prop) (cf : α → List Value) (w : World) (v : Value) (l : List α) : Prop := Sm cf w v l ∧ Off F v l
theorem Sl.o (h : Sl enc w v l) : SlO none_ enc w v l := ⟨h, Off.none v l⟩
theorem Sm.o (h : Sm cf w v l) : SmO none_ cf w v l := ⟨h, Off.none v l⟩
theorem SlO.now (h : SlO F enc w0 v l) (hN : Now w0 F w L) : Sl enc w v l := h.1.off h.2 hN.mod
theorem SmO.now (h : SmO F cf w0 v l) (hN : Now w0 F w L) : Sm cf w v l := h.1.off h.2 hN.mod
theorem Now.feet (hN : Now w0 F w L) {k : Nat} (hk : foots L k) : F k ∨ w0.heap.size ≤ k := by
  obtain ⟨a, ha, hk⟩ := hk
  obtain ⟨i, hi⟩ := List.getElem?_of_mem ha
  exact (hN.low i a hi k hk).1
theorem Now.feetLt (hN : Now w0 F w L) {k : Nat} (hk : foots L k) : k < w.heap.size := by
  obtain ⟨a, ha, hk⟩ := hk
  obtain ⟨i, hi⟩ := List.getElem?_of_mem ha
  exact (hN.low i a hi k hk).2
theorem Off.step (hlt : l ≠ [] → ∀ k, v.ownBlock = some k → k < w0.heap.size) (ho : Off F v l) (hN : Now w0 F w L) : Off (foots L) v l := fun hl k hk hf => by
  rcases hN.feet hf with h | h
  · exact ho hl k hk h
  · exact absurd (hlt hl k hk) (Nat.not_lt.2 h)
theorem SlO.step (h : SlO F enc w0 v l) (hN : Now w0 F w L) : SlO (foots L) enc w v l := ⟨h.now hN, h.2.step (fun hl => h.1.lt hl) hN⟩
theorem SmO.step (hcf : ∀ a, cf a ≠ []) (h : SmO F cf w0 v l) (hN : Now w0 F w L) : SmO (foots L) cf w v l := ⟨h.now hN, h.2.step (fun hl => h.1.lt hcf hl) hN⟩
theorem Els.now {hs : List Hd} {ls : List (List α)} (h : Els F enc w0 hs ls) (hN : Now w0 F w L) : Els F enc w hs ls := h.mod hN.mod
theorem Els.step {hs : List Hd} {ls : List (List α)} (h : Els F enc w0 hs ls) (hN : Now w0 F w L) : Els (foots L) enc w hs ls := ⟨h.1, fun i hd l hi hl => SlO.step (h.2 i hd l hi hl) hN⟩
/-- From here on: what there is may be written, all else stays. -/
theorem Now.here (hN : Now w0 F w L) : Now w (foots L) w L := by
  have h : Now w0 F w (L ++ []) := by rw [List.append_nil]; exact hN
  exact h.take
theorem Now.back (hN : Now w0 F w L) {M : List Atom} (h : Now w (foots L) w' M) : Now w0 F w' M := by
  have h1 : Now w0 F w (L ++ []) := by rw [List.append_nil]; exact hN
  have := Now.callA (N := []) h1 h
  rwa [List.append_nil] at this
def Or2 (F G : Nat → Prop) : Nat → Prop := fun k => F k ∨ G k
theorem SlO.or {G : Nat → Prop} (h : SlO F enc w v l) (h2 : SlO G enc w v l) : SlO (Or2 F G) enc w v l := ⟨h.1, fun hl k hk hf => hf.elim (h.2 hl k hk) (h2.2 hl k hk)⟩
theorem SmO.or {G : Nat → Prop} (h : SmO F cf w v l) (h2 : SmO G cf w v l) : SmO (Or2 F G) cf w v l := ⟨h.1, fun hl k hk hf => hf.elim (h.2 hl k hk) (h2.2 hl k hk)⟩
/-- What holds off more than may be written holds on. -/
theorem SlO.carry {G : Nat → Prop} (h : SlO G enc w0 v l) (hN : Now w0 F w L) (hg : ∀ k, F k → G k) : SlO G enc w v l := ⟨h.1.off (fun hl k hk hf => h.2 hl k hk (hg k hf)) hN.mod, h.2⟩
theorem SmO.carry {G : Nat → Prop} (h : SmO G cf w0 v l) (hN : Now w0 F w L) (hg : ∀ k, F k → G k) : SmO G cf w v l := ⟨h.1.off (fun hl k hk hf => h.2 hl k hk (hg k hf)) hN.mod, h.2⟩
theorem Els.or {G : Nat → Prop} {hs : List Hd} {ls : List (List α)} (h : Els F enc w hs ls) (h2 : Els G enc w hs ls) : Els (Or2 F G) enc w hs ls := ⟨h.1, fun i hd l hi hl => SlO.or (h.2 i hd l hi hl) (h2.2 i hd l hi hl)⟩
theorem Els.carry {G : Nat → Prop} {hs : List Hd} {ls : List (List α)} (h : Els G enc w0 hs ls) (hN : Now w0 F w L) (hg : ∀ k, F k → G k) : Els G enc w hs ls := ⟨h.1, fun i hd l hi hl => SlO.carry (h.2 i hd l hi hl) hN hg⟩
theorem feet_cons {a : Atom} {L : List Atom} {k : Nat} (h : foots (a :: L) k) : a.foot k ∨ foots L k := by
  obtain ⟨b, hb, hk⟩ := h
  rcases List.mem_cons.1 hb with rfl | hb
  · exact .inl hk
  · exact .inr ⟨b, hb, hk⟩
theorem feet_nil {k : Nat} (h : foots [] k) : False := by obtain ⟨b, hb, _⟩ := h; cases hb
theorem SmO.grow {G : Nat → Prop} (hcf : ∀ a, cf a ≠ []) (h : SmO F cf w v l) (he : Ext w w') (hG : ∀ k, G k → w.heap.size ≤ k) : SmO (Or2 F G) cf w' v l := ⟨h.1.ext he, fun hl k hk hf => hf.elim (h.2 hl k hk) fun hg => by
  have h1 := h.1.lt hcf hl k hk
  have h2 := hG k hg
  omega⟩
theorem SlO.grow {G : Nat → Prop} (h : SlO F enc w v l) (he : Ext w w') (hG : ∀ k, G k → w.heap.size ≤ k) : SlO (Or2 F G) enc w' v l := ⟨h.1.ext he, fun hl k hk hf => hf.elim (h.2 hl k hk) fun hg => by
  have h1 := h.1.lt hl k hk
  have h2 := hG k hg
  omega⟩
theorem Els.grow {G : Nat → Prop} {hs : List Hd} {ls : List (List α)} (h : Els F enc w hs ls) (he : Ext w w') (hG : ∀ k, G k → w.heap.size ≤ k) : Els (Or2 F G) enc w' hs ls := ⟨h.1, fun i hd l hi hl => SlO.grow (h.2 i hd l hi hl) he hG⟩
/-- What may be written, made less. -/
theorem SlO.less (h : SlO F enc w v l) (hg : ∀ k, k < w.heap.size → G k → F k) : SlO G enc w v l := ⟨h.1, fun hl k hk hG => h.2 hl k hk (hg k (h.1.lt hl k hk) hG)⟩
theorem SlO.ext (h : SlO F enc w v l) (he : Ext w w') : SlO F enc w' v l := ⟨h.1.ext he, h.2⟩
theorem SmO.ext (h : SmO F cf w v l) (he : Ext w w') : SmO F cf w' v l := ⟨h.1.ext he, h.2⟩
theorem SlO.mod (h : SlO F enc w v l) (he : Mod F w w') : SlO F enc w' v l := ⟨h.1.off h.2 he, h.2⟩
theorem SmO.mod (h : SmO F cf w v l) (he : Mod F w w') : SmO F cf w' v l := ⟨h.1.off h.2 he, h.2⟩
theorem Els.less {hs : List Hd} {ls : List (List α)} (h : Els F enc w hs ls) (hg : ∀ k, k < w.heap.size → G k → F k) : Els G enc w hs ls := ⟨h.1, fun i hd l hi hl => SlO.less (h.2 i hd l hi hl) hg⟩
theorem Els.slo {hs : List Hd} {ls : List (List α)} (h : Els F enc w hs ls) {i : Nat} {hd : Hd} {l : List α} (hi : hs[i]? = some hd) (hl : ls[i]? = some l) : SlO F enc w (vh hd) l := h.2 i hd l hi hl
theorem Els.nowN {hs : List Hd} {ls : List (List α)} (h : Els F enc w0 hs ls) (hN : Now w0 F w L) : Els none_ enc w hs ls := (h.step hN).less fun _ _ e => e.elim
theorem Els.mod' {hs : List Hd} {ls : List (List α)} (h : Els F enc w hs ls) (he : Mod F w w') : Els F enc w' hs ls := h.mod he
end
end Go.Rl

/- What comes in, with a bound on all texts and slices in it. Nothing here names a program. -/
set_option linter.unusedVariables false
namespace Go.Rl
open Go.ChangeShapes Go.WideShapes
/-- No text, and no slice, has more than M. -/
def Sh.le (M : Nat) : (s : Sh) → s.ty → Prop
  | .int _, _ => True
  | .bool, _ => True
  | .str, l => List.length (α := UInt8) l ≤ M
  | .sl e, l => List.length (α := e.ty) l ≤ M ∧ ∀ a ∈ (show List e.ty from l), e.le M a
  | .nil, _ => True
  | .cons f r, a => f.le M a.1 ∧ r.le M a.2
/-- Have all slices elements of some bytes? -/
def Sh.heavy (P : Program) : Sh → TypeId ⊕ List Field → Bool
  | .int _, _ => true
  | .bool, _ => true
  | .str, _ => true
  | .sl e, .inl t => match P.underlying t with
    | some (.slice te) => decide (1 ≤ P.bytesOf te) && e.heavy P (.inl te)
    | _ => false
  | .sl _, .inr _ => false
  | .nil, _ => true
  | .cons f r, .inl t => match P.underlying t with
    | some (.struct fs) => match fs.toList with
      | fd :: fds => f.heavy P (.inl fd.type) && r.heavy P (.inr fds)
      | _ => false
    | _ => false
  | .cons f r, .inr fds => match fds with
    | fd :: fds => f.heavy P (.inl fd.type) && r.heavy P (.inr fds)
    | _ => false
theorem weightsAll_mem {H : Type} {P : Program} {e : TypeId} {d : DataW H} {z : Nat} : ∀ {l : List (DataW H)}, d ∈ l → z ∈ d.weights P e → z ∈ DataW.weightsAll P e l := by
  intro l
  induction l with
  | nil => intro h _; cases h
  | cons x r ih =>
    intro h hz
    unfold DataW.weightsAll
    rcases List.mem_cons.1 h with rfl | h
    · exact List.mem_append_left _ hz
    · exact List.mem_append_right _ (ih h hz)
section
variable {H : Type} {enc : TypeId × Value → H} {P : Program} {w : World} {base : Nat} {spare : Nat → Bool} {held : Bool}
theorem Sh.open2 (M : Nat) : ∀ (s : Sh),
    (∀ (t : TypeId) (fuel : Nat) (cs : List Value) (x : DataW H × List MemPlace), s.fit P (.inl t) = true → s.heavy P (.inl t) = true → (∀ z ∈ x.1.weights P t, z ≤ M) → DataW.trod enc P w base spare held fuel t cs = some x → ∃ a, s.rd w cs a ∧ s.le M a) ∧
    (∀ (fds : List Field) (off : Nat) (n : Nat) (cs : List Value) (xs : List (DataW H × List MemPlace)), s.fit P (.inr (fds, off)) = true → s.heavy P (.inr fds) = true → (∀ z ∈ DataW.weightsEach P (fds.map (·.type)) (xs.map (·.1)), z ≤ M) → cs.length = off + s.cells → xs.length = fds.length →
      (∀ (i : Nat) (f : Field), fds[i]? = some f → DataW.trod enc P w base spare held n f.type ((cs.drop f.offset).take (P.cellsOf f.type)) = xs[i]?) → ∃ a, s.rd w (cs.drop off) a ∧ s.le M a) := by
  intro s
  induction s with
  | int k =>
    refine ⟨fun t fuel cs x hf hv hw h => ?_, fun _ _ _ _ _ hf => by simp [Sh.fit] at hf⟩
    have ht : P.underlying t = some (.int k) := by
      simp only [Sh.fit] at hf
      split at hf
      · rename_i e; rw [e, of_decide_eq_true hf]
      · cases hf
    obtain ⟨m, rfl, rfl, hw'⟩ := DataW.trod_int ht h
    exact ⟨m, ⟨rfl, hw'⟩, trivial⟩
  | bool =>
    refine ⟨fun t fuel cs x hf hv hw h => ?_, fun _ _ _ _ _ hf => by simp [Sh.fit] at hf⟩
    have ht : P.underlying t = some .bool := by
      simp only [Sh.fit] at hf
      split at hf
      · assumption
      · cases hf
    cases fuel with
    | zero => simp [DataW.trod] at h
    | succ n =>
      unfold DataW.trod at h
      rw [ht] at h
      split at h <;> simp_all
      obtain rfl := h
      exact ⟨_, rfl, trivial⟩
  | str =>
    refine ⟨fun t fuel cs x hf hv hw h => ?_, fun _ _ _ _ _ hf => by simp [Sh.fit] at hf⟩
    have ht : P.underlying t = some .string := by
      simp only [Sh.fit] at hf
      split at hf
      · assumption
      · cases hf
    cases fuel with
    | zero => simp [DataW.trod] at h
    | succ n =>
      unfold DataW.trod at h
      rw [ht] at h
      revert hw
      split at h <;> simp_all
      rename_i s
      obtain ⟨hl, rfl⟩ := h
      intro hw
      refine ⟨s.data.toList, ⟨by rw [← str_of], ?_⟩, ?_⟩
      · simpa using hl
      · exact hw _ (by simp [DataW.weights])
  | sl e ih =>
    refine ⟨fun t fuel cs x hf hv hw h => ?_, fun _ _ _ _ _ hf => by simp [Sh.fit] at hf⟩
    simp only [Sh.fit] at hf
    split at hf
    · rename_i te ht
      simp only [Bool.and_eq_true, beq_iff_eq] at hf
      simp only [Sh.heavy, ht, Bool.and_eq_true, decide_eq_true_eq] at hv
      rcases Deep.open_slice ht h with ⟨rfl, rfl⟩ | ⟨a, len, cap, m, n, D, Pl, rfl, hb, hl, hm, hmm, rfl, hx⟩
      · exact ⟨[], ⟨none, 0, rfl, Nat.le_refl _, by unfold maxLen; omega, fun i a h => by simp at h⟩, Nat.zero_le _, fun a ha => by cases ha⟩
      · simp only [DataW.weights, ht] at hw
        have hlm : len ≤ m := by rw [hmm]; split <;> omega
        have each : ∀ i, i < len → ∃ (a' : e.ty) (cs' : List Value), cs'.length = e.cells ∧ e.rd w cs' a' ∧ (∀ (j : Nat) v, cs'[j]? = some v → w.cell? (a.add (i * e.cells + j)) = some v) ∧ e.le M a' := by
          intro i hi
          obtain ⟨cs', h1, h2⟩ := hx i (by omega)
          obtain ⟨a', h3, h4⟩ := ih.1 te n cs' _ hf.2 hv.2 (fun z hz => hw z (List.mem_cons_of_mem _ (List.mem_append_left _ (weightsAll_mem (List.mem_map.2 ⟨i, List.mem_range.2 hi, rfl⟩) hz)))) h2
          obtain ⟨_, hlen, hc⟩ := World.cells?_some h1
          refine ⟨a', cs', e.rd_len h3, h3, fun j v hj => ?_, h4⟩
          have hjl := (List.getElem?_eq_some_iff.1 hj).1
          have := hc j (by omega)
          rw [Deep.add_add, hf.1] at this
          rw [this, hj]
        have : ∃ l : List e.ty, l.length = len ∧ ∀ (i : Nat) a', l[i]? = some a' → ∃ (cs' : List Value), cs'.length = e.cells ∧ e.rd w cs' a' ∧ (∀ (j : Nat) v, cs'[j]? = some v → w.cell? (a.add (i * e.cells + j)) = some v) ∧ e.le M a' := by
          clear h hx hmm hlm hl hw
          induction len with
          | zero => exact ⟨[], rfl, fun i a' h => by simp at h⟩
          | succ len ihl =>
            obtain ⟨l, hl1, hl2⟩ := ihl (fun i hi => each i (by omega))
            obtain ⟨a', cs', g1, g2, g3, g4⟩ := each len (by omega)
            refine ⟨l ++ [a'], by simp [hl1], fun i b hb => ?_⟩
            rcases Nat.lt_or_ge i l.length with hlt | hge
            · rw [List.getElem?_append_left hlt] at hb; exact hl2 i b hb
            · rw [List.getElem?_append_right hge] at hb
              have hz : i - l.length = 0 := by
                rcases Nat.eq_zero_or_pos (i - l.length) with e' | e'
                · exact e'
                · rw [List.getElem?_eq_none (by simp; omega)] at hb; cases hb
              rw [hz] at hb
              have hil : i = len := by omega
              subst hil
              cases hb
              exact ⟨cs', g1, g2, g3, g4⟩
        obtain ⟨l, hl1, hl2⟩ := this
        subst hl1
        refine ⟨l, ⟨some a, cap, rfl, hl, hm, fun i a' ha' => ?_⟩, ?_⟩
        · obtain ⟨cs', g1, g2, g3, _⟩ := hl2 i a' ha'
          exact ⟨cs', g1, g2, fun j v hj => ⟨a, rfl, g3 j v hj⟩⟩
        · refine ⟨?_, fun a' ha' => ?_⟩
          · have h1 := hw _ (List.mem_cons_self ..)
            rw [List.length_map, List.length_range] at h1
            have h2 : l.length * 1 ≤ (l.length + ((List.range (m - l.length)).map fun j => D (l.length + j)).length) * P.bytesOf te := Nat.mul_le_mul (Nat.le_add_right _ _) hv.1
            omega
          · obtain ⟨i, hi⟩ := List.getElem?_of_mem ha'
            exact (hl2 i a' hi).choose_spec.2.2.2
    · cases hf
  | nil =>
    refine ⟨fun t fuel cs x hf hv hw h => ?_, fun fds off n cs xs hf hv hw hl _ _ => ?_⟩
    · simp only [Sh.fit] at hf
      split at hf
      · rename_i fs ht
        simp only [Bool.and_eq_true, beq_iff_eq] at hf
        obtain ⟨xs, n, _, rfl, hl, _⟩ := DataW.trod_struct ht h
        exact ⟨(), List.eq_nil_of_length_eq_zero (by omega), trivial⟩
      · cases hf
    · exact ⟨(), List.eq_nil_of_length_eq_zero (by simp only [Sh.cells] at hl; simp; omega), trivial⟩
  | cons f r ihf ihr =>
    have body : ∀ (fd : Field) (fds : List Field) (off n : Nat) (cs : List Value) (xs : List (DataW H × List MemPlace)), fd.offset = off → P.cellsOf fd.type = f.cells → f.fit P (.inl fd.type) = true → r.fit P (.inr (fds, off + f.cells)) = true → f.heavy P (.inl fd.type) = true → r.heavy P (.inr fds) = true → (∀ z ∈ DataW.weightsEach P ((fd :: fds).map (·.type)) (xs.map (·.1)), z ≤ M) →
        cs.length = off + (f.cells + r.cells) → xs.length = (fd :: fds).length →
        (∀ (i : Nat) (g : Field), (fd :: fds)[i]? = some g → DataW.trod enc P w base spare held n g.type ((cs.drop g.offset).take (P.cellsOf g.type)) = xs[i]?) → ∃ a, (Sh.cons f r).rd w (cs.drop off) a ∧ (Sh.cons f r).le M a := by
      intro fd fds off n cs xs h1 h2 h3 h4 hv1 hv2 hw h5 h6 h7
      cases xs with
      | nil => simp at h6
      | cons x xs =>
        have hx := h7 0 fd rfl
        simp only [List.getElem?_cons_zero] at hx
        rw [h1, h2] at hx
        simp only [List.map_cons, DataW.weightsEach] at hw
        obtain ⟨a, ha, hma⟩ := ihf.1 fd.type n _ x h3 hv1 (fun z hz => hw z (List.mem_append_left _ hz)) hx
        obtain ⟨b, hb, hmb⟩ := ihr.2 fds (off + f.cells) n cs xs h4 hv2 (fun z hz => hw z (List.mem_append_right _ hz)) (by omega) (by simpa using h6) (fun i g hg => by have := h7 (i + 1) g (by simpa using hg); simpa using this)
        refine ⟨(a, b), ⟨ha, ?_⟩, hma, hmb⟩
        rw [List.drop_drop]; exact hb
    refine ⟨fun t fuel cs x hf hv hw h => ?_, fun fds off n cs xs hf hv hw hl hxl hx => ?_⟩
    · simp only [Sh.fit] at hf
      split at hf
      · rename_i fs ht
        split at hf
        · rename_i fd fds hfs
          simp only [Bool.and_eq_true, beq_iff_eq] at hf
          obtain ⟨⟨⟨⟨h0, h1⟩, h2⟩, h3⟩, h4⟩ := hf
          simp only [Sh.heavy, ht, hfs, Bool.and_eq_true] at hv
          obtain ⟨xs, n, _, rfl, hl, hxs, hx⟩ := DataW.trod_struct ht h
          simp only [DataW.weights, ht, hfs] at hw
          have hfl : fs.size = (fd :: fds).length := by rw [← hfs]; simp
          obtain ⟨a, ha, hm⟩ := body fd fds 0 n cs xs h1 h2 h3 (by simpa using h4) hv.1 hv.2 hw (by omega) (by omega) (fun i g hg => hx i g (by rw [← hfs] at hg; simpa using hg))
          exact ⟨a, by simpa using ha, hm⟩
        · cases hf
      · cases hf
    · simp only [Sh.fit] at hf
      split at hf
      · rename_i fd fds
        simp only [Bool.and_eq_true, beq_iff_eq] at hf
        obtain ⟨⟨⟨h1, h2⟩, h3⟩, h4⟩ := hf
        simp only [Sh.heavy, Bool.and_eq_true] at hv
        exact body fd fds off n cs xs h1 h2 h3 h4 hv.1 hv.2 hw (by simpa [Sh.cells] using hl) hxl hx
      · cases hf
end
theorem open_sh2 {H : Type} {enc : TypeId × Value → H} {P : Program} {W : World} {held : Bool} {t : TypeId} {d : DataW H} {v : Value} {ps : List MemPlace} {s : Sh} {ts : List TypeId} {ds : List (DataW H)} {j : Nat} (hsz : (DataW.weightsEach P ts ds).all (· ≤ reachBytes) = true) (ht : ts[j]? = some t) (hd : ds[j]? = some d)
    (hf : s.fit P (.inl t) = true) (hv : s.heavy P (.inl t) = true) (h : DataW.Trod enc P W 0 (fun _ => true) held t v d ps) : ∃ a : s.ty, s.rd W v.cells.toList a ∧ s.le reachBytes a := by
  obtain ⟨fuel, hh⟩ := h
  have key : ∀ (ts : List TypeId) (ds : List (DataW H)) (j : Nat), ts[j]? = some t → ds[j]? = some d → ∀ z ∈ d.weights P t, z ∈ DataW.weightsEach P ts ds := by
    intro ts
    induction ts with
    | nil => intro ds j h; simp at h
    | cons t' ts ih =>
      intro ds j h1 h2 z hz
      cases ds with
      | nil => simp at h2
      | cons d' ds =>
        unfold DataW.weightsEach
        cases j with
        | zero => simp at h1 h2; subst h1 h2; exact List.mem_append_left _ hz
        | succ j => exact List.mem_append_right _ (ih ds j (by simpa using h1) (by simpa using h2) z hz)
  rw [List.all_eq_true] at hsz
  exact (s.open2 reachBytes).1 t fuel v.cells.toList (d, ps) hf hv (fun z hz => of_decide_eq_true (hsz z (key ts ds j ht hd z hz))) hh
end Go.Rl
