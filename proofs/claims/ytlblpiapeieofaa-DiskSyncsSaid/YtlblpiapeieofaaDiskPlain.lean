import Derived.Sort.Walk0
/- A disk in plain terms. No program. -/
set_option linter.unusedVariables false
namespace Go.Disk
abbrev Bs := List UInt8
theorem Bs.lt_irrefl (a : Bs) : ¬ a < a := List.lt_irrefl a
theorem Bs.lt_trans {a b c : Bs} (h : a < b) (k : b < c) : a < c := List.lt_trans h k
theorem Bs.lt_asymm {a b : Bs} (h : a < b) : ¬ b < a := fun k => Bs.lt_irrefl a (Bs.lt_trans h k)
theorem Bs.le_total (a b : Bs) (h : ¬ a < b) : b = a ∨ b < a := by
  have : b ≤ a := List.not_lt.1 h
  by_cases e : b = a
  · exact .inl e
  · right
    rcases List.le_total b a with h1 | h1
    · apply Decidable.byContradiction
      intro hn
      exact e (List.le_antisymm this (List.not_lt.1 hn))
    · exact absurd (List.le_antisymm this h1) e
structure Fil where
  name : Bs
  firm : Bs
  ws : List Bs
def Fil.all (f : Fil) : Bs := f.firm ++ f.ws.flatten
structure Dk where
  room : Int
  fs : List Fil
def size (fs : List Fil) : Nat := (fs.map fun f => f.all.length).sum
def loose (fs : List Fil) : Nat := (fs.map fun f => f.ws.length).sum
def names (fs : List Fil) : List Bs := fs.map (·.name)
def find (a : Bs) : List Fil → Option Fil
  | [] => none
  | f :: r => if f.name = a then some f else find a r
def without (a : Bs) (fs : List Fil) : List Fil := fs.filter fun f => decide (¬ f.name = a)
def put (f : Fil) : List Fil → List Fil
  | [] => [f]
  | g :: r => if f.name < g.name then f :: g :: r else g :: put f r
def putIn (f : Fil) (fs : List Fil) : List Fil := put f (without f.name fs)
structure Op where
  kind : Int
  name : Bs
  to : Bs
  data : Bs
def named (s : Bs) : Prop := 1 ≤ s.length ∧ s.length ≤ 60
instance (s : Bs) : Decidable (named s) := inferInstanceAs (Decidable (_ ∧ _))
def badOp (x : Op) : Prop := x.kind < 1 ∨ 4 < x.kind ∨ ¬ named x.name ∨ (x.kind = 3 ∧ ¬ named x.to)
instance (x : Op) : Decidable (badOp x) := inferInstanceAs (Decidable (_ ∨ _))
def act (d : Dk) (x : Op) : Dk × Int :=
  if badOp x then (d, 2)
  else if x.kind = 1 then
    if d.room < (size d.fs : Int) + x.data.length then (d, 11)
    else match find x.name d.fs with
      | none => (⟨d.room, putIn ⟨x.name, [], [] ++ [x.data]⟩ d.fs⟩, 0)
      | some f => (⟨d.room, putIn ⟨f.name, f.firm, f.ws ++ [x.data]⟩ d.fs⟩, 0)
  else match find x.name d.fs with
    | none => (d, 4)
    | some f =>
      if x.kind = 2 then (⟨d.room, putIn ⟨f.name, f.all, []⟩ d.fs⟩, 0)
      else if x.kind = 3 then (⟨d.room, putIn ⟨x.to, f.firm, f.ws⟩ (without x.name d.fs)⟩, 0)
      else (⟨d.room, without x.name d.fs⟩, 0)
def run (d : Dk) : List Op → Dk × Nat
  | [] => (d, 0)
  | x :: r => if (act d x).2 ≠ 0 then (d, 0) else ((run (act d x).1 r).1, (run (act d x).1 r).2 + 1)
def read (d : Dk) (a : Bs) : Bs × Int := match find a d.fs with
  | none => ([], 4)
  | some f => (f.all, 0)
def longT (xs : List Op) : Nat := (xs.map fun x => 2 + x.data.length + x.name.length + x.to.length).sum
theorem longT_take {xs : List Op} {i : Nat} {x : Op} (h : xs[i]? = some x) : longT (xs.take (i + 1)) = longT (xs.take i) + (2 + x.data.length + x.name.length + x.to.length) := by
  unfold longT
  rw [List.take_add_one, h]; simp
theorem longT_le {B : Nat} : ∀ {xs : List Op}, (∀ x ∈ xs, x.data.length ≤ B ∧ x.name.length ≤ B ∧ x.to.length ≤ B) → longT xs ≤ xs.length * (2 + 3 * B) := by
  intro xs
  induction xs with
  | nil => intro _; exact Nat.zero_le _
  | cons x r ih =>
    intro h
    have h1 := h x (List.mem_cons_self ..)
    have h2 := ih fun y hy => h y (List.mem_cons_of_mem _ hy)
    unfold longT at h2 ⊢
    rw [List.map_cons, List.sum_cons, List.length_cons, Nat.succ_mul]
    omega
theorem longT_mem {xs : List Op} {x : Op} (h : x ∈ xs) : x.data.length + x.name.length + x.to.length ≤ longT xs := by
  unfold longT
  induction xs with
  | nil => cases h
  | cons y r ih =>
    rw [List.map_cons, List.sum_cons]
    rcases List.mem_cons.1 h with rfl | h
    · omega
    · have := ih h; omega
/-! A crash -/
def crashW (st : Bs × Nat) (w : Bs) (mark : Int) : Bs × Nat :=
  (st.1 ++ (w.take mark.toNat ++ List.replicate (w.length - mark.toNat) 0), if min mark.toNat w.length = 0 then st.2 else st.1.length + min mark.toNat w.length)
def crashWs : List Int → List Bs → Bs × Nat → Bs × Nat
  | _, [], st => st
  | ms, w :: r, st => crashWs ms.tail r (crashW st w (ms.headD 0))
def crashF (ms : List Int) (f : Fil) : Fil := ⟨f.name, f.firm ++ (crashWs ms f.ws ([], 0)).1.take (crashWs ms f.ws ([], 0)).2, []⟩
def crash : List Int → List Fil → List Fil
  | _, [] => []
  | ms, f :: r => crashF ms f :: crash (ms.drop f.ws.length) r

/-! Order -/
def Rising (fs : List Fil) : Prop := fs.Pairwise fun f g => f.name < g.name
theorem Rising.nodup {fs : List Fil} (h : Rising fs) : (names fs).Nodup := by
  unfold names List.Nodup
  rw [List.pairwise_map]
  refine List.Pairwise.imp (R := fun f g : Fil => f.name < g.name) (fun {a b} hab => ?_) h
  intro e
  simp only [e] at hab
  exact Bs.lt_irrefl _ hab
theorem Rising.without {fs : List Fil} (h : Rising fs) (a : Bs) : Rising (without a fs) := h.filter _
theorem mem_without {a : Bs} {fs : List Fil} {f : Fil} : f ∈ without a fs ↔ f ∈ fs ∧ f.name ≠ a := by simp [Disk.without]
theorem mem_put {f g : Fil} : ∀ {fs : List Fil}, g ∈ put f fs ↔ g = f ∨ g ∈ fs := by
  intro fs
  induction fs with
  | nil => simp [put]
  | cons x r ih =>
    unfold put
    split
    · simp
    · simp [ih]; constructor
      · rintro (h | h | h) <;> simp [h]
      · rintro (h | h | h) <;> simp [h]
theorem put_perm (f : Fil) : ∀ (fs : List Fil), (put f fs).Perm (f :: fs) := by
  intro fs
  induction fs with
  | nil => exact .refl _
  | cons x r ih =>
    unfold put
    split
    · exact .refl _
    · exact (ih.cons x).trans (.swap _ _ _)
theorem put_rising {f : Fil} : ∀ {fs : List Fil}, Rising fs → (∀ g ∈ fs, g.name ≠ f.name) → Rising (put f fs) := by
  intro fs
  induction fs with
  | nil => intro _ _; exact List.pairwise_singleton _ _
  | cons x r ih =>
    intro h hn
    have hx := List.pairwise_cons.1 h
    unfold put
    split
    · rename_i hlt
      refine List.pairwise_cons.2 ⟨fun g hg => ?_, h⟩
      rcases List.mem_cons.1 hg with rfl | hg
      · exact hlt
      · exact Bs.lt_trans hlt (hx.1 g hg)
    · rename_i hlt
      refine List.pairwise_cons.2 ⟨fun g hg => ?_, ih hx.2 fun g hg => hn g (List.mem_cons_of_mem _ hg)⟩
      rcases mem_put.1 hg with rfl | hg
      · rcases Bs.le_total _ _ hlt with e | e
        · exact absurd e (hn x (List.mem_cons_self ..))
        · exact e
      · exact hx.1 g hg
theorem putIn_rising {f : Fil} {fs : List Fil} (h : Rising fs) : Rising (putIn f fs) := put_rising (h.without _) fun g hg => (mem_without.1 hg).2
theorem putIn_perm (f : Fil) (fs : List Fil) : (putIn f fs).Perm (f :: without f.name fs) := put_perm _ _
theorem find_some {a : Bs} {f : Fil} : ∀ {fs : List Fil}, find a fs = some f → f ∈ fs ∧ f.name = a := by
  intro fs
  induction fs with
  | nil => intro h; cases h
  | cons x r ih =>
    intro h
    unfold find at h
    split at h
    · rename_i e; cases h; exact ⟨List.mem_cons_self .., e⟩
    · exact ⟨List.mem_cons_of_mem _ (ih h).1, (ih h).2⟩
theorem find_none {a : Bs} : ∀ {fs : List Fil}, find a fs = none → ∀ f ∈ fs, f.name ≠ a := by
  intro fs
  induction fs with
  | nil => intro _ f hf; cases hf
  | cons x r ih =>
    intro h f hf
    unfold find at h
    split at h
    · cases h
    · rename_i e
      rcases List.mem_cons.1 hf with rfl | hf
      · exact e
      · exact ih h f hf
theorem find_mem {f : Fil} : ∀ {fs : List Fil}, (names fs).Nodup → f ∈ fs → find f.name fs = some f := by
  intro fs
  induction fs with
  | nil => intro _ h; cases h
  | cons x r ih =>
    intro hn h
    unfold names at hn
    rw [List.map_cons, List.nodup_cons] at hn
    unfold find
    rcases List.mem_cons.1 h with rfl | h
    · rw [if_pos rfl]
    · rw [if_neg, ih hn.2 h]
      intro e
      exact hn.1 (by rw [e]; exact List.mem_map.2 ⟨f, h, rfl⟩)
theorem find_perm {a : Bs} {fs gs : List Fil} (hn : (names fs).Nodup) (hp : fs.Perm gs) : find a fs = find a gs := by
  have hn2 : (names gs).Nodup := (hp.map _).nodup_iff.1 hn
  cases h : find a fs with
  | none =>
    cases h2 : find a gs with
    | none => rfl
    | some f => have := find_some h2; exact absurd this.2 (find_none h f (hp.mem_iff.2 this.1))
  | some f =>
    have := find_some h
    rw [← this.2, find_mem hn2 (hp.mem_iff.1 this.1)]
theorem without_none {a : Bs} {fs : List Fil} (h : find a fs = none) : without a fs = fs := List.filter_eq_self.2 fun f hf => by simpa using find_none h f hf
theorem size_perm {fs gs : List Fil} (h : fs.Perm gs) : size fs = size gs := (h.map _).sum_nat
theorem loose_perm {fs gs : List Fil} (h : fs.Perm gs) : loose fs = loose gs := (h.map _).sum_nat
theorem size_cons (f : Fil) (fs : List Fil) : size (f :: fs) = f.all.length + size fs := by simp [size]
theorem loose_cons (f : Fil) (fs : List Fil) : loose (f :: fs) = f.ws.length + loose fs := by simp [loose]
theorem without_perm {f : Fil} {fs : List Fil} (hn : (names fs).Nodup) (h : f ∈ fs) : fs.Perm (f :: without f.name fs) := by
  induction fs with
  | nil => cases h
  | cons x r ih =>
    unfold names at hn
    rw [List.map_cons, List.nodup_cons] at hn
    rcases List.mem_cons.1 h with rfl | h
    · have : Disk.without f.name (f :: r) = r := by
        unfold Disk.without
        rw [List.filter_cons, if_neg (by simp)]
        exact List.filter_eq_self.2 fun g hg => by simpa using fun e : g.name = f.name => hn.1 (by rw [← e]; exact List.mem_map.2 ⟨g, hg, rfl⟩)
      rw [this]
    · have hne : ¬ x.name = f.name := fun e => hn.1 (by rw [e]; exact List.mem_map.2 ⟨f, h, rfl⟩)
      have : Disk.without f.name (x :: r) = x :: Disk.without f.name r := by unfold Disk.without; rw [List.filter_cons, if_pos (by simpa using hne)]
      rw [this]
      exact ((ih hn.2 h).cons x).trans (.swap _ _ _)
theorem size_without {f : Fil} {fs : List Fil} (hn : (names fs).Nodup) (h : f ∈ fs) : size fs = f.all.length + size (without f.name fs) := by rw [size_perm (without_perm hn h), size_cons]
theorem loose_without {f : Fil} {fs : List Fil} (hn : (names fs).Nodup) (h : f ∈ fs) : loose fs = f.ws.length + loose (without f.name fs) := by rw [loose_perm (without_perm hn h), loose_cons]
theorem size_putIn (f : Fil) (fs : List Fil) : size (putIn f fs) = f.all.length + size (without f.name fs) := by rw [size_perm (putIn_perm f fs), size_cons]
theorem loose_putIn (f : Fil) (fs : List Fil) : loose (putIn f fs) = f.ws.length + loose (without f.name fs) := by rw [loose_perm (putIn_perm f fs), loose_cons]
theorem size_without_le (a : Bs) (fs : List Fil) : size (without a fs) ≤ size fs := by
  unfold without size
  induction fs with
  | nil => simp
  | cons x r ih => rw [List.filter_cons]; split <;> simp only [List.map_cons, List.sum_cons] <;> omega
theorem loose_without_le (a : Bs) (fs : List Fil) : loose (without a fs) ≤ loose fs := by
  unfold without loose
  induction fs with
  | nil => simp
  | cons x r ih => rw [List.filter_cons]; split <;> simp only [List.map_cons, List.sum_cons] <;> omega
theorem length_without_le (a : Bs) (fs : List Fil) : (without a fs).length ≤ fs.length := List.length_filter_le _ _
theorem length_put (f : Fil) (fs : List Fil) : (put f fs).length = fs.length + 1 := by simpa using (put_perm f fs).length_eq
theorem rising_eq {fs gs : List Fil} (h1 : Rising fs) (h2 : Rising gs) (hp : fs.Perm gs) : fs = gs :=
  List.Perm.eq_of_pairwise (le := fun f g : Fil => f.name < g.name) (fun a b _ _ h h' => absurd h' (Bs.lt_asymm h)) h1 h2 hp
/-- The names in order, whatever order they had. -/
theorem names_sort {ss : List Bs} {fs : List Fil} (h : Rising fs) (hp : ss.Perm (names fs)) : ss.mergeSort (fun x y => decide (x ≤ y)) = names fs := by
  have tr : ∀ a b c : Bs, decide (a ≤ b) = true → decide (b ≤ c) = true → decide (a ≤ c) = true := fun a b c h1 h2 => by
    simp only [decide_eq_true_eq] at *; exact List.le_trans h1 h2
  have to : ∀ a b : Bs, (decide (a ≤ b) || decide (b ≤ a)) = true := fun a b => by
    simp only [Bool.or_eq_true, decide_eq_true_eq]; exact List.le_total a b
  refine List.Perm.eq_of_pairwise (le := fun a b : Bs => decide (a ≤ b) = true) (fun a b _ _ h1 h2 => ?_) (List.pairwise_mergeSort tr to ss) ?_ ((List.mergeSort_perm ss _).trans hp)
  · simp only [decide_eq_true_eq] at h1 h2; exact List.le_antisymm h1 h2
  · unfold names
    rw [List.pairwise_map]
    exact List.Pairwise.imp (R := fun f g : Fil => f.name < g.name) (fun {a b} hab => by simp only [decide_eq_true_eq]; exact List.le_of_lt hab) h
theorem act_rising {d : Dk} (h : Rising d.fs) (x : Op) : Rising (act d x).1.fs := by
  unfold act
  repeat' split
  all_goals first
    | exact h
    | exact putIn_rising h
    | exact putIn_rising (h.without _)
    | exact h.without _
theorem act_room (d : Dk) (x : Op) : (act d x).1.room = d.room := by
  unfold act
  repeat' split
  all_goals rfl
/-- How much there is behind it. -/
theorem act_size {d : Dk} (h : Rising d.fs) (x : Op) : size (act d x).1.fs ≤ size d.fs + x.data.length ∧ ((size d.fs : Int) ≤ d.room → (size (act d x).1.fs : Int) ≤ d.room) := by
  have hn := h.nodup
  unfold act
  split
  · exact ⟨Nat.le_add_right _ _, id⟩
  · split
    · split
      · exact ⟨Nat.le_add_right _ _, id⟩
      · rename_i hroom
        split
        · rename_i hf
          have e1 := without_none hf
          have e2 := size_putIn ⟨x.name, [], [] ++ [x.data]⟩ d.fs
          simp only [Fil.all, List.nil_append, List.flatten_cons, List.flatten_nil, List.append_nil, e1] at e2 ⊢
          constructor
          · omega
          · intro _; omega
        · rename_i f hf
          have hm := find_some hf
          have e1 := size_without hn hm.1
          have e2 := size_putIn ⟨f.name, f.firm, f.ws ++ [x.data]⟩ d.fs
          simp only [Fil.all, List.flatten_append, List.flatten_cons, List.flatten_nil, List.append_nil, List.length_append] at e1 e2 ⊢
          constructor
          · omega
          · intro _; omega
    · split
      · exact ⟨Nat.le_add_right _ _, id⟩
      · rename_i f hf
        have hm := find_some hf
        have e1 := size_without hn hm.1
        split
        · have e2 := size_putIn ⟨f.name, f.all, []⟩ d.fs
          simp only [Fil.all, List.flatten_nil, List.append_nil] at e1 e2 ⊢
          constructor <;> intros <;> omega
        · split
          · have e2 := size_putIn ⟨x.to, f.firm, f.ws⟩ (without x.name d.fs)
            have e3 := size_without_le x.to (without x.name d.fs)
            rw [hm.2] at e1
            simp only [Fil.all] at e1 e2 e3 ⊢
            constructor <;> intros <;> omega
          · have e3 := size_without_le x.name d.fs
            constructor <;> intros <;> simp only at * <;> omega
theorem act_loose {d : Dk} (h : Rising d.fs) (x : Op) : loose (act d x).1.fs ≤ loose d.fs + 1 ∧ (act d x).1.fs.length ≤ d.fs.length + 1 := by
  have hn := h.nodup
  unfold act
  split
  · exact ⟨Nat.le_succ _, Nat.le_succ _⟩
  · split
    · split
      · exact ⟨Nat.le_succ _, Nat.le_succ _⟩
      · split
        · rename_i hf
          have e1 := without_none hf
          have e2 := loose_putIn ⟨x.name, [], [] ++ [x.data]⟩ d.fs
          simp only [putIn, length_put, e1] at e2 ⊢
          simp only [List.nil_append, List.length_singleton] at e2 ⊢
          omega
        · rename_i f hf
          have hm := find_some hf
          have e1 := loose_without hn hm.1
          have e2 := loose_putIn ⟨f.name, f.firm, f.ws ++ [x.data]⟩ d.fs
          have e3 := length_without_le f.name d.fs
          simp only [putIn, length_put, List.length_append, List.length_singleton] at e1 e2 ⊢
          omega
    · split
      · exact ⟨Nat.le_succ _, Nat.le_succ _⟩
      · rename_i f hf
        have hm := find_some hf
        have e1 := loose_without hn hm.1
        split
        · have e2 := loose_putIn ⟨f.name, f.all, []⟩ d.fs
          have e3 := length_without_le f.name d.fs
          simp only [putIn, length_put, List.length_nil] at e1 e2 ⊢
          omega
        · split
          · have e2 := loose_putIn ⟨x.to, f.firm, f.ws⟩ (without x.name d.fs)
            have e3 := loose_without_le x.to (without x.name d.fs)
            have e4 := length_without_le x.to (without x.name d.fs)
            have e5 := length_without_le x.name d.fs
            rw [hm.2] at e1
            simp only [putIn, length_put] at e1 e2 e3 ⊢
            omega
          · have e3 := loose_without_le x.name d.fs
            have e5 := length_without_le x.name d.fs
            exact ⟨by simp only; omega, by simp only; omega⟩
/-- What a disk may hold: bounds for the machine's numbers. -/
structure Fits (n : Nat) (d : Dk) : Prop where
  rising : Rising d.fs
  room : 0 ≤ d.room ∧ d.room ≤ 1099511627776
  size : (size d.fs : Int) ≤ d.room
  loose : loose d.fs ≤ n
  files : d.fs.length ≤ n
  named : ∀ f ∈ d.fs, named f.name
theorem act_named {d : Dk} (h : ∀ f ∈ d.fs, named f.name) (x : Op) : ∀ f ∈ (act d x).1.fs, named f.name := by
  have put1 : ∀ (f : Fil) (fs : List Fil), named f.name → (∀ g ∈ fs, named g.name) → ∀ g ∈ putIn f fs, named g.name := fun f fs hf hfs g hg => by
    rcases mem_put.1 hg with rfl | hg
    · exact hf
    · exact hfs g (mem_without.1 hg).1
  unfold act
  split
  · exact h
  · rename_i hb
    have hx : named x.name := Decidable.byContradiction fun e => hb (.inr (.inr (.inl e)))
    split
    · split
      · exact h
      · split
        · exact put1 _ _ hx h
        · rename_i f hf; exact put1 _ _ (h f (find_some hf).1) h
    · split
      · exact h
      · rename_i f hf
        split
        · exact put1 _ _ (h f (find_some hf).1) h
        · split
          · rename_i h3
            have ht : named x.to := Decidable.byContradiction fun e => hb (.inr (.inr (.inr ⟨h3, e⟩)))
            exact put1 _ _ ht fun g hg => h g (mem_without.1 hg).1
          · exact fun g hg => h g (mem_without.1 hg).1
theorem Fits.act {n : Nat} {d : Dk} (h : Fits n d) (x : Op) : Fits (n + 1) (act d x).1 := by
  have h1 := act_loose h.rising x
  have h2 := act_size h.rising x
  have h3 := act_room d x
  exact ⟨act_rising h.rising x, by rw [h3]; exact h.room, by rw [h3]; exact h2.2 h.size, by have := h.loose; omega, by have := h.files; omega, act_named h.named x⟩
theorem Fits.new {room : Int} (h0 : 0 ≤ room) (h1 : room ≤ 1099511627776) : Fits 0 ⟨room, []⟩ := ⟨List.Pairwise.nil, ⟨h0, h1⟩, h0, Nat.le_refl _, Nat.le_refl _, fun f hf => by cases hf⟩
theorem read_mem {n : Nat} {d : Dk} {f : Fil} (hf : Fits n d) (hm : f ∈ d.fs) : read d f.name = (f.firm ++ f.ws.flatten, 0) := by
  unfold read; rw [find_mem hf.rising.nodup hm]; rfl
theorem Fits.more {n m : Nat} {d : Dk} (h : Fits n d) (hm : n ≤ m) : Fits m d := ⟨h.rising, h.room, h.size, Nat.le_trans h.loose hm, Nat.le_trans h.files hm, h.named⟩
theorem act_err {d : Dk} {x : Op} (h : (act d x).2 ≠ 0) : (act d x).1 = d := by
  revert h
  unfold act
  repeat' split
  all_goals first
    | (intro _; rfl)
    | (intro h; exact absurd rfl h)
theorem run_cons_ok {d : Dk} {x : Op} {r : List Op} (h : (act d x).2 = 0) : run d (x :: r) = ((run (act d x).1 r).1, (run (act d x).1 r).2 + 1) := by
  rw [run, if_neg (fun e => e h)]
theorem run_cons_err {d : Dk} {x : Op} {r : List Op} (h : (act d x).2 ≠ 0) : run d (x :: r) = (d, 0) := by rw [run, if_pos h]
theorem run_fits {n : Nat} : ∀ (xs : List Op) {d : Dk}, Fits n d → Fits (n + xs.length) (run d xs).1 := by
  intro xs
  induction xs generalizing n with
  | nil => intro d h; exact h
  | cons x r ih =>
    intro d h
    by_cases hx : (act d x).2 = 0
    · rw [run_cons_ok hx]
      have := ih (h.act x)
      rw [List.length_cons, show n + (r.length + 1) = n + 1 + r.length by omega]; exact this
    · rw [run_cons_err hx]; exact h.more (by omega)
theorem run_room (xs : List Op) : ∀ (d : Dk), (run d xs).1.room = d.room := by
  induction xs with
  | nil => intro d; rfl
  | cons x r ih =>
    intro d
    by_cases hx : (act d x).2 = 0
    · rw [run_cons_ok hx]; exact (ih _).trans (act_room d x)
    · rw [run_cons_err hx]
/-! Crashes, step by step -/
theorem crashWs_snoc : ∀ (ws : List Bs) (ms : List Int) (w : Bs) (st : Bs × Nat), crashWs ms (ws ++ [w]) st = crashW (crashWs ms ws st) w ((ms.drop ws.length).headD 0) := by
  intro ws
  induction ws with
  | nil => intro ms w st; simp [crashWs]
  | cons v r ih =>
    intro ms w st
    rw [List.cons_append, crashWs, ih, crashWs, List.length_cons]
    congr 2
    rw [← List.drop_one, List.drop_drop, Nat.add_comm]
theorem crash_length : ∀ (fs : List Fil) (ms : List Int), (crash ms fs).length = fs.length := by
  intro fs
  induction fs with
  | nil => intro ms; rfl
  | cons f r ih => intro ms; rw [crash, List.length_cons, ih, List.length_cons]
theorem crash_get : ∀ {fs : List Fil} {ms : List Int} {j : Nat} {f : Fil}, fs[j]? = some f → (crash ms fs)[j]? = some (crashF (ms.drop (loose (fs.take j))) f) := by
  intro fs
  induction fs with
  | nil => intro ms j f h; simp at h
  | cons x r ih =>
    intro ms j f h
    rw [crash]
    cases j with
    | zero => simp at h; subst h; simp [loose]
    | succ j =>
      simp at h
      rw [List.getElem?_cons_succ, ih h, List.drop_drop, List.take_succ_cons, loose_cons]
theorem crash_names : ∀ (fs : List Fil) (ms : List Int), names (crash ms fs) = names fs := by
  intro fs
  induction fs with
  | nil => intro ms; rfl
  | cons f r ih => intro ms; unfold names at ih ⊢; rw [crash, List.map_cons, List.map_cons, ih]; rfl
theorem names_rising {fs gs : List Fil} (h : Rising fs) (e : names gs = names fs) : Rising gs := by
  unfold Rising names at *
  have h1 : (fs.map (·.name)).Pairwise (· < ·) := by rw [List.pairwise_map]; exact h
  rw [← e, List.pairwise_map] at h1
  exact h1
theorem crash_rising {fs : List Fil} (h : Rising fs) (ms : List Int) : Rising (crash ms fs) := names_rising h (crash_names fs ms)
theorem crash_loose : ∀ (fs : List Fil) (ms : List Int), loose (crash ms fs) = 0 := by
  intro fs
  induction fs with
  | nil => intro ms; rfl
  | cons f r ih => intro ms; rw [crash, loose_cons, ih]; rfl
theorem crashWs_len : ∀ (ws : List Bs) (ms : List Int) (st : Bs × Nat), (crashWs ms ws st).1.length = st.1.length + ws.flatten.length := by
  intro ws
  induction ws with
  | nil => intro ms st; simp [crashWs]
  | cons w r ih =>
    intro ms st
    rw [crashWs, ih]
    simp only [crashW, List.length_append, List.length_take, List.length_replicate, List.flatten_cons]
    omega
theorem crashF_len (ms : List Int) (f : Fil) : (crashF ms f).all.length ≤ f.all.length := by
  have := crashWs_len f.ws ms ([], 0)
  simp only [crashF, Fil.all, List.flatten_nil, List.append_nil, List.length_append, List.length_take, List.length_nil] at *
  omega
theorem crash_size : ∀ (fs : List Fil) (ms : List Int), size (crash ms fs) ≤ size fs := by
  intro fs
  induction fs with
  | nil => intro ms; exact Nat.le_refl _
  | cons f r ih => intro ms; rw [crash, size_cons, size_cons]; have := ih (ms.drop f.ws.length); have := crashF_len ms f; omega
theorem Fits.crashed {n : Nat} {d : Dk} (h : Fits n d) (ms : List Int) : Fits n ⟨d.room, crash ms d.fs⟩ := by
  refine ⟨crash_rising h.rising ms, h.room, ?_, ?_, ?_, ?_⟩
  · have := crash_size d.fs ms; have := h.size; show (Disk.size (Disk.crash ms d.fs) : Int) ≤ d.room; omega
  · show Disk.loose (Disk.crash ms d.fs) ≤ n; rw [crash_loose]; exact Nat.zero_le _
  · show (Disk.crash ms d.fs).length ≤ n; rw [crash_length]; exact h.files
  · intro f hf
    have h1 : f.name ∈ names (Disk.crash ms d.fs) := List.mem_map.2 ⟨f, hf, rfl⟩
    rw [crash_names] at h1
    obtain ⟨g, hg, e⟩ := List.mem_map.1 h1
    rw [← e]; exact h.named g hg
/-- A file of the same name in the place of the j-th. -/
theorem putIn_set {fs : List Fil} {j : Nat} {f g : Fil} (h : Rising fs) (hj : fs[j]? = some f) (hn : g.name = f.name) : putIn g fs = fs.set j g := by
  refine rising_eq (putIn_rising h) ?_ ?_
  · refine names_rising h ?_
    unfold names
    rw [List.map_set, hn]
    have : (fs.map (·.name))[j]? = some f.name := by rw [List.getElem?_map, hj]; rfl
    obtain ⟨hlt, e⟩ := List.getElem?_eq_some_iff.1 this
    rw [← e]; exact List.set_getElem_self hlt
  · have hlt : j < fs.length := (List.getElem?_eq_some_iff.1 hj).1
    have h1 : fs.Perm (f :: without f.name fs) := without_perm h.nodup (List.mem_of_getElem? hj)
    have h2 : fs.Perm (f :: fs.eraseIdx j) := by
      have e : fs = fs.take j ++ f :: fs.drop (j + 1) := by
        conv => lhs; rw [← List.take_append_drop j fs, List.drop_eq_getElem_cons hlt]
        rw [(List.getElem?_eq_some_iff.1 hj).2]
      have e2 : fs.eraseIdx j = fs.take j ++ fs.drop (j + 1) := List.eraseIdx_eq_take_drop_succ _ _
      rw [e2]
      conv => lhs; rw [e]
      exact List.perm_middle
    have h3 : (without f.name fs).Perm (fs.eraseIdx j) := (h1.symm.trans h2).cons_inv
    have h4 : (fs.set j g).Perm (g :: fs.eraseIdx j) := by
      rw [List.set_eq_take_append_cons_drop, if_pos hlt, List.eraseIdx_eq_take_drop_succ]
      exact List.perm_middle
    rw [← hn] at h3
    exact (putIn_perm g fs).trans ((h3.cons g).trans h4.symm)
end Go.Disk
