import Derived.Test.YtlblpiapeieofaaDiskPlain
/- What the laws of disks ask, in plain terms. No program. -/
set_option linter.unusedVariables false
namespace Go.Disk
theorem act_full {d : Dk} {x : Op} (h : (act d x).2 = 11) : d.room < (size d.fs : Int) + x.data.length := by
  revert h
  unfold act
  repeat' split
  all_goals first
    | (intro h; exact absurd (show (2 : Int) = 11 from h) (by decide))
    | (intro h; exact absurd (show (0 : Int) = 11 from h) (by decide))
    | (intro h; exact absurd (show (4 : Int) = 11 from h) (by decide))
    | (intro _; assumption)
theorem run_size : ∀ (xs : List Op) {d : Dk}, Rising d.fs → size (run d xs).1.fs ≤ size d.fs + longT xs := by
  intro xs
  induction xs with
  | nil => intro d _; exact Nat.le_refl _
  | cons x r ih =>
    intro d h
    have hl : longT (x :: r) = (2 + x.data.length + x.name.length + x.to.length) + longT r := by simp [longT]
    by_cases hx : (act d x).2 = 0
    · rw [run_cons_ok hx]
      have h1 := ih (act_rising h x)
      have h2 := (act_size h x).1
      simp only at h1 ⊢
      omega
    · rw [run_cons_err hx]; exact Nat.le_add_right _ _
theorem find_put {f : Fil} : ∀ {fs : List Fil}, (∀ g ∈ fs, g.name ≠ f.name) → find f.name (put f fs) = some f := by
  intro fs
  induction fs with
  | nil => intro _; simp [put, find]
  | cons x r ih =>
    intro h
    have hx := h x (List.mem_cons_self ..)
    unfold put
    split
    · simp [find]
    · rw [find, if_neg hx]; exact ih fun g hg => h g (List.mem_cons_of_mem _ hg)
theorem find_putIn (f : Fil) (fs : List Fil) : find f.name (putIn f fs) = some f := find_put fun g hg => (mem_without.1 hg).2
theorem find_put_other {a : Bs} {f : Fil} (hne : a ≠ f.name) : ∀ {fs : List Fil}, find a (put f fs) = find a fs := by
  intro fs
  induction fs with
  | nil => show find a [f] = none; unfold find; rw [if_neg (fun e : f.name = a => hne e.symm)]; rfl
  | cons x r ih =>
    unfold put
    split
    · rw [find, if_neg (fun e : f.name = a => hne e.symm)]
    · rw [find, find, ih]
theorem find_without_other {a b : Bs} (hne : a ≠ b) : ∀ {fs : List Fil}, find a (without b fs) = find a fs := by
  intro fs
  induction fs with
  | nil => rfl
  | cons x r ih =>
    unfold without at ih ⊢
    rw [List.filter_cons]
    split
    · rw [find, find, ih]
    · rename_i hx
      have hx' : x.name = b := by simpa using hx
      rw [find, if_neg (fun e => hne (e.symm.trans hx')), ih]
theorem find_without_self {a : Bs} (fs : List Fil) : find a (without a fs) = none := by
  cases h : find a (without a fs) with
  | none => rfl
  | some f => have := find_some h; exact absurd this.2 (mem_without.1 this.1).2
theorem find_putIn_other {a : Bs} {f : Fil} (hne : a ≠ f.name) (fs : List Fil) : find a (putIn f fs) = find a fs := by
  unfold putIn; rw [find_put_other hne, find_without_other hne]
theorem find_get {a : Bs} {f : Fil} : ∀ {fs : List Fil}, find a fs = some f → ∃ j : Nat, fs[j]? = some f := by
  intro fs h; exact List.getElem?_of_mem (find_some h).1
theorem names_putIn {f g : Fil} {fs : List Fil} (h : Rising fs) (hf : find f.name fs = some g) : names (putIn f fs) = names fs := by
  obtain ⟨j, hj⟩ := find_get hf
  have hn := (find_some hf).2
  rw [putIn_set h hj hn.symm]
  unfold names
  rw [List.map_set, ← hn]
  have : (fs.map (·.name))[j]? = some g.name := by rw [List.getElem?_map, hj]; rfl
  obtain ⟨hlt, e⟩ := List.getElem?_eq_some_iff.1 this
  rw [← e]; exact List.set_getElem_self hlt
theorem good_op {k : Int} {a b data : Bs} (ha : named a) (hk : 1 ≤ k ∧ k ≤ 4) (hb : k = 3 → named b) : ¬ badOp ⟨k, a, b, data⟩ := by
  unfold badOp
  simp only
  intro h
  rcases h with h | h | h | ⟨h, h'⟩
  · omega
  · omega
  · exact h ha
  · exact h' (hb h)
/-! Renames -/
theorem act_rename_none {d : Dk} {a b : Bs} (ha : named a) (hb : named b) (hf : find a d.fs = none) : act d ⟨3, a, b, []⟩ = (d, 4) := by
  unfold act
  rw [if_neg (good_op ha (by omega) fun _ => hb), if_neg (show ¬ (3 : Int) = 1 by decide)]
  simp only [hf]
theorem act_rename {d : Dk} {a b : Bs} {f : Fil} (ha : named a) (hb : named b) (hf : find a d.fs = some f) : act d ⟨3, a, b, []⟩ = (⟨d.room, putIn ⟨b, f.firm, f.ws⟩ (without a d.fs)⟩, 0) := by
  unfold act
  rw [if_neg (good_op ha (by omega) fun _ => hb), if_neg (show ¬ (3 : Int) = 1 by decide)]
  simp only [hf]
  rw [if_neg (show ¬ (3 : Int) = 2 by decide)]
  rfl
theorem act_remove {d : Dk} {a : Bs} {f : Fil} (ha : named a) (hf : find a d.fs = some f) : act d ⟨4, a, [], []⟩ = (⟨d.room, without a d.fs⟩, 0) := by
  unfold act
  rw [if_neg (good_op ha (by omega) (by omega)), if_neg (show ¬ (4 : Int) = 1 by decide)]
  simp only [hf]
  rw [if_neg (show ¬ (4 : Int) = 2 by decide)]
  rfl
theorem read_some {d : Dk} {a : Bs} {f : Fil} (hf : find a d.fs = some f) : read d a = (f.all, 0) := by unfold read; rw [hf]
theorem read_none {d : Dk} {a : Bs} (hf : find a d.fs = none) : read d a = ([], 4) := by unfold read; rw [hf]
theorem read_len {n : Nat} {d : Dk} (hfit : Fits n d) (a : Bs) : (read d a).1.length ≤ 1099511627776 := by
  cases hf : find a d.fs with
  | none => rw [read_none hf]; exact Nat.zero_le _
  | some f =>
    rw [read_some hf]
    have hm := (find_some hf).1
    have h1 : f.all.length ≤ size d.fs := by
      rw [size_without hfit.rising.nodup hm]; omega
    have := hfit.size
    have := hfit.room
    show f.all.length ≤ _
    omega
theorem renames_none {d : Dk} {a b : Bs} (ha : named a) (hb : named b) (hf : find a d.fs = none) : (act d ⟨3, a, b, []⟩).2 = 4 ∧ (act d ⟨3, a, b, []⟩).1 = d ∧ (read d a).2 = 4 := by
  rw [act_rename_none ha hb hf, read_none hf]; exact ⟨rfl, rfl, rfl⟩
theorem renames {d : Dk} {a b : Bs} {f : Fil} (ha : named a) (hb : named b) (hf : find a d.fs = some f) :
    (act d ⟨3, a, b, []⟩).2 = 0 ∧ (read d a).2 = 0 ∧ read (act d ⟨3, a, b, []⟩).1 b = read d a ∧ ((read (act d ⟨3, a, b, []⟩).1 a).2 = 0 ↔ a = b) ∧ (act (act d ⟨3, a, b, []⟩).1 ⟨4, b, [], []⟩).2 = 0 ∧ (read (act (act d ⟨3, a, b, []⟩).1 ⟨4, b, [], []⟩).1 b).2 = 4 := by
  have h1 := find_putIn ⟨b, f.firm, f.ws⟩ (without a d.fs)
  have hx := act_remove (d := ⟨d.room, putIn ⟨b, f.firm, f.ws⟩ (without a d.fs)⟩) hb h1
  rw [act_rename ha hb hf]
  refine ⟨rfl, by rw [read_some hf], by rw [read_some h1, read_some hf]; rfl, ⟨fun h => ?_, fun h => ?_⟩, by rw [hx], by rw [hx, read_none (find_without_self _)]⟩
  · apply Decidable.byContradiction
    intro hab
    have : find a (putIn ⟨b, f.firm, f.ws⟩ (without a d.fs)) = none := by rw [find_putIn_other (f := ⟨b, f.firm, f.ws⟩) hab, find_without_self]
    rw [read_none this] at h
    exact absurd h (by decide)
  · rw [h] at h1 ⊢
    rw [read_some h1]
theorem lasts_get {was more : Bs} {m q : Nat} {a b : UInt8} (h : (was ++ more.take m)[q]? = some a) (hq : was.length ≤ q) (h2 : more[((q : Int) - (was.length : Int)).toNat]? = some b) : a = b := by
  rw [List.getElem?_append_right hq, List.getElem?_take] at h
  split at h
  · rw [show ((q : Int) - (was.length : Int)).toNat = q - was.length by omega] at h2
    exact Option.some.inj (h.symm.trans h2)
  · cases h
/-! Syncs -/
def syncF (f : Fil) : Fil := ⟨f.name, f.all, []⟩
def syncD (d : Dk) (j : Nat) : Dk := ⟨d.room, (d.fs.take j).map syncF ++ d.fs.drop j⟩
theorem syncD_zero (d : Dk) : syncD d 0 = d := rfl
theorem sync_names (fs : List Fil) (j : Nat) : names ((fs.take j).map syncF ++ fs.drop j) = names fs := by
  unfold names
  rw [List.map_append, List.map_map]
  conv => rhs; rw [← List.take_append_drop j fs, List.map_append]
  rfl
theorem syncF_all (f : Fil) : (syncF f).all.length = f.all.length := by simp [syncF, Fil.all]
theorem sync_size (fs : List Fil) (j : Nat) : size ((fs.take j).map syncF ++ fs.drop j) = size fs := by
  have e : size ((fs.take j).map syncF) = size (fs.take j) := by
    unfold size
    rw [List.map_map]
    congr 1
    exact List.map_congr_left fun f _ => syncF_all f
  have ap : ∀ a b : List Fil, size (a ++ b) = size a + size b := fun a b => by simp [size]
  rw [ap, e, ← ap, List.take_append_drop]
theorem sync_loose (fs : List Fil) (j : Nat) : loose ((fs.take j).map syncF ++ fs.drop j) ≤ loose fs ∧ (fs.length ≤ j → loose ((fs.take j).map syncF ++ fs.drop j) = 0) := by
  have ap : ∀ a b : List Fil, loose (a ++ b) = loose a + loose b := fun a b => by simp [loose]
  have e : ∀ l : List Fil, loose (l.map syncF) = 0 := by
    intro l
    induction l with
    | nil => rfl
    | cons f r ih => rw [List.map_cons, loose_cons, ih]; rfl
  constructor
  · rw [ap, e]
    conv => rhs; rw [← List.take_append_drop j fs, ap]
    omega
  · intro h; rw [ap, e, List.drop_eq_nil_of_le h]; rfl
theorem sync_fits {n : Nat} {d : Dk} (h : Fits n d) (j : Nat) : Fits n (syncD d j) := by
  refine ⟨names_rising h.rising (sync_names _ _), h.room, ?_, ?_, ?_, ?_⟩
  · show (size ((d.fs.take j).map syncF ++ d.fs.drop j) : Int) ≤ d.room
    rw [sync_size]; exact h.size
  · exact Nat.le_trans (sync_loose _ _).1 h.loose
  · show ((d.fs.take j).map syncF ++ d.fs.drop j).length ≤ n
    rw [List.length_append, List.length_map, ← List.length_append, List.take_append_drop]; exact h.files
  · intro f hf
    have h1 : f.name ∈ names ((d.fs.take j).map syncF ++ d.fs.drop j) := List.mem_map.2 ⟨f, hf, rfl⟩
    rw [sync_names] at h1
    obtain ⟨g, hg, e⟩ := List.mem_map.1 h1
    rw [← e]; exact h.named g hg
theorem sync_step {n : Nat} {d : Dk} {j : Nat} {f : Fil} (h : Fits n d) (hj : d.fs[j]? = some f) : act (syncD d j) ⟨2, f.name, [], []⟩ = (syncD d (j + 1), 0) := by
  have hlt := (List.getElem?_eq_some_iff.1 hj).1
  have hfit := sync_fits h j
  have hget : (syncD d j).fs[j]? = some f := by
    show ((d.fs.take j).map syncF ++ d.fs.drop j)[j]? = some f
    rw [List.getElem?_append_right (by rw [List.length_map, List.length_take]; omega), List.length_map, List.length_take, List.getElem?_drop, show j + (j - min j d.fs.length) = j by omega]; exact hj
  have hfind : find f.name (syncD d j).fs = some f := find_mem hfit.rising.nodup (List.mem_of_getElem? hget)
  have hn := h.named f (List.mem_of_getElem? hj)
  unfold act
  rw [if_neg (good_op hn (by omega) (by omega)), if_neg (show ¬ (2 : Int) = 1 by decide)]
  simp only [hfind, if_true]
  rw [putIn_set (g := ⟨f.name, f.all, []⟩) hfit.rising hget rfl]
  congr 1
  show (⟨d.room, ((d.fs.take j).map syncF ++ d.fs.drop j).set j (syncF f)⟩ : Dk) = ⟨d.room, (d.fs.take (j + 1)).map syncF ++ d.fs.drop (j + 1)⟩
  congr 1
  rw [List.set_append_right _ _ (by rw [List.length_map, List.length_take]; omega), List.length_map, List.length_take, Nat.min_eq_left (by omega), Nat.sub_self, List.drop_eq_getElem_cons hlt, List.set_cons_zero, List.take_add_one, hj, List.map_append, List.append_assoc]
  rfl
theorem crash_nows : ∀ (fs : List Fil) (ms : List Int), (∀ f ∈ fs, f.ws = []) → crash ms fs = fs := by
  intro fs
  induction fs with
  | nil => intro ms _; rfl
  | cons f r ih =>
    intro ms h
    rw [crash, ih _ fun g hg => h g (List.mem_cons_of_mem _ hg)]
    have hf := h f (List.mem_cons_self ..)
    congr 1
    unfold crashF
    cases f with
    | mk nm firm ws =>
      simp only at hf
      subst hf
      simp [crashWs]
theorem crash_sync (d : Dk) (ms : List Int) : (⟨(syncD d d.fs.length).room, crash ms (syncD d d.fs.length).fs⟩ : Dk) = syncD d d.fs.length := by
  have : crash ms (syncD d d.fs.length).fs = (syncD d d.fs.length).fs := crash_nows _ _ fun f hf => by
    have hf' : f ∈ (d.fs.take d.fs.length).map syncF ++ d.fs.drop d.fs.length := hf
    rw [List.drop_length, List.append_nil] at hf'
    obtain ⟨g, _, rfl⟩ := List.mem_map.1 hf'
    rfl
  rw [this]
theorem names_get {fs : List Fil} {j : Nat} {a : Bs} (h : (names fs)[j]? = some a) : ∃ f, fs[j]? = some f ∧ f.name = a := by
  unfold names at h
  rw [List.getElem?_map] at h
  cases hf : fs[j]? with
  | none => rw [hf] at h; cases h
  | some f => rw [hf] at h; exact ⟨f, rfl, by simpa using h⟩
/-! What lasts -/
theorem find_crash {a : Bs} {f : Fil} : ∀ {fs : List Fil} {ms : List Int}, find a fs = some f → ∃ ms', find a (crash ms fs) = some (crashF ms' f) := by
  intro fs
  induction fs with
  | nil => intro ms h; cases h
  | cons x r ih =>
    intro ms h
    rw [crash]
    rw [find] at h ⊢
    by_cases e : x.name = a
    · rw [if_pos e] at h
      cases h
      exact ⟨ms, by rw [if_pos (show (crashF ms f).name = a from e)]⟩
    · rw [if_neg e] at h
      obtain ⟨ms', h'⟩ := ih (ms := ms.drop x.ws.length) h
      exact ⟨ms', by rw [if_neg (show ¬ (crashF ms x).name = a from e)]; exact h'⟩
theorem crashF_one (ms : List Int) (a F w : Bs) : ∃ m, m ≤ w.length ∧ (crashF ms ⟨a, F, [] ++ [w]⟩).all = F ++ w.take m := by
  refine ⟨min (ms.headD 0).toNat w.length, Nat.min_le_right _ _, ?_⟩
  have hc : crashF ms ⟨a, F, [] ++ [w]⟩ = ⟨a, F ++ (crashW ([], 0) w (ms.headD 0)).1.take (crashW ([], 0) w (ms.headD 0)).2, []⟩ := rfl
  rw [hc]
  show (F ++ (crashW ([], 0) w (ms.headD 0)).1.take (crashW ([], 0) w (ms.headD 0)).2) ++ ([] : List Bs).flatten = _
  rw [List.flatten_nil, List.append_nil]
  congr 1
  unfold crashW
  simp only [List.nil_append, List.length_nil, Nat.zero_add]
  by_cases h0 : min (ms.headD 0).toNat w.length = 0
  · rw [if_pos h0, h0, List.take_zero, List.take_zero]
  · rw [if_neg h0]
    rcases Nat.le_total (ms.headD 0).toNat w.length with h | h
    · rw [Nat.min_eq_left h, List.take_append_of_le_length (by rw [List.length_take]; omega), List.take_take, Nat.min_self]
    · rw [Nat.min_eq_right h, List.take_of_length_le h, List.take_append_of_le_length (Nat.le_refl _)]
theorem act_write {d : Dk} {a w : Bs} (ha : named a) (hroom : (size d.fs : Int) + w.length ≤ d.room) : ∃ firm ws, act d ⟨1, a, [], w⟩ = (⟨d.room, putIn ⟨a, firm, ws ++ [w]⟩ d.fs⟩, 0) ∧ ∀ f, find a d.fs = some f → firm = f.firm ∧ ws = f.ws := by
  unfold act
  rw [if_neg (good_op ha (by omega) (by omega)), if_pos rfl, if_neg (by simp only; omega)]
  cases hf : find a d.fs with
  | none => exact ⟨[], [], rfl, fun f h => by cases h⟩
  | some f => exact ⟨f.firm, f.ws, by simp only [hf, (find_some hf).2], fun g hg => by cases hg; exact ⟨rfl, rfl⟩⟩
theorem act_sync {d : Dk} {a : Bs} {f : Fil} (ha : named a) (hf : find a d.fs = some f) : act d ⟨2, a, [], []⟩ = (⟨d.room, putIn ⟨a, f.all, []⟩ d.fs⟩, 0) := by
  unfold act
  rw [if_neg (good_op ha (by omega) (by omega)), if_neg (show ¬ (2 : Int) = 1 by decide)]
  simp only [hf, if_true, (find_some hf).2]
theorem lasts {n : Nat} {d : Dk} {a more : Bs} (hfit : Fits n d) (ha : named a) (hroom : (size d.fs : Int) + more.length ≤ d.room) (ms : List Int) :
    ∃ was m, m ≤ more.length ∧ (act (act d ⟨1, a, [], []⟩).1 ⟨2, a, [], []⟩).2 = 0 ∧ read (act (act d ⟨1, a, [], []⟩).1 ⟨2, a, [], []⟩).1 a = (was, 0) ∧
      read ⟨(act (act (act d ⟨1, a, [], []⟩).1 ⟨2, a, [], []⟩).1 ⟨1, a, [], more⟩).1.room, crash ms (act (act (act d ⟨1, a, [], []⟩).1 ⟨2, a, [], []⟩).1 ⟨1, a, [], more⟩).1.fs⟩ a = (was ++ more.take m, 0) ∧
      names (crash ms (act (act (act d ⟨1, a, [], []⟩).1 ⟨2, a, [], []⟩).1 ⟨1, a, [], more⟩).1.fs) = names (act (act d ⟨1, a, [], []⟩).1 ⟨2, a, [], []⟩).1.fs := by
  obtain ⟨firm, ws, e1, _⟩ := act_write (d := d) (w := []) ha (by simp only [List.length_nil]; omega)
  have s1 := (act_size hfit.rising ⟨1, a, [], []⟩).1
  have r1 := act_rising hfit.rising ⟨1, a, [], []⟩
  rw [e1] at s1 r1
  have f1 := find_putIn ⟨a, firm, ws ++ [[]]⟩ d.fs
  have e2 := act_sync (d := ⟨d.room, putIn ⟨a, firm, ws ++ [[]]⟩ d.fs⟩) ha f1
  have s2 := (act_size r1 ⟨2, a, [], []⟩).1
  have r2 := act_rising r1 ⟨2, a, [], []⟩
  rw [e2] at s2 r2
  obtain ⟨F, hF⟩ : ∃ F, F = Fil.all ⟨a, firm, ws ++ [[]]⟩ := ⟨_, rfl⟩
  rw [← hF] at e2 s2 r2
  have f2 := find_putIn ⟨a, F, []⟩ (putIn ⟨a, firm, ws ++ [[]]⟩ d.fs)
  obtain ⟨firm', ws', e3, h3⟩ := act_write (d := ⟨d.room, putIn ⟨a, F, []⟩ (putIn ⟨a, firm, ws ++ [[]]⟩ d.fs)⟩) (w := more) ha (by
    simp only [List.length_nil] at s1 s2 ⊢
    omega)
  obtain ⟨e4, e5⟩ := h3 _ f2
  rw [show firm' = F from e4, show ws' = [] from e5] at e3
  have f3 := find_putIn ⟨a, F, [] ++ [more]⟩ (putIn ⟨a, F, []⟩ (putIn ⟨a, firm, ws ++ [[]]⟩ d.fs))
  obtain ⟨ms', f4⟩ := find_crash (ms := ms) f3
  obtain ⟨m, hm, hall⟩ := crashF_one ms' a F more
  have n3 := names_putIn (f := ⟨a, F, [] ++ [more]⟩) r2 f2
  simp only [e1, e2, e3]
  refine ⟨F, m, hm, by first | rfl | trivial, ?_, ?_, ?_⟩
  · rw [read_some f2]; simp [Fil.all]
  · rw [read_some f4, hall]
  · rw [crash_names, n3]
end Go.Disk
