import Derived.Test.YtlblpiapeieofaaRlB
import Derived.Test.YtlblpiapeieofaaDiskPlain
/- A disk in memory: as a thing of the ledger, and as the document's value. No program. -/
set_option linter.unusedVariables false
set_option linter.unusedSimpArgs false
namespace Go.Disk
open Go.Rl
abbrev vI (x : Int) : Value := .int .i64 x
theorem Sl.heads {w : World} {v : Value} {hs hs' : List Hd} (h : Sl vh w v hs) (h' : Sl vh w v hs') (hl : hs.length = hs'.length) : hs = hs' := by
  obtain ⟨A, c, rfl, _, _, hc⟩ := h
  obtain ⟨A', c', he, _, _, hc'⟩ := h'
  simp only [Value.slice.injEq] at he
  obtain ⟨rfl, _, rfl⟩ := he
  refine List.ext_getElem? fun i => ?_
  rcases Nat.lt_or_ge i hs.length with hi | hi
  · have hi' : i < hs'.length := by omega
    obtain ⟨ad, rfl, h1⟩ := hc i (vh hs[i]) (by simp [List.getElem?_eq_getElem hi])
    obtain ⟨ad', e, h2⟩ := hc' i (vh hs'[i]) (by simp [List.getElem?_eq_getElem hi'])
    cases e
    rw [h1] at h2
    have e2 : vh hs[i] = vh hs'[i] := Option.some.inj h2
    simp only [vh, Value.slice.injEq] at e2
    rw [List.getElem?_eq_getElem hi, List.getElem?_eq_getElem hi']
    congr 1
    exact Prod.ext e2.1 (Prod.ext e2.2.1 e2.2.2)
  · rw [List.getElem?_eq_none hi, List.getElem?_eq_none (by omega)]
theorem SlO.heads {F G : Nat → Prop} {w : World} {v : Value} {hs hs' : List Hd} (h : SlO F vh w v hs) (h' : SlO G vh w v hs') (hl : hs.length = hs'.length) : hs = hs' := Disk.Sl.heads h.1 h'.1 hl
/-! ### The program's disk -/
structure Rec where
  name : Bs
  ptr : Nat
  born : Nat
  firm : Bs
  ws : List Bs
def Rec.fil (r : Rec) : Fil := ⟨r.name, r.firm, r.ws⟩
def Rec.ent (r : Rec) : Ent Bs := (r.name, .pointer (some ⟨r.ptr, 0, none⟩), r.born)
def fileL (Tf Ew : TypeId) (g : Nat) (fv wv : Value) (hs : List Hd) (firm : Bs) (ws : List Bs) : List Atom := [.blk g [fv, wv] Tf, .sl vb fv firm, .own vh Ew wv hs, .fam vb hs ws]
def fileA (Tf Ew : TypeId) (g : Nat) (firm : Bs) (ws : List Bs) (B : Nat → Prop) : Atom := .exs B fun L => ∃ fv wv hs, L = fileL Tf Ew g fv wv hs firm ws
def IsFile (Tf Ew : TypeId) (r : Rec) (a : Atom) : Prop := ∃ B, a = fileA Tf Ew r.ptr r.firm r.ws B
structure Well (rs : List Rec) (clock : Nat) (d : Dk) : Prop where
  perm : (rs.map Rec.fil).Perm d.fs
  rising : Rising d.fs
  borns : (rs.map (·.born)).Nodup
  old : ∀ r ∈ rs, r.born < clock
def dskL (Td Tf Ew : TypeId) (g : Nat) (d : Dk) (m : Nat) (rs : List Rec) (clock : Nat) (Bf : Nat → Prop) : List Atom := [.blk g [.int .i64 d.room, .map (some m)] Td, .mp str m (rs.map Rec.ent) clock, .each (IsFile Tf Ew) Bf rs]
def dskA (Td Tf Ew : TypeId) (g : Nat) (d : Dk) (B : Nat → Prop) : Atom := .exs B fun L => ∃ m rs clock Bf, Well rs clock d ∧ L = dskL Td Tf Ew g d m rs clock Bf
/-- What a reader may know of a disk. -/
structure DkF (Td Tf : TypeId) (w : World) (g : Nat) (d : Dk) (m : Nat) (rs : List Rec) (clock : Nat) : Prop where
  well : Well rs clock d
  blk : Blk w g [.int .i64 d.room, .map (some m)] Td
  mp : w.heap[m]? = some (.map (ents str (rs.map Rec.ent)) clock)
  file : ∀ r ∈ rs, ∃ h0 h1 hs, Blk w r.ptr [vh h0, vh h1] Tf ∧ Sl vb w (vh h0) r.firm ∧ Sl vh w (vh h1) hs ∧ Els none_ vb w hs r.ws
def DkR (Td Tf : TypeId) (w : World) (g : Nat) (d : Dk) : Prop := ∃ m rs clock, DkF Td Tf w g d m rs clock
section
variable {Td Tf Ew : TypeId} {w0 w w' : World} {F : Nat → Prop} {R : List Atom} {g m clock : Nat} {d : Dk} {rs : List Rec} {Bf B : Nat → Prop} {r : Rec} {i : Nat} {firm : Bs} {ws : List Bs}
theorem DkF.ext (h : DkF Td Tf w g d m rs clock) (he : Ext w w') : DkF Td Tf w' g d m rs clock := ⟨h.well, h.blk.ext he, he.heap h.mp id, fun r hr => by
  obtain ⟨fv, wv, hs, h1, h2, h3, h4⟩ := h.file r hr
  exact ⟨fv, wv, hs, h1.ext he, h2.ext he, h3.ext he, h4.ext he⟩⟩
theorem DkR.ext (h : DkR Td Tf w g d) (he : Ext w w') : DkR Td Tf w' g d := by obtain ⟨m, rs, c, h⟩ := h; exact ⟨m, rs, c, h.ext he⟩
theorem DkF.of (hw : Well rs clock d) (h : Now w0 F w (dskL Td Tf Ew g d m rs clock Bf ++ R)) : DkF Td Tf w g d m rs clock := by
  refine ⟨hw, h.blk 0 rfl, h.mp 1 rfl, fun r hr => ?_⟩
  obtain ⟨L, hL, hN⟩ := (h.says 2 (.each (IsFile Tf Ew) Bf rs) rfl : ∃ L, Each (IsFile Tf Ew) rs L ∧ Now w Bf w L)
  obtain ⟨a, ha, ⟨B, rfl⟩⟩ := hL.mem hr
  obtain ⟨j, hj⟩ := List.getElem?_of_mem ha
  obtain ⟨L', ⟨fv, wv, hs, rfl⟩, hN'⟩ := (hN.says j _ hj : ∃ L', _ ∧ Now w B w L')
  obtain ⟨h0, e0⟩ := (hN'.slr 1 rfl).hd
  obtain ⟨h1, e1⟩ := (hN'.sl 2 rfl).hd
  subst e0 e1
  exact ⟨h0, h1, hs, hN'.blk 0 rfl, hN'.slr 1 rfl, hN'.sl 2 rfl, hN'.els 3 rfl⟩
theorem dsk_open (h : Now w0 F w (dskA Td Tf Ew g d B :: R)) : ∃ m rs clock Bf, Well rs clock d ∧ Now w0 F w (dskL Td Tf Ew g d m rs clock Bf ++ R) := by
  obtain ⟨L, ⟨m, rs, c, Bf, hw, rfl⟩, hN⟩ := Now.exsOpen h
  exact ⟨m, rs, c, Bf, hw, hN⟩
theorem dsk_close (hw : Well rs clock d) (h : Now w0 F w (dskL Td Tf Ew g d m rs clock Bf ++ R)) : ∃ B, Now w0 F w (dskA Td Tf Ew g d B :: R) := ⟨_, h.exsShut _ ⟨m, rs, clock, Bf, hw, rfl⟩⟩
theorem dsk_facts (h : Now w0 F w (dskA Td Tf Ew g d B :: R)) : DkR Td Tf w g d := by
  obtain ⟨m, rs, c, Bf, hw, hN⟩ := dsk_open h
  exact ⟨m, rs, c, DkF.of hw hN⟩
theorem dsk_says (h : (dskA Td Tf Ew g d B).says w) : DkR Td Tf w g d := by
  obtain ⟨L, ⟨m, rs, c, Bf, hw, rfl⟩, hN⟩ := (h : ∃ L, _ ∧ Now w B w L)
  exact ⟨m, rs, c, DkF.of (R := []) hw (by rw [List.append_nil]; exact hN)⟩
theorem file_open (hi : rs[i]? = some r) (h : Now w0 F w (.each (IsFile Tf Ew) Bf rs :: R)) : ∃ h0 h1 hs Bf', Now w0 F w (fileL Tf Ew r.ptr (vh h0) (vh h1) hs r.firm r.ws ++ (.each (IsFile Tf Ew) Bf' (rs.eraseIdx i) :: R)) := by
  obtain ⟨a, B', ⟨B, rfl⟩, hN⟩ := Now.eachOut h hi
  obtain ⟨L, ⟨fv, wv, hs, rfl⟩, hN⟩ := Now.exsOpen hN
  obtain ⟨h0, e0⟩ := (hN.slr 1 rfl).hd
  obtain ⟨h1, e1⟩ := (hN.sl 2 rfl).hd
  subst e0 e1
  exact ⟨h0, h1, hs, B', hN⟩
theorem file_shut {fv wv : Value} {hs : List Hd} (h : Now w0 F w (fileL Tf Ew g fv wv hs firm ws ++ R)) : ∃ B, Now w0 F w (fileA Tf Ew g firm ws B :: R) := ⟨_, h.exsShut _ ⟨fv, wv, hs, rfl⟩⟩
theorem file_in {fv wv : Value} {hs : List Hd} {r' : Rec} (hi : rs[i]? = some r) (h : Now w0 F w (fileL Tf Ew r'.ptr fv wv hs r'.firm r'.ws ++ (.each (IsFile Tf Ew) Bf (rs.eraseIdx i) :: R))) : ∃ Bf', Now w0 F w (.each (IsFile Tf Ew) Bf' (rs.set i r') :: R) := by
  obtain ⟨B, h⟩ := file_shut h
  exact Now.eachIn ⟨B, rfl⟩ hi h
theorem file_add {fv wv : Value} {hs : List Hd} {r' : Rec} (h : Now w0 F w (fileL Tf Ew r'.ptr fv wv hs r'.firm r'.ws ++ (.each (IsFile Tf Ew) Bf rs :: R))) : ∃ Bf', Now w0 F w (.each (IsFile Tf Ew) Bf' (rs ++ [r']) :: R) := by
  obtain ⟨B, h⟩ := file_shut h
  obtain ⟨Bf', h⟩ := Now.eachCons (x := r') ⟨B, rfl⟩ h
  exact ⟨Bf', Now.eachPerm h (List.perm_append_comm (l₁ := [r']))⟩
theorem Now.drop1 {a : Atom} (h : Now w0 F w (a :: R)) : Now w0 F w R := by
  rw [Now.iff] at h ⊢
  exact ⟨h.1, fun x hx => h.2.1 x (List.mem_cons_of_mem _ hx), fun x hx => h.2.2.1 x (List.mem_cons_of_mem _ hx), (List.pairwise_cons.1 h.2.2.2).2⟩
theorem file_drop (hi : rs[i]? = some r) (h : Now w0 F w (.each (IsFile Tf Ew) Bf rs :: R)) : ∃ Bf', Now w0 F w (.each (IsFile Tf Ew) Bf' (rs.eraseIdx i) :: R) := by
  obtain ⟨a, B', _, hN⟩ := Now.eachOut h hi
  exact ⟨B', Now.drop1 hN⟩
/-- A file is taken out of one place and put into another one's, whose file is gone. -/
theorem file_move {r' r2 : Rec} {k : Nat} (hi : rs[i]? = some r) (hk : (rs.eraseIdx i)[k]? = some r2) (e1 : r'.ptr = r.ptr) (e2 : r'.firm = r.firm) (e3 : r'.ws = r.ws) (h : Now w0 F w (.each (IsFile Tf Ew) Bf rs :: R)) :
    ∃ Bf', Now w0 F w (.each (IsFile Tf Ew) Bf' ((rs.eraseIdx i).set k r') :: R) := by
  obtain ⟨a, B', ⟨B, rfl⟩, hN⟩ := Now.eachOut h hi
  have h1 : Now w0 F w (.each (IsFile Tf Ew) B' (rs.eraseIdx i) :: fileA Tf Ew r.ptr r.firm r.ws B :: R) := hN.perm (.swap _ _ _)
  obtain ⟨B2, h2⟩ := file_drop hk h1
  have h3 : Now w0 F w (fileA Tf Ew r.ptr r.firm r.ws B :: .each (IsFile Tf Ew) B2 ((rs.eraseIdx i).eraseIdx k) :: R) := h2.perm (.swap _ _ _)
  exact Now.eachIn ⟨B, by rw [e1, e2, e3]⟩ hk h3
theorem file_move' {r' : Rec} (hi : rs[i]? = some r) (e1 : r'.ptr = r.ptr) (e2 : r'.firm = r.firm) (e3 : r'.ws = r.ws) (h : Now w0 F w (.each (IsFile Tf Ew) Bf rs :: R)) :
    ∃ Bf', Now w0 F w (.each (IsFile Tf Ew) Bf' (rs.eraseIdx i ++ [r']) :: R) := by
  obtain ⟨a, B', ⟨B, rfl⟩, hN⟩ := Now.eachOut h hi
  obtain ⟨Bf', h⟩ := Now.eachCons (P := IsFile Tf Ew) (x := r') ⟨B, by rw [e1, e2, e3]⟩ hN
  exact ⟨Bf', Now.eachPerm h (List.perm_append_comm (l₁ := [r']))⟩
end
theorem opt_cases {α : Type} (o : Option α) : o = none ∨ ∃ a, o = some a := by cases o with | none => exact .inl rfl | some a => exact .inr ⟨a, rfl⟩
/-- A slice off what may be written, for one of the things of the ledger. -/
theorem SlO.at {α : Type} {enc : α → Value} {w0 w : World} {F : Nat → Prop} {L : List Atom} {a : Atom} {v : Value} {l : List α} (h : SlO F enc w0 v l) (hN : Now w0 F w L) (i : Nat) (hi : L[i]? = some a) : SlO (foots [a]) enc w v l :=
  (h.step hN).less fun k _ ⟨b, hb, hk⟩ => by
    rw [List.mem_singleton] at hb
    subst hb
    exact ⟨b, List.mem_of_getElem? hi, hk⟩
theorem Now.addSlNil {w0 w : World} {F : Nat → Prop} {L : List Atom} (h : Now w0 F w L) : Now w0 F w (.sl vb (.slice none 0 0) [] :: L) :=
  h.add (⟨Sl.nil _ _, fun k hk => by cases hk⟩ : Sl vb w (.slice none 0 0) [] ∧ ∀ k, Value.ownBlock (.slice none 0 0) = Option.some k → k < w.heap.size) (fun k hk => by cases hk) (fun _ _ _ _ _ hk => by cases hk)
/-! ### Names in a map -/
section
variable {rs : List Rec} {clock : Nat} {d : Dk} {r : Rec} {i : Nat} {a : Bs}
theorem Well.nodup (h : Well rs clock d) : (names (rs.map Rec.fil)).Nodup := (h.perm.map _).nodup_iff.2 h.rising.nodup
theorem Well.find (h : Well rs clock d) (a : Bs) : find a d.fs = Disk.find a (rs.map Rec.fil) := (find_perm h.nodup h.perm).symm
theorem kfind_rec (a : Bs) : ∀ (rs : List Rec) (k : Nat), match Disk.find a (rs.map Rec.fil) with
    | none => kfind a (rs.map Rec.ent) k = none
    | some f => ∃ i r, rs[i]? = some r ∧ r.fil = f ∧ kfind a (rs.map Rec.ent) k = some (k + i, .pointer (some ⟨r.ptr, 0, none⟩)) := by
  intro rs
  induction rs with
  | nil => intro k; rfl
  | cons x l ih =>
    intro k
    simp only [List.map_cons, Disk.find, kfind]
    by_cases hx : x.name = a
    · have e1 : x.fil.name = a := hx
      have e2 : a = x.ent.1 := hx.symm
      rw [if_pos e1, if_pos e2]
      exact ⟨0, x, rfl, rfl, rfl⟩
    · have e1 : ¬ x.fil.name = a := hx
      have e2 : ¬ a = x.ent.1 := fun e => hx e.symm
      rw [if_neg e1, if_neg e2]
      have := ih (k + 1)
      cases hf : Disk.find a (l.map Rec.fil) with
      | none => rw [hf] at this; exact this
      | some f =>
        rw [hf] at this
        obtain ⟨i, r, h1, h2, h3⟩ := this
        exact ⟨i + 1, r, by simpa using h1, h2, by rw [h3]; congr 2; omega⟩
theorem Well.kNone (h : Well rs clock d) (hf : Disk.find a d.fs = none) : kfind a (rs.map Rec.ent) 0 = none := by
  have := kfind_rec a rs 0
  rw [← h.find, hf] at this
  exact this
theorem Well.kSome {f : Fil} (h : Well rs clock d) (hf : Disk.find a d.fs = some f) : ∃ i r, rs[i]? = some r ∧ r.fil = f ∧ r.name = a ∧ kfind a (rs.map Rec.ent) 0 = some (i, .pointer (some ⟨r.ptr, 0, none⟩)) := by
  have := kfind_rec a rs 0
  have hn := (find_some hf).2
  rw [← h.find, hf] at this
  obtain ⟨i, r, h1, h2, h3⟩ := this
  exact ⟨i, r, h1, h2, by rw [← hn, ← h2]; rfl, by rw [h3, Nat.zero_add]⟩
theorem ent_get (hi : rs[i]? = some r) : (rs.map Rec.ent)[i]? = some (r.name, .pointer (some ⟨r.ptr, 0, none⟩), r.born) := by rw [List.getElem?_map, hi]; rfl
theorem fil_get (hi : rs[i]? = some r) : (rs.map Rec.fil)[i]? = some r.fil := by rw [List.getElem?_map, hi]; rfl
theorem without_eraseIdx {a : Bs} : ∀ {fs : List Fil} {i : Nat} {f : Fil}, (names fs).Nodup → fs[i]? = some f → without f.name fs = fs.eraseIdx i := by
  intro fs
  induction fs with
  | nil => intro i f _ h; simp at h
  | cons x l ih =>
    intro i f hn h
    unfold names at hn
    rw [List.map_cons, List.nodup_cons] at hn
    cases i with
    | zero =>
      simp at h; subst h
      unfold without
      rw [List.filter_cons, if_neg (by simp), List.eraseIdx_cons_zero]
      exact List.filter_eq_self.2 fun g hg => by simpa using fun e : g.name = x.name => hn.1 (by rw [← e]; exact List.mem_map.2 ⟨g, hg, rfl⟩)
    | succ i =>
      simp at h
      have hne : ¬ x.name = f.name := fun e => hn.1 (by rw [e]; exact List.mem_map.2 ⟨f, List.mem_of_getElem? h, rfl⟩)
      have := ih hn.2 h
      unfold without at this ⊢
      rw [List.filter_cons, if_pos (by simpa using hne), List.eraseIdx_cons_succ, this]
theorem map_eraseIdx' {α β : Type} (f : α → β) : ∀ (l : List α) (i : Nat), (l.eraseIdx i).map f = (l.map f).eraseIdx i := by
  intro l
  induction l with
  | nil => intro i; rfl
  | cons x l ih => intro i; cases i <;> simp [ih]
theorem without_congr {a : Bs} {fs gs : List Fil} (h : fs.Perm gs) : (without a fs).Perm (without a gs) := h.filter _
theorem Well.set {firm : Bs} {ws : List Bs} (h : Well rs clock d) (hi : rs[i]? = some r) : Well (rs.set i ⟨r.name, r.ptr, r.born, firm, ws⟩) clock ⟨d.room, putIn ⟨r.name, firm, ws⟩ d.fs⟩ := by
  have hlt : i < rs.length := (List.getElem?_eq_some_iff.1 hi).1
  have hnd := h.nodup
  refine ⟨?_, putIn_rising h.rising, ?_, ?_⟩
  · have h1 : ((rs.set i ⟨r.name, r.ptr, r.born, firm, ws⟩).map Rec.fil).Perm (⟨r.name, firm, ws⟩ :: (rs.map Rec.fil).eraseIdx i) := by
      rw [List.map_set]
      exact (perm_set (fil_get hi)).symm
    refine h1.trans (.trans ?_ (putIn_perm _ _).symm)
    rw [← without_eraseIdx (a := r.name) hnd (fil_get hi)]
    exact (without_congr h.perm).cons _
  · rw [List.map_set]
    have : (rs.map (·.born))[i]? = some r.born := by rw [List.getElem?_map, hi]; rfl
    rw [set_self this]; exact h.borns
  · intro x hx
    rcases List.mem_or_eq_of_mem_set hx with hx | rfl
    · exact h.old x hx
    · exact h.old r (List.mem_of_getElem? hi)
theorem Well.new {p : Nat} {firm : Bs} {ws : List Bs} (h : Well rs clock d) (hf : Disk.find a d.fs = none) : Well (rs ++ [⟨a, p, clock, firm, ws⟩]) (clock + 1) ⟨d.room, putIn ⟨a, firm, ws⟩ d.fs⟩ := by
  refine ⟨?_, putIn_rising h.rising, ?_, ?_⟩
  · rw [List.map_append, List.map_singleton]
    refine List.Perm.trans List.perm_append_comm (.trans ?_ (putIn_perm _ _).symm)
    have e : without (Fil.name ⟨a, firm, ws⟩) d.fs = d.fs := without_none hf
    rw [e]
    exact h.perm.cons _
  · rw [List.map_append, List.map_singleton, List.nodup_append]
    refine ⟨h.borns, by simp, ?_⟩
    intro x hx y hy
    obtain ⟨q, hq, rfl⟩ := List.mem_map.1 hx
    have := h.old q hq
    simp at hy; subst hy; omega
  · intro x hx
    rcases List.mem_append.1 hx with hx | hx
    · have := h.old x hx; omega
    · simp at hx; subst hx; exact Nat.lt_succ_self _
theorem Well.erase (h : Well rs clock d) (hi : rs[i]? = some r) : Well (rs.eraseIdx i) clock ⟨d.room, without r.name d.fs⟩ := by
  refine ⟨?_, h.rising.without _, ?_, fun x hx => h.old x (List.mem_of_mem_eraseIdx hx)⟩
  · rw [map_eraseIdx', ← without_eraseIdx (a := r.name) h.nodup (fil_get hi)]
    exact without_congr h.perm
  · rw [map_eraseIdx']
    exact List.Sublist.nodup (List.eraseIdx_sublist _ _) h.borns
theorem Well.names_perm (h : Well rs clock d) : (rs.map (·.name)).Perm (names d.fs) := by
  have := h.perm.map (fun f : Fil => f.name)
  rw [List.map_map] at this
  exact this
theorem Well.put {r2 : Rec} {k p : Nat} {firm : Bs} {ws : List Bs} (h : Well rs clock d) (hk : rs[k]? = some r2) : Well (rs.set k ⟨r2.name, p, r2.born, firm, ws⟩) clock ⟨d.room, putIn ⟨r2.name, firm, ws⟩ d.fs⟩ := by
  have := h.set (firm := firm) (ws := ws) hk
  refine ⟨?_, this.rising, ?_, ?_⟩
  · have e : (rs.set k ⟨r2.name, p, r2.born, firm, ws⟩).map Rec.fil = (rs.set k ⟨r2.name, r2.ptr, r2.born, firm, ws⟩).map Rec.fil := by rw [List.map_set, List.map_set]; rfl
    rw [e]; exact this.perm
  · have e : (rs.set k ⟨r2.name, p, r2.born, firm, ws⟩).map (·.born) = (rs.set k ⟨r2.name, r2.ptr, r2.born, firm, ws⟩).map (·.born) := by rw [List.map_set, List.map_set]
    rw [e]; exact this.borns
  · intro x hx
    rcases List.mem_or_eq_of_mem_set hx with hx | rfl
    · exact h.old x hx
    · exact h.old r2 (List.mem_of_getElem? hk)
end
theorem ent_set {rs : List Rec} {i : Nat} {r r' : Rec} (hi : rs[i]? = some r) (he : r'.ent = r.ent) : (rs.set i r').map Rec.ent = rs.map Rec.ent := by
  rw [List.map_set, he]; exact set_self (by rw [List.getElem?_map, hi]; rfl)
/-! ### Sums over some of the files -/
section
variable {rs dn lf l1 l2 : List Rec} {clock : Nat} {d : Dk} {r : Rec}
theorem size_append (a b : List Fil) : size (a ++ b) = size a + size b := by simp [size]
theorem loose_append (a b : List Fil) : loose (a ++ b) = loose a + loose b := by simp [loose]
theorem Well.size (hw : Well rs clock d) (hp : rs.Perm (dn ++ lf)) : size d.fs = size (dn.map Rec.fil) + Disk.size (lf.map Rec.fil) := by
  rw [← size_append, ← List.map_append]; exact size_perm (hw.perm.symm.trans (hp.map _))
theorem Well.loose (hw : Well rs clock d) (hp : rs.Perm (dn ++ lf)) : loose d.fs = loose (dn.map Rec.fil) + Disk.loose (lf.map Rec.fil) := by
  rw [← loose_append, ← List.map_append]; exact loose_perm (hw.perm.symm.trans (hp.map _))
theorem Well.length (hw : Well rs clock d) : rs.length = d.fs.length := by simpa using hw.perm.length_eq
theorem size_snoc (dn : List Rec) (r : Rec) : size ((dn ++ [r]).map Rec.fil) = size (dn.map Rec.fil) + (r.firm ++ r.ws.flatten).length := by
  rw [List.map_append, size_append]; simp [size, Rec.fil, Fil.all]
theorem loose_snoc (dn : List Rec) (r : Rec) : loose ((dn ++ [r]).map Rec.fil) = loose (dn.map Rec.fil) + r.ws.length := by
  rw [List.map_append, loose_append]; simp [loose, Rec.fil]
theorem perm_next (hp : rs.Perm (dn ++ lf)) (hl : lf = l1 ++ r :: l2) : rs.Perm (dn ++ [r] ++ (l1 ++ l2)) := by
  subst hl
  refine hp.trans ?_
  rw [List.append_assoc]
  exact (List.perm_middle (l₁ := l1)).append_left dn
theorem mem_next (hp : rs.Perm (dn ++ lf)) (hl : lf = l1 ++ r :: l2) : r ∈ rs := hp.mem_iff.2 (by rw [hl]; simp)
theorem len_next (hl : lf = l1 ++ r :: l2) : lf.length = (l1 ++ l2).length + 1 := by rw [hl]; simp; omega
theorem size_mem {f : Fil} {fs : List Fil} (h : f ∈ fs) : f.all.length ≤ size fs := by
  induction fs with
  | nil => cases h
  | cons x l ih =>
    rw [size_cons]
    rcases List.mem_cons.1 h with rfl | h
    · omega
    · have := ih h; omega
theorem loose_mem {f : Fil} {fs : List Fil} (h : f ∈ fs) : f.ws.length ≤ loose fs := by
  induction fs with
  | nil => cases h
  | cons x l ih =>
    rw [loose_cons]
    rcases List.mem_cons.1 h with rfl | h
    · omega
    · have := ih h; omega
theorem Well.mem (hw : Well rs clock d) (hr : r ∈ rs) : r.fil ∈ d.fs := hw.perm.mem_iff.1 (List.mem_map.2 ⟨r, hr, rfl⟩)
theorem Fits.fileLen {n : Nat} (hf : Fits n d) (hw : Well rs clock d) (hr : r ∈ rs) : (r.firm ++ r.ws.flatten).length ≤ 1099511627776 := by
  have h1 := size_mem (hw.mem hr)
  have h2 := hf.size
  have h3 := hf.room.2
  have : (r.fil).all.length = (r.firm ++ r.ws.flatten).length := rfl
  omega
theorem Fits.fileWs {n : Nat} (hf : Fits n d) (hn : n ≤ 1048576) (hw : Well rs clock d) (hr : r ∈ rs) : r.ws.length ≤ 1048576 := by
  have h1 := loose_mem (hw.mem hr)
  have h2 := hf.loose
  have : r.fil.ws.length = r.ws.length := rfl
  omega
end
theorem find_new {rs dn lf l1 l2 : List Rec} {clock : Nat} {d : Dk} {r : Rec} (hw : Well rs clock d) (hp : rs.Perm (dn ++ lf)) (hl : lf = l1 ++ r :: l2) : Disk.find r.name (dn.map Rec.fil) = none := by
  have h1 : (rs.map (·.name)).Nodup := (hw.names_perm).nodup_iff.2 hw.rising.nodup
  have h2 : ((dn ++ lf).map (·.name)).Nodup := (hp.map _).nodup_iff.1 h1
  rw [List.map_append, List.nodup_append] at h2
  cases hf : Disk.find r.name (dn.map Rec.fil) with
  | none => rfl
  | some f =>
    have h3 := find_some hf
    obtain ⟨q, hq, rfl⟩ := List.mem_map.1 h3.1
    exact absurd h3.2 (h2.2.2 q.name (List.mem_map.2 ⟨q, hq, rfl⟩) r.name (List.mem_map.2 ⟨r, by rw [hl]; simp, rfl⟩))
theorem nodup_snoc {rs : List Rec} {ck p : Nat} {a firm : Bs} {ws : List Bs} (h : (rs.map (·.born)).Nodup) (ho : ∀ r ∈ rs, r.born < ck) : ((rs ++ [(⟨a, p, ck, firm, ws⟩ : Rec)]).map (·.born)).Nodup := by
  rw [List.map_append, List.map_singleton, List.nodup_append]
  refine ⟨h, by simp, ?_⟩
  intro x hx y hy
  obtain ⟨q, hq, rfl⟩ := List.mem_map.1 hx
  have := ho q hq
  simp at hy; subst hy; omega
theorem lt_snoc {rs : List Rec} {ck p : Nat} {a firm : Bs} {ws : List Bs} (ho : ∀ r ∈ rs, r.born < ck) : ∀ r ∈ rs ++ [(⟨a, p, ck, firm, ws⟩ : Rec)], r.born < ck + 1 := by
  intro x hx
  rcases List.mem_append.1 hx with hx | hx
  · have := ho x hx; omega
  · simp at hx; subst hx; exact Nat.lt_succ_self _
theorem size_take {fs : List Fil} {i : Nat} {f : Fil} (h : fs[i]? = some f) : size (fs.take (i + 1)) = size (fs.take i) + (f.firm ++ f.ws.flatten).length := by
  rw [List.take_add_one, h, size_append]; simp [size, Fil.all]
theorem loose_take {fs : List Fil} {i : Nat} {f : Fil} (h : fs[i]? = some f) : loose (fs.take (i + 1)) = loose (fs.take i) + f.ws.length := by
  rw [List.take_add_one, h, loose_append]; simp [loose]
theorem size_take_le (fs : List Fil) (i : Nat) : size (fs.take i) ≤ size fs := by
  conv => rhs; rw [← List.take_append_drop i fs]
  rw [size_append]; omega
theorem loose_take_le (fs : List Fil) (i : Nat) : loose (fs.take i) ≤ loose fs := by
  conv => rhs; rw [← List.take_append_drop i fs]
  rw [loose_append]; omega
theorem Fits.fileLen2 {n : Nat} {d : Dk} {f : Fil} (hf : Fits n d) (hm : f ∈ d.fs) : (f.firm ++ f.ws.flatten).length ≤ 1099511627776 := by
  have h1 := size_mem hm
  have h2 := hf.size
  have h3 := hf.room.2
  have : f.all.length = (f.firm ++ f.ws.flatten).length := rfl
  omega
theorem Fits.fileWs2 {n : Nat} {d : Dk} {f : Fil} (hf : Fits n d) (hn : n ≤ 1048576) (hm : f ∈ d.fs) : f.ws.length ≤ 1048576 := by
  have h1 := loose_mem hm
  have h2 := hf.loose
  omega
/-! ### A range over the files -/
section
variable {P : Program} {n : Nat} {Q : Post} {R : Nat → Value} {w0 w : World} {F : Nat → Prop} {L : List Atom} {K : Value → World → Prop} {dst : Option Tmp} {ty : TypeId} {pos : String} {af : Array Edge} {gd : Option (Nat × Bool)}
variable {rs dn lf : List Rec} {m clock c0 g : Nat} {d : Dk}
theorem opN_nextR {x : Operand} (hN : Now w0 F w L) (i : Nat) (hi : L[i]? = some (.iter g m clock ((dn.map Rec.ent).map (·.2.2)) c0)) (hb : w.heap[m]? = some (.map (ents str (rs.map Rec.ent)) clock)) (hx : ev R x = .pointer (some ⟨g, 0, none⟩))
    (hp : rs.Perm (dn ++ lf)) (hw : Well rs clock d) (hc : clock ≤ c0) (h1 : lf = [] → K (.tuple #[.bool false]) w)
    (h2 : ∀ r l1 l2, lf = l1 ++ r :: l2 → ∀ w', Now w0 F w' (L.set i (.iter g m clock (((dn ++ [r]).map Rec.ent).map (·.2.2)) clock)) → K (.tuple #[.bool true, str r.name, .pointer (some ⟨r.ptr, 0, none⟩)]) w') : OpR P ⟨dst, .next x false, ty, pos, af, gd⟩ R w K := by
  refine opN_next (tw := 0) (l := rs.map Rec.ent) (done := dn.map Rec.ent) (left := lf.map Rec.ent) hN i hi hb hx (by rw [← List.map_append]; exact hp.map _) (by rw [List.map_map]; exact hw.borns) (fun e he => ?_) hc (Nat.le_refl _) (fun e => h1 (by simpa using e)) ?_
  · obtain ⟨r, hr, rfl⟩ := List.mem_map.1 he
    exact hw.old r hr
  · intro e r1 r2 hl w' hN'
    obtain ⟨l1, l2', hl12, e1, e2⟩ := List.map_eq_append_iff.1 hl
    obtain ⟨r, l2, e3, e4, e5⟩ := List.map_eq_cons_iff.1 e2
    subst e3
    subst e4
    refine h2 r l1 l2 hl12 w' ?_
    rw [List.map_append]
    exact hN'
theorem ev_entryR {x : Operand} {r : Rec} (hr : w.heap[g]? = some (.mapIter (some m) clock (((dn ++ [r]).map Rec.ent).map (·.2.2)).toArray clock)) (hb : w.heap[m]? = some (.map (ents str (rs.map Rec.ent)) clock)) (hx : ev R x = .pointer (some ⟨g, 0, none⟩))
    (he : r ∈ rs) (hw : Well rs clock d) : Ev P ⟨dst, .entry x, ty, pos, af, gd⟩ R w (.tuple #[str r.name, .pointer (some ⟨r.ptr, 0, none⟩)]) :=
  ev_entry (e := r.ent) (since := clock) (c0 := 0) (done := dn.map Rec.ent) (by rw [hr, List.map_append]; rfl) hb hx (List.mem_map.2 ⟨r, he, rfl⟩) (by rw [List.map_map]; exact hw.borns)
end
/-! ### The document's disk, and what is done -/
section
variable {α β : Type}
def Pair (P : α → β → Prop) (hs : List α) (fs : List β) : Prop := hs.length = fs.length ∧ ∀ (i : Nat) h f, hs[i]? = some h → fs[i]? = some f → P h f
variable {P Q : α → β → Prop} {hs : List α} {fs : List β} {h : α} {f : β}
theorem Pair.nil (P : α → β → Prop) : Pair P [] [] := ⟨rfl, fun i h f hi => by simp at hi⟩
theorem Pair.cons (h1 : P h f) (h2 : Pair P hs fs) : Pair P (h :: hs) (f :: fs) := ⟨by simp [h2.1], fun i a b ha hb => by
  cases i with
  | zero => simp at ha hb; subst ha hb; exact h1
  | succ i => exact h2.2 i a b (by simpa using ha) (by simpa using hb)⟩
theorem Pair.uncons (h2 : Pair P (h :: hs) (f :: fs)) : P h f ∧ Pair P hs fs := ⟨h2.2 0 h f rfl rfl, by have := h2.1; simpa using this, fun i a b ha hb => h2.2 (i + 1) a b (by simpa using ha) (by simpa using hb)⟩
theorem Pair.imp (hpq : ∀ a b, P a b → Q a b) (h2 : Pair P hs fs) : Pair Q hs fs := ⟨h2.1, fun i a b ha hb => hpq _ _ (h2.2 i a b ha hb)⟩
theorem Pair.get (h2 : Pair P hs fs) {i : Nat} (hi : hs[i]? = some h) : ∃ f, fs[i]? = some f ∧ P h f := by
  have hlt : i < fs.length := by rw [← h2.1]; exact (List.getElem?_eq_some_iff.1 hi).1
  exact ⟨fs[i], List.getElem?_eq_getElem hlt, h2.2 i _ _ hi (List.getElem?_eq_getElem hlt)⟩
theorem Pair.ind {motive : List α → List β → Prop} (h0 : motive [] []) (h1 : ∀ a b l m, P a b → Pair P l m → motive l m → motive (a :: l) (b :: m)) : ∀ {hs : List α} {fs : List β}, Pair P hs fs → motive hs fs := by
  intro hs
  induction hs with
  | nil => intro fs h; cases fs with
    | nil => exact h0
    | cons b m => exact absurd h.1 (by simp)
  | cons a l ih => intro fs h; cases fs with
    | nil => exact absurd h.1 (by simp)
    | cons b m => exact h1 a b l m h.uncons.1 h.uncons.2 (ih h.uncons.2)
theorem Pair.append {hs' : List α} {fs' : List β} (h1 : Pair P hs fs) (h2 : Pair P hs' fs') : Pair P (hs ++ hs') (fs ++ fs') :=
  Pair.ind (motive := fun l m => Pair P (l ++ hs') (m ++ fs')) h2 (fun a b l m hab _ ih => Pair.cons hab ih) h1
theorem Pair.take (h : Pair P hs fs) (n : Nat) : Pair P (hs.take n) (fs.take n) := ⟨by simp [h.1], fun i a b ha hb => by
  rw [List.getElem?_take] at ha hb
  split at ha
  · rename_i hn; rw [if_pos hn] at hb; exact h.2 i a b ha hb
  · cases ha⟩
theorem Pair.filter {p : α → Bool} {q : β → Bool} (h : Pair P hs fs) (hpq : ∀ a b, P a b → p a = q b) : Pair P (hs.filter p) (fs.filter q) :=
  Pair.ind (motive := fun l m => Pair P (l.filter p) (m.filter q)) (Pair.nil _) (fun a b l m hab _ ih => by
    rw [List.filter_cons, List.filter_cons, hpq a b hab]
    cases q b
    · exact ih
    · exact Pair.cons hab ih) h
end
abbrev FH := Bs × Hd × Hd
def fcells (h : FH) : List Value := [str h.1, vh h.2.1, vh h.2.2]
def FOk (F : Nat → Prop) (w : World) (h : FH) (f : Fil) : Prop := h.1 = f.name ∧ SlO F vb w (vh h.2.1) f.firm ∧ ∃ whs, SlO F vh w (vh h.2.2) whs ∧ Els F vb w whs f.ws
abbrev FEls (F : Nat → Prop) (w : World) : List FH → List Fil → Prop := Pair (FOk F w)
def DR (F : Nat → Prop) (w : World) (v : Value) (d : Dk) : Prop := ∃ Lv hs, v = .agg #[.int .i64 d.room, Lv] ∧ SmO F fcells w Lv hs ∧ FEls F w hs d.fs
abbrev OH := Int × Bs × Bs × Hd
def ocells (h : OH) : List Value := [.int .i64 h.1, str h.2.1, str h.2.2.1, vh h.2.2.2]
def opV (x : Op) (h : Hd) : Value := .agg #[.int .i64 x.kind, str x.name, str x.to, vh h]
def OOk (F : Nat → Prop) (w : World) (h : OH) (x : Op) : Prop := h.1 = x.kind ∧ h.2.1 = x.name ∧ h.2.2.1 = x.to ∧ SlO F vb w (vh h.2.2.2) x.data
abbrev OEls (F : Nat → Prop) (w : World) : List OH → List Op → Prop := Pair (OOk F w)
theorem fcells_len (h : FH) : (fcells h).length = 3 := rfl
theorem ocells_len (h : OH) : (ocells h).length = 4 := rfl
theorem fcells_ne (h : FH) : fcells h ≠ [] := by simp [fcells]
theorem ocells_ne (h : OH) : ocells h ≠ [] := by simp [ocells]
theorem fcells_one (h : FH) : ∀ u ∈ fcells h, u.oneCell' = true := by simp [fcells, str, Value.oneCell']
theorem ocells_one (h : OH) : ∀ u ∈ ocells h, u.oneCell' = true := by simp [ocells, str, Value.oneCell']
section
variable {F G : Nat → Prop} {w0 w w' : World} {L : List Atom} {h : FH} {f : Fil} {hs : List FH} {fs : List Fil} {v : Value} {d : Dk} {o : OH} {x : Op} {os : List OH} {xs : List Op}
theorem FOk.step (k : FOk F w0 h f) (hN : Now w0 F w L) : FOk (foots L) w h f := ⟨k.1, k.2.1.step hN, by obtain ⟨whs, h1, h2⟩ := k.2.2; exact ⟨whs, h1.step hN, h2.step hN⟩⟩
theorem FOk.ext (k : FOk F w h f) (he : Ext w w') : FOk F w' h f := ⟨k.1, k.2.1.ext he, by obtain ⟨whs, h1, h2⟩ := k.2.2; exact ⟨whs, h1.ext he, h2.mod he.mod⟩⟩
theorem FOk.less (k : FOk F w h f) (hg : ∀ k, k < w.heap.size → G k → F k) : FOk G w h f := ⟨k.1, k.2.1.less hg, by obtain ⟨whs, h1, h2⟩ := k.2.2; exact ⟨whs, h1.less hg, h2.less hg⟩⟩
theorem FEls.step (k : FEls F w0 hs fs) (hN : Now w0 F w L) : FEls (foots L) w hs fs := Pair.imp (fun _ _ h => h.step hN) k
theorem FEls.ext (k : FEls F w hs fs) (he : Ext w w') : FEls F w' hs fs := Pair.imp (fun _ _ h => h.ext he) k
theorem FEls.less (k : FEls F w hs fs) (hg : ∀ k, k < w.heap.size → G k → F k) : FEls G w hs fs := Pair.imp (fun _ _ h => h.less hg) k
theorem DR.step (k : DR F w0 v d) (hN : Now w0 F w L) : DR (foots L) w v d := by obtain ⟨Lv, hs, rfl, h1, h2⟩ := k; exact ⟨Lv, hs, rfl, h1.step fcells_ne hN, FEls.step h2 hN⟩
theorem DR.ext (k : DR F w v d) (he : Ext w w') : DR F w' v d := by obtain ⟨Lv, hs, rfl, h1, h2⟩ := k; exact ⟨Lv, hs, rfl, h1.ext he, FEls.ext h2 he⟩
theorem SmO.less {α : Type} {cf : α → List Value} {l : List α} (hcf : ∀ a, cf a ≠ []) (k : SmO F cf w v l) (hg : ∀ k, k < w.heap.size → G k → F k) : SmO G cf w v l := ⟨k.1, fun hl b hb hG => k.2 hl b hb (hg b (k.1.lt hcf hl b hb) hG)⟩
theorem DR.less (k : DR F w v d) (hg : ∀ k, k < w.heap.size → G k → F k) : DR G w v d := by obtain ⟨Lv, hs, rfl, h1, h2⟩ := k; exact ⟨Lv, hs, rfl, SmO.less fcells_ne h1 hg, FEls.less h2 hg⟩
theorem OOk.step (k : OOk F w0 o x) (hN : Now w0 F w L) : OOk (foots L) w o x := ⟨k.1, k.2.1, k.2.2.1, k.2.2.2.step hN⟩
theorem OOk.ext (k : OOk F w o x) (he : Ext w w') : OOk F w' o x := ⟨k.1, k.2.1, k.2.2.1, k.2.2.2.ext he⟩
theorem OOk.less (k : OOk F w o x) (hg : ∀ k, k < w.heap.size → G k → F k) : OOk G w o x := ⟨k.1, k.2.1, k.2.2.1, k.2.2.2.less hg⟩
theorem OEls.step (k : OEls F w0 os xs) (hN : Now w0 F w L) : OEls (foots L) w os xs := Pair.imp (fun _ _ h => h.step hN) k
theorem OEls.ext (k : OEls F w os xs) (he : Ext w w') : OEls F w' os xs := Pair.imp (fun _ _ h => h.ext he) k
theorem OEls.less (k : OEls F w os xs) (hg : ∀ k, k < w.heap.size → G k → F k) : OEls G w os xs := Pair.imp (fun _ _ h => h.less hg) k
end
theorem OEls.get {F : Nat → Prop} {w : World} {os : List OH} {xs : List Op} (k : OEls F w os xs) (i : Nat) (hi : i < os.length) : ∃ (x : Op) (hx : Hd), os[i]? = some (x.kind, x.name, x.to, hx) ∧ xs[i]? = some x ∧ SlO F vb w (vh hx) x.data := by
  obtain ⟨x, h1, h2⟩ := Pair.get k (List.getElem?_eq_getElem hi)
  obtain ⟨e1, e2, e3, e4⟩ := h2
  refine ⟨x, os[i].2.2.2, ?_, h1, e4⟩
  rw [List.getElem?_eq_getElem hi, ← e1, ← e2, ← e3]
theorem SlO.cutFrom {α : Type} {enc : α → Value} {F : Nat → Prop} {w : World} {v : Value} {l : List α} (h : SlO F enc w v l) {lo : Nat} (hlo : lo ≤ l.length) : SlO F enc w (cutV v lo l.length) (l.drop lo) :=
  ⟨h.1.cutFrom hlo, fun hl k hk => h.2 (fun e => hl (by rw [e]; simp)) k (by rw [cutV_block h.1] at hk; exact hk)⟩
/-! The document's words, over the heads alone -/
def findH (a : Bs) : List FH → Option FH
  | [] => none
  | f :: r => if f.1 = a then some f else findH a r
def withoutH (a : Bs) (hs : List FH) : List FH := hs.filter fun h => decide (¬ h.1 = a)
def putH (f : FH) : List FH → List FH
  | [] => [f]
  | g :: r => if f.1 < g.1 then f :: g :: r else g :: putH f r
section
variable {F : Nat → Prop} {w : World} {h : FH} {f : Fil} {hs : List FH} {fs : List Fil} {a : Bs}
theorem withoutH_ok (k : FEls F w hs fs) (a : Bs) : FEls F w (withoutH a hs) (without a fs) := Pair.filter k fun x y hxy => by rw [hxy.1]
theorem putH_ok (hf : FOk F w h f) (k : FEls F w hs fs) : FEls F w (putH h hs) (put f fs) :=
  Pair.ind (motive := fun l m => FEls F w (putH h l) (put f m)) (Pair.cons hf (Pair.nil _)) (fun a b l m hab hr ih => by
    unfold putH put
    rw [hf.1, hab.1]
    split
    · exact Pair.cons hf (Pair.cons hab hr)
    · exact Pair.cons hab ih) k
theorem findH_ok (k : FEls F w hs fs) (a : Bs) : match find a fs with
    | none => findH a hs = none
    | some f => ∃ h, findH a hs = some h ∧ FOk F w h f :=
  Pair.ind (P := FOk F w) (motive := fun l m => match find a m with
    | none => findH a l = none
    | some f => ∃ h, findH a l = some h ∧ FOk F w h f) rfl (fun x y l m hxy hr ih => by
    simp only [find, findH]
    rw [hxy.1]
    by_cases e : y.name = a
    · rw [if_pos e, if_pos e]; exact ⟨x, rfl, hxy⟩
    · rw [if_neg e, if_neg e]; exact ih) k
theorem FEls.names (k : FEls F w hs fs) : hs.map (·.1) = names fs := Pair.ind (P := FOk F w) (motive := fun l m => l.map (·.1) = Disk.names m) rfl (fun a b l m hab _ ih => by
  have := hab.1
  unfold Disk.names at ih ⊢
  rw [List.map_cons, List.map_cons, ih, this]) k
end
abbrev nilH : Hd := (none, 0, 0)
section
variable {F G : Nat → Prop} {w0 w w' : World} {L : List Atom} {h : FH} {f : Fil} {hs : List FH} {fs : List Fil}
theorem FOk.or (k : FOk F w h f) (k2 : FOk G w h f) : FOk (Or2 F G) w h f := by
  refine ⟨k.1, k.2.1.or k2.2.1, ?_⟩
  obtain ⟨whs, h1, h2⟩ := k.2.2
  obtain ⟨whs', h1', h2'⟩ := k2.2.2
  refine ⟨whs, ⟨h1.1, fun hl b hb hG => hG.elim (h1.2 hl b hb) ?_⟩, h2.1, fun i hd l hi hl => ?_⟩
  · intro hg
    have e : whs ≠ [] → whs' ≠ [] := fun hne => by
      have := h2.1; have := h2'.1
      intro e; subst e
      cases whs with
      | nil => exact hne rfl
      | cons a r => simp at *; omega
    exact h1'.2 (e hl) b hb hg
  · refine ⟨(h2.2 i hd l hi hl).1, fun hne b hb hG => hG.elim ((h2.2 i hd l hi hl).2 hne b hb) fun hg => ?_⟩
    -- the heads are the same ones: both read the same cells
    have hsame : whs = whs' := SlO.heads h1 h1' (h2.1.trans h2'.1.symm)
    subst hsame
    exact (h2'.2 i hd l hi hl).2 hne b hb hg
theorem FEls.or (k : FEls F w hs fs) (k2 : FEls G w hs fs) : FEls (Or2 F G) w hs fs := ⟨k.1, fun i h f hi hf => (k.2 i h f hi hf).or (k2.2 i h f hi hf)⟩
theorem FOk.carry (k : FOk G w0 h f) (hN : Now w0 F w L) (hg : ∀ k, F k → G k) : FOk G w h f := ⟨k.1, k.2.1.carry hN hg, by obtain ⟨whs, h1, h2⟩ := k.2.2; exact ⟨whs, h1.carry hN hg, h2.carry hN hg⟩⟩
theorem FEls.carry (k : FEls G w0 hs fs) (hN : Now w0 F w L) (hg : ∀ k, F k → G k) : FEls G w hs fs := Pair.imp (fun _ _ h => h.carry hN hg) k
theorem OOk.or {o : OH} {x : Op} (k : OOk F w o x) (k2 : OOk G w o x) : OOk (Or2 F G) w o x := ⟨k.1, k.2.1, k.2.2.1, k.2.2.2.or k2.2.2.2⟩
theorem OEls.or {os : List OH} {xs : List Op} (k : OEls F w os xs) (k2 : OEls G w os xs) : OEls (Or2 F G) w os xs := ⟨k.1, fun i h f hi hf => (k.2 i h f hi hf).or (k2.2 i h f hi hf)⟩
theorem OOk.carry {o : OH} {x : Op} (k : OOk G w0 o x) (hN : Now w0 F w L) (hg : ∀ k, F k → G k) : OOk G w o x := ⟨k.1, k.2.1, k.2.2.1, k.2.2.2.carry hN hg⟩
theorem OEls.carry {os : List OH} {xs : List Op} (k : OEls G w0 os xs) (hN : Now w0 F w L) (hg : ∀ k, F k → G k) : OEls G w os xs := Pair.imp (fun _ _ h => h.carry hN hg) k
theorem FEls.grow (k : FEls F w hs fs) (he : Ext w w') (hG : ∀ k, G k → w.heap.size ≤ k) : FEls (Or2 F G) w' hs fs := Pair.imp (fun _ _ h => ⟨h.1, h.2.1.grow he hG, by obtain ⟨whs, h1, h2⟩ := h.2.2; exact ⟨whs, h1.grow he hG, h2.grow he hG⟩⟩) k
/-- A file put in its place. -/
theorem putIn_ok (hf : FOk F w h f) (k : FEls F w hs fs) : FEls F w (putH h (withoutH h.1 hs)) (putIn f fs) := by
  unfold putIn; rw [← hf.1]; exact putH_ok hf (withoutH_ok k _)
theorem SlO.nil {α : Type} (F : Nat → Prop) (enc : α → Value) (w : World) : SlO F enc w (.slice none 0 0) [] := ⟨Sl.nil _ _, fun h => absurd rfl h⟩
theorem SmO.nil {α : Type} (F : Nat → Prop) (cf : α → List Value) (w : World) : SmO F cf w (.slice none 0 0) [] := ⟨Sm.nil _ _, fun h => absurd rfl h⟩
end
theorem FEls.get {F : Nat → Prop} {w : World} {hs : List FH} {fs : List Fil} (k : FEls F w hs fs) (i : Nat) (hi : i < hs.length) : ∃ (h : FH) (f : Fil) (whs : List Hd), hs[i]? = some h ∧ fs[i]? = some f ∧ h.1 = f.name ∧ SlO F vb w (vh h.2.1) f.firm ∧ SlO F vh w (vh h.2.2) whs ∧ Els F vb w whs f.ws := by
  obtain ⟨f, h1, h2⟩ := Pair.get k (List.getElem?_eq_getElem hi)
  obtain ⟨e1, e2, whs, e3, e4⟩ := h2
  exact ⟨hs[i], f, whs, List.getElem?_eq_getElem hi, h1, e1, e2, e3, e4⟩
theorem findH_cases {F : Nat → Prop} {w : World} {hs : List FH} {fs : List Fil} (k : FEls F w hs fs) (a : Bs) :
    (find a fs = none ∧ findH a hs = none) ∨ ∃ (f : Fil) (h : FH) (whs : List Hd), find a fs = some f ∧ findH a hs = some h ∧ h.1 = f.name ∧ SlO F vb w (vh h.2.1) f.firm ∧ SlO F vh w (vh h.2.2) whs ∧ Els F vb w whs f.ws := by
  have := findH_ok k a
  cases hf : find a fs with
  | none => rw [hf] at this; exact .inl ⟨rfl, this⟩
  | some f =>
    rw [hf] at this
    obtain ⟨h, h1, h2, h3, whs, h4, h5⟩ := this
    exact .inr ⟨f, h, whs, rfl, h1, h2, h3, h4, h5⟩
theorem FEls.nowN {F : Nat → Prop} {w0 w : World} {L : List Atom} {hs : List FH} {fs : List Fil} (k : FEls F w0 hs fs) (hN : Now w0 F w L) : FEls none_ w hs fs := FEls.less (FEls.step k hN) fun _ _ e => e.elim
theorem FEls.none {F : Nat → Prop} {w : World} {hs : List FH} {fs : List Fil} (k : FEls F w hs fs) : FEls none_ w hs fs := FEls.less k fun _ _ e => e.elim
theorem Els.none {F : Nat → Prop} {w : World} {hs : List Hd} {ls : List Bs} (k : Els F vb w hs ls) : Els none_ vb w hs ls := k.less fun _ _ e => e.elim
section
variable {F : Nat → Prop} {w w' : World} {base : Nat} {v : Value}
theorem OwnM.smo {α : Type} {cf : α → List Value} {s E : Nat} {l : List α} (h : OwnM cf s E w base v l) (hF : ∀ k, F k → k < base) : SmO F cf w v l := ⟨h.sm, fun _ k hk hf => by
  have := (h.lt k hk).1; have := hF k hf; omega⟩
theorem Own.slo {α : Type} {enc : α → Value} {E : Nat} {l : List α} (h : Own enc E w base v l) (hF : ∀ k, F k → k < base) : SlO F enc w v l := ⟨h.sl, fun _ k hk hf => by
  have := (h.lt k hk).1; have := hF k hf; omega⟩
theorem length_withoutH (a : Bs) (hs : List FH) : (withoutH a hs).length ≤ hs.length := List.length_filter_le _ _
theorem OEls.nowN {F : Nat → Prop} {w0 w : World} {L : List Atom} {os : List OH} {xs : List Op} (k : OEls F w0 os xs) (hN : Now w0 F w L) : OEls none_ w os xs := OEls.less (OEls.step k hN) fun _ _ e => e.elim
theorem fam_out {w' : World} {L : List Atom} (hN : Now w none_ w' L) (i : Nat) {hs : List Hd} {ls : List Bs} (hi : L[i]? = some (.fam vb hs ls)) (hF : ∀ k, F k → k < w.heap.size) : Els F vb w' hs ls := by
  have h := hN.els i hi
  refine ⟨h.1, fun j hd l hj hl => ⟨(h.2 j hd l hj hl).1, fun hne k hk hf => ?_⟩⟩
  have h1 := (hN.low i _ hi k ⟨hd, List.mem_of_getElem? hj, hk⟩).1.elim (fun e => e.elim) id
  have h2 := hF k hf
  omega
def crashH (fs : List Fil) (hqs : List Hd) : List FH := List.zipWith (fun f q => (f.name, q, nilH)) fs hqs
theorem crashH_ok : ∀ {fs : List Fil} {hqs : List Hd}, (∀ f ∈ fs, f.ws = []) → Els F vb w hqs (fs.map (·.firm)) → FEls F w (crashH fs hqs) fs := by
  intro fs
  induction fs with
  | nil => intro hqs _ h; cases hqs with | nil => exact Pair.nil _ | cons a r => exact absurd h.1 (by simp)
  | cons f r ih =>
    intro hqs hw h
    cases hqs with
    | nil => exact absurd h.1 (by simp)
    | cons q s =>
      refine Pair.cons ?_ (ih (fun g hg => hw g (List.mem_cons_of_mem _ hg)) ⟨by have := h.1; simpa using this, fun i a l ha hl => h.2 (i + 1) a l (by simpa using ha) (by simpa using hl)⟩)
      refine ⟨rfl, h.2 0 q f.firm rfl rfl, [], SlO.nil _ _ _, ?_⟩
      rw [hw f (List.mem_cons_self ..)]; exact Els.nil _ _ _
theorem crash_ws : ∀ (fs : List Fil) (ms : List Int), ∀ f ∈ crash ms fs, f.ws = [] := by
  intro fs
  induction fs with
  | nil => intro ms f hf; cases hf
  | cons x r ih =>
    intro ms f hf
    rw [crash] at hf
    rcases List.mem_cons.1 hf with rfl | hf
    · rfl
    · exact ih _ f hf
theorem crashH_snoc {fs : List Fil} {hqs : List Hd} {f : Fil} {q : Hd} (hl : fs.length = hqs.length) : crashH (fs ++ [f]) (hqs ++ [q]) = crashH fs hqs ++ [(f.name, q, nilH)] := by
  unfold crashH; rw [List.zipWith_append hl]; rfl
theorem SlO.ofOwn {α : Type} {enc : α → Value} {w0 w : World} {F : Nat → Prop} {L : List Atom} {E : Nat} {v : Value} {l : List α} {a : Atom} (hN : Now w0 F w L) (i j : Nat) (hi : L[i]? = some (.own enc E v l)) (hj : L[j]? = some a) (hij : i ≠ j) : SlO (foots [a]) enc w v l :=
  ⟨hN.sl i hi, fun _ k hk hf => hN.sep i j _ a hij hi hj k hk ((feet_cons hf).elim id fun h => (feet_nil h).elim)⟩
theorem SmO.ofOwn {α : Type} {cf : α → List Value} {s : Nat} {w0 w : World} {F : Nat → Prop} {L : List Atom} {E : Nat} {v : Value} {l : List α} {a : Atom} (hN : Now w0 F w L) (i j : Nat) (hi : L[i]? = some (.ownm cf s E v l)) (hj : L[j]? = some a) (hij : i ≠ j) : SmO (foots [a]) cf w v l :=
  ⟨hN.sm i hi, fun _ k hk hf => hN.sep i j _ a hij hi hj k hk ((feet_cons hf).elim id fun h => (feet_nil h).elim)⟩
theorem SmO.at {α : Type} {cf : α → List Value} {w0 w : World} {F : Nat → Prop} {L : List Atom} {a : Atom} {v : Value} {l : List α} (hcf : ∀ a, cf a ≠ []) (h : SmO F cf w0 v l) (hN : Now w0 F w L) (i : Nat) (hi : L[i]? = some a) : SmO (foots [a]) cf w v l :=
  SmO.less hcf (SmO.step hcf h hN) fun k _ ⟨b, hb, hk⟩ => by
    rw [List.mem_singleton] at hb
    subst hb
    exact ⟨b, List.mem_of_getElem? hi, hk⟩
theorem OEls.at {w0 w : World} {F : Nat → Prop} {L : List Atom} {a : Atom} {os : List OH} {xs : List Op} (h : OEls F w0 os xs) (hN : Now w0 F w L) (i : Nat) (hi : L[i]? = some a) : OEls (foots [a]) w os xs :=
  OEls.less (OEls.step h hN) fun k _ ⟨b, hb, hk⟩ => by
    rw [List.mem_singleton] at hb
    subst hb
    exact ⟨b, List.mem_of_getElem? hi, hk⟩
theorem findH_drop {l : Bs} {hs : List FH} {i : Nat} {a : FH} (ha : hs[i]? = some a) : findH l (hs.drop i) = if a.1 = l then some a else findH l (hs.drop (i + 1)) := by
  obtain ⟨h1, h2⟩ := List.getElem?_eq_some_iff.1 ha
  rw [List.drop_eq_getElem_cons h1, h2, findH]
theorem withoutH_take {l : Bs} {hs : List FH} {i : Nat} {a : FH} (ha : hs[i]? = some a) : withoutH l (hs.take (i + 1)) = if ¬ a.1 = l then withoutH l (hs.take i) ++ [a] else withoutH l (hs.take i) := by
  rw [List.take_add_one, ha]
  unfold withoutH
  rw [List.filter_append]
  by_cases e : a.1 = l
  · rw [if_neg (fun h => h e)]; simp [e]
  · rw [if_pos e]; simp [e]
theorem putH_drop {h a : FH} {we : List FH} {i : Nat} (ha : we[i]? = some a) : putH h (we.drop i) = if h.1 < a.1 then h :: a :: we.drop (i + 1) else a :: putH h (we.drop (i + 1)) := by
  obtain ⟨h1, h2⟩ := List.getElem?_eq_some_iff.1 ha
  rw [List.drop_eq_getElem_cons h1, h2, putH]
theorem drop_at {α : Type} {l : List α} {i : Nat} {a : α} (ha : l[i]? = some a) : l.drop i = a :: l.drop (i + 1) := by
  obtain ⟨h1, h2⟩ := List.getElem?_eq_some_iff.1 ha
  rw [List.drop_eq_getElem_cons h1, h2]
theorem take_at {α : Type} {l : List α} {i : Nat} {a : α} (ha : l[i]? = some a) : l.take (i + 1) = l.take i ++ [a] := by rw [List.take_add_one, ha]; rfl
theorem putH_length (h : FH) : ∀ (hs : List FH), (putH h hs).length = hs.length + 1 := by
  intro hs
  induction hs with
  | nil => rfl
  | cons x r ih => unfold putH; split <;> simp [ih]
end
end Go.Disk
