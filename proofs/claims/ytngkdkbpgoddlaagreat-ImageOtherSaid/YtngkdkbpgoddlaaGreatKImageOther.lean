/- The law ImageOther, for every input: its row, out of the walks. -/
import Derived.Test.YtngkdkbpgoddlaaGreatKImageOther6
set_option linter.unusedVariables false
set_option linter.unusedSimpArgs false
set_option linter.unusedVariables false
namespace Go.Gr
open Go.Rl Go.Codec Go.Crc
def FitL (l : List Int) : Prop := l.length < 4294967296 ∧ ∀ x ∈ l, Fit x
theorem ints_inj {l m : List Int} {a b : List UInt8} (hl : FitL l) (hm : FitL m) (h : putInts l ++ a = putInts m ++ b) : l = m ∧ a = b := by
  have h1 := intsR_put l a 4294967296 hl.2 (by have := hl.1; omega) hl.1
  have h2 := intsR_put m b 4294967296 hm.2 (by have := hm.1; omega) hm.1
  rw [h, h2] at h1
  have h3 := congrArg Prod.fst h1
  have h4 := congrArg Prod.snd h1
  exact ⟨h4.symm, (congrArg Prod.fst h3).symm⟩
theorem rowsF_inj : ∀ {ls ms : List (List Int)} {a b : List UInt8}, ls.length = ms.length → (∀ r ∈ ls, FitL r) → (∀ r ∈ ms, FitL r) → (ls.map putInts).flatten ++ a = (ms.map putInts).flatten ++ b → ls = ms ∧ a = b := by
  intro ls
  induction ls with
  | nil => intro ms a b hl _ _ h; cases ms with
    | nil => exact ⟨rfl, h⟩
    | cons _ _ => cases hl
  | cons l r ih =>
    intro ms a b hl h1 h2 h
    cases ms with
    | nil => cases hl
    | cons m s =>
      simp only [List.map_cons, List.flatten_cons, List.append_assoc] at h
      obtain ⟨e1, e2⟩ := ints_inj (h1 l (List.mem_cons_self ..)) (h2 m (List.mem_cons_self ..)) h
      obtain ⟨e3, e4⟩ := ih (by simpa using hl) (fun r hr => h1 r (List.mem_cons_of_mem _ hr)) (fun r hr => h2 r (List.mem_cons_of_mem _ hr)) e2
      exact ⟨by rw [e1, e3], e4⟩
theorem fit_len {n : Nat} (h : n < 4294967296) : FitL [(n : Int)] := ⟨Nat.lt_of_le_of_lt (Nat.le_refl 1) (by omega), fun x hx => by rw [List.mem_singleton] at hx; subst hx; exact ⟨by omega, by omega⟩⟩
def FitR (ls : List (List Int)) : Prop := ls.length < 4294967296 ∧ ∀ r ∈ ls, FitL r
theorem rows_inj {ls ms : List (List Int)} {a b : List UInt8} (hl : FitR ls) (hm : FitR ms) (h : (rowsB ls).flatten ++ a = (rowsB ms).flatten ++ b) : ls = ms ∧ a = b := by
  unfold rowsB at h
  simp only [List.flatten_cons, List.append_assoc] at h
  obtain ⟨e1, e2⟩ := ints_inj (fit_len hl.1) (fit_len hm.1) h
  have e3 : ls.length = ms.length := by have : (ls.length : Int) = ms.length := (List.cons.inj e1).1; omega
  exact rowsF_inj e3 hl.2 hm.2 e2
def FitL2 (r : List I2) : Prop := r.length < 4294967296 ∧ ∀ x ∈ r, Fit2 x
def FitR2 (ls : List (List I2)) : Prop := ls.length < 4294967296 ∧ ∀ r ∈ ls, FitL2 r
theorem FitL2.one {r : List I2} (h : FitL2 r) : FitL (r.map fun a => a.1) := ⟨by rw [List.length_map]; exact h.1, fun x hx => by obtain ⟨a, ha, rfl⟩ := List.mem_map.1 hx; exact (h.2 a ha).1⟩
theorem FitL2.two {r : List I2} (h : FitL2 r) : FitL (r.map fun a => a.2) := ⟨by rw [List.length_map]; exact h.1, fun x hx => by obtain ⟨a, ha, rfl⟩ := List.mem_map.1 hx; exact (h.2 a ha).2⟩
theorem two_cols {r s : List I2} (h1 : r.map (fun a => a.1) = s.map fun a => a.1) (h2 : r.map (fun a => a.2) = s.map fun a => a.2) : r = s := by
  have hl : r.length = s.length := by simpa using congrArg List.length h1
  refine List.ext_getElem hl fun i hi hj => ?_
  have g1 : (r.map fun a => a.1)[i]? = (s.map fun a => a.1)[i]? := by rw [h1]
  have g2 : (r.map fun a => a.2)[i]? = (s.map fun a => a.2)[i]? := by rw [h2]
  simp only [List.getElem?_map, List.getElem?_eq_getElem hi, List.getElem?_eq_getElem hj, Option.map_some, Option.some.injEq] at g1 g2
  exact Prod.ext g1 g2
theorem rowB2_inj {r s : List I2} {a b : List UInt8} (hr : FitL2 r) (hs : FitL2 s) (h : (rowB2 r).flatten ++ a = (rowB2 s).flatten ++ b) : r = s ∧ a = b := by
  unfold rowB2 at h
  simp only [List.flatten_cons, List.flatten_nil, List.append_nil, List.append_assoc] at h
  obtain ⟨e1, e2⟩ := ints_inj hr.one hs.one h
  obtain ⟨e3, e4⟩ := ints_inj hr.two hs.two e2
  exact ⟨two_cols e1 e3, e4⟩
theorem rowsF2_inj : ∀ {ls ms : List (List I2)} {a b : List UInt8}, ls.length = ms.length → (∀ r ∈ ls, FitL2 r) → (∀ r ∈ ms, FitL2 r) → (ls.flatMap rowB2).flatten ++ a = (ms.flatMap rowB2).flatten ++ b → ls = ms ∧ a = b := by
  intro ls
  induction ls with
  | nil => intro ms a b hl _ _ h; cases ms with
    | nil => exact ⟨rfl, h⟩
    | cons _ _ => cases hl
  | cons l r ih =>
    intro ms a b hl h1 h2 h
    cases ms with
    | nil => cases hl
    | cons m s =>
      simp only [List.flatMap_cons, List.flatten_append, List.append_assoc] at h
      obtain ⟨e1, e2⟩ := rowB2_inj (h1 l (List.mem_cons_self ..)) (h2 m (List.mem_cons_self ..)) h
      obtain ⟨e3, e4⟩ := ih (by simpa using hl) (fun r hr => h1 r (List.mem_cons_of_mem _ hr)) (fun r hr => h2 r (List.mem_cons_of_mem _ hr)) e2
      exact ⟨by rw [e1, e3], e4⟩
theorem rows2_inj {ls ms : List (List I2)} {a b : List UInt8} (hl : FitR2 ls) (hm : FitR2 ms) (h : (rowsB2 ls).flatten ++ a = (rowsB2 ms).flatten ++ b) : ls = ms ∧ a = b := by
  unfold rowsB2 at h
  simp only [List.flatten_cons, List.append_assoc] at h
  obtain ⟨e1, e2⟩ := ints_inj (fit_len hl.1) (fit_len hm.1) h
  have e3 : ls.length = ms.length := by have : (ls.length : Int) = ms.length := (List.cons.inj e1).1; omega
  exact rowsF2_inj e3 hl.2 hm.2 e2
def FitL3 (r : List I3) : Prop := r.length < 4294967296 ∧ ∀ x ∈ r, Fit3 x
def FitL5 (r : List I5) : Prop := r.length < 4294967296 ∧ ∀ x ∈ r, Fit5 x
theorem fit_map {α : Type} {r : List α} {f : α → Int} (hl : r.length < 4294967296) (h : ∀ x ∈ r, Fit (f x)) : FitL (r.map f) := ⟨by rw [List.length_map]; exact hl, fun x hx => by obtain ⟨a, ha, rfl⟩ := List.mem_map.1 hx; exact h a ha⟩
theorem col_at {α : Type} {r s : List α} {f : α → Int} (h : r.map f = s.map f) {i : Nat} (hi : i < r.length) (hj : i < s.length) : f r[i] = f s[i] := by
  have g : (r.map f)[i]? = (s.map f)[i]? := by rw [h]
  simpa [List.getElem?_eq_getElem hi, List.getElem?_eq_getElem hj] using g
theorem map_inj {n m : Int} {r s : List I3} (hn : Fit n) (hm : Fit m) (hr : FitL3 r) (hs : FitL3 s) (h : (mapB n r).flatten = (mapB m s).flatten) : n = m ∧ r = s := by
  have h : (mapB n r).flatten ++ [] = (mapB m s).flatten ++ [] := by rw [h]
  unfold mapB at h
  simp only [List.flatten_cons, List.flatten_nil, List.append_nil] at h
  have f1 : ∀ {x : Int}, Fit x → FitL [x] := fun {x} hx => ⟨by simp, fun y hy => by rw [List.mem_singleton] at hy; subst hy; exact hx⟩
  obtain ⟨e1, h⟩ := ints_inj (f1 hn) (f1 hm) h
  obtain ⟨e2, h⟩ := ints_inj (fit_map hr.1 fun x hx => (hr.2 x hx).1) (fit_map hs.1 fun x hx => (hs.2 x hx).1) h
  obtain ⟨e3, h⟩ := ints_inj (fit_map hr.1 fun x hx => (hr.2 x hx).2.1) (fit_map hs.1 fun x hx => (hs.2 x hx).2.1) h
  have h : putInts (r.map fun a => a.2.2) ++ [] = putInts (s.map fun a => a.2.2) ++ [] := by rw [h]
  obtain ⟨e4, _⟩ := ints_inj (fit_map hr.1 fun x hx => (hr.2 x hx).2.2) (fit_map hs.1 fun x hx => (hs.2 x hx).2.2) h
  refine ⟨by simpa using e1, ?_⟩
  have hl : r.length = s.length := by simpa using congrArg List.length e2
  exact List.ext_getElem hl fun i hi hj => Prod.ext (col_at e2 hi hj) (Prod.ext (col_at e3 hi hj) (col_at e4 hi hj))
theorem hier_inj {rk rk2 : List Int} {r s : List I5} (hk : FitL rk) (hk2 : FitL rk2) (hr : FitL5 r) (hs : FitL5 s) (h : (hierB rk r).flatten = (hierB rk2 s).flatten) : rk = rk2 ∧ r = s := by
  unfold hierB at h
  simp only [List.flatten_cons, List.flatten_nil, List.append_nil] at h
  obtain ⟨e1, h⟩ := ints_inj hk hk2 h
  obtain ⟨e2, h⟩ := ints_inj (fit_map hr.1 fun x hx => (hr.2 x hx).1) (fit_map hs.1 fun x hx => (hs.2 x hx).1) h
  obtain ⟨e3, h⟩ := ints_inj (fit_map hr.1 fun x hx => (hr.2 x hx).2.1) (fit_map hs.1 fun x hx => (hs.2 x hx).2.1) h
  obtain ⟨e4, h⟩ := ints_inj (fit_map hr.1 fun x hx => (hr.2 x hx).2.2.1) (fit_map hs.1 fun x hx => (hs.2 x hx).2.2.1) h
  obtain ⟨e5, h⟩ := ints_inj (fit_map hr.1 fun x hx => (hr.2 x hx).2.2.2.1) (fit_map hs.1 fun x hx => (hs.2 x hx).2.2.2.1) h
  have h : putInts (r.map fun a => a.2.2.2.2) ++ [] = putInts (s.map fun a => a.2.2.2.2) ++ [] := by rw [h]
  obtain ⟨e6, _⟩ := ints_inj (fit_map hr.1 fun x hx => (hr.2 x hx).2.2.2.2) (fit_map hs.1 fun x hx => (hs.2 x hx).2.2.2.2) h
  refine ⟨e1, ?_⟩
  have hl : r.length = s.length := by simpa using congrArg List.length e2
  exact List.ext_getElem hl fun i hi hj => Prod.ext (col_at e2 hi hj) (Prod.ext (col_at e3 hi hj) (Prod.ext (col_at e4 hi hj) (Prod.ext (col_at e5 hi hj) (col_at e6 hi hj))))
structure FitI (n : Int) (ar : List I3) (rk : List Int) (ws : List I5) (g : List Int) (far : List (List Int)) (outs ins : List (List I2)) (so si : List (List Int)) : Prop where
  n : Fit n
  ar : FitL3 ar
  rk : FitL rk
  ws : FitL5 ws
  g : FitL g
  far : FitR far
  outs : FitR2 outs
  ins : FitR2 ins
  so : FitR so
  si : FitR si
theorem tabs_inj {g g2 : List Int} {far far2 so so2 si si2 : List (List Int)} {o o2 i i2 : List (List I2)} (hg : FitL g) (hg2 : FitL g2) (hf : FitR far) (hf2 : FitR far2) (ho : FitR2 o) (ho2 : FitR2 o2) (hi : FitR2 i) (hi2 : FitR2 i2) (hs : FitR so) (hs2 : FitR so2) (ht : FitR si) (ht2 : FitR si2)
    (h : (tabsB g far o i so si).flatten = (tabsB g2 far2 o2 i2 so2 si2).flatten) : g = g2 ∧ far = far2 ∧ o = o2 ∧ i = i2 ∧ so = so2 ∧ si = si2 := by
  unfold tabsB at h
  simp only [List.flatten_cons, List.flatten_append] at h
  obtain ⟨e1, h⟩ := ints_inj hg hg2 h
  obtain ⟨e2, h⟩ := rows_inj hf hf2 h
  obtain ⟨e3, h⟩ := rows2_inj ho ho2 h
  obtain ⟨e4, h⟩ := rows2_inj hi hi2 h
  obtain ⟨e5, h⟩ := rows_inj hs hs2 h
  have h : (rowsB si).flatten ++ [] = (rowsB si2).flatten ++ [] := by rw [h]
  obtain ⟨e6, _⟩ := rows_inj ht ht2 h
  exact ⟨e1, e2, e3, e4, e5, e6⟩
theorem enc_inj {n n2 : Int} {ar ar2 : List I3} {rk rk2 : List Int} {ws ws2 : List I5} {g g2 : List Int} {far far2 so so2 si si2 : List (List Int)} {o o2 i i2 : List (List I2)} (h1 : FitI n ar rk ws g far o i so si) (h2 : FitI n2 ar2 rk2 ws2 g2 far2 o2 i2 so2 si2)
    (m1 : massB (encB n ar rk ws g far o i so si) < 4294967296) (m2 : massB (encB n2 ar2 rk2 ws2 g2 far2 o2 i2 so2 si2) < 4294967296) :
    joinB (encB n ar rk ws g far o i so si) = joinB (encB n2 ar2 rk2 ws2 g2 far2 o2 i2 so2 si2) ↔ (n = n2 ∧ ar = ar2) ∧ (rk = rk2 ∧ ws = ws2) ∧ g = g2 ∧ far = far2 ∧ o = o2 ∧ i = i2 ∧ so = so2 ∧ si = si2 := by
  constructor
  · intro h
    have e1 := parts_join _ (by rw [joinB_length]; exact m1)
    have e2 := parts_join _ (by rw [joinB_length]; exact m2)
    rw [h, e2] at e1
    unfold encB at e1
    simp only [List.cons.injEq, and_true] at e1
    obtain ⟨_, q2, q3, q4⟩ := e1
    exact ⟨map_inj h1.n h2.n h1.ar h2.ar q2.symm, hier_inj h1.rk h2.rk h1.ws h2.ws q3.symm, tabs_inj h1.g h2.g h1.far h2.far h1.outs h2.outs h1.ins h2.ins h1.so h2.so h1.si h2.si q4.symm⟩
  · rintro ⟨⟨rfl, rfl⟩, ⟨rfl, rfl⟩, rfl, rfl, rfl, rfl, rfl, rfl⟩
    rfl
theorem GoodTab.fit {n : Nat} {l : List I3} {rk ins : List Int} {ways ls : List I5} {lo : Int} {g : List Int} {far so si : List (List Int)} {outs inss : List (List I2)} (hn : n ≤ 12) (hl : l.length ≤ 40) (hok : ∀ a ∈ l, okA (n : Int) a) (hB : BOk n l n rk ways ins ls) (h : GoodTab n rk lo g far outs inss so si) :
    FitI (n : Int) l rk ways g far outs inss so si := by
  have hg : ∀ x ∈ g, 0 ≤ x ∧ x < n := fun x hx => by rw [h.isGreat] at hx; have := mem_greatOf hx; exact ⟨this.1, this.2.1⟩
  have hgl : g.length ≤ n := by rw [h.isGreat]; exact filter_range_len _ n
  have hL := h.lens
  have h12 := wmax_le (r := 12) (by omega)
  refine ⟨⟨by omega, by omega⟩, ⟨by omega, fun a ha => ?_⟩, ⟨by rw [hB.rank]; omega, fun x hx => ?_⟩, ⟨by have := hB.wsl; omega, fun x hx => ?_⟩, ⟨by omega, fun x hx => by have := hg x hx; exact ⟨by omega, by omega⟩⟩, ⟨by have := h.farLen; omega, fun r hr => ?_⟩, ⟨by omega, fun r hr => ?_⟩, ⟨by omega, fun r hr => ?_⟩, ⟨by omega, fun r hr => ?_⟩, ⟨by omega, fun r hr => ?_⟩⟩
  · obtain ⟨a1, a2, a3, a4, a5, a6⟩ := hok a ha
    exact ⟨⟨by omega, by omega⟩, ⟨by omega, by omega⟩, ⟨by omega, by omega⟩⟩
  · have := hB.rks x hx; exact ⟨by omega, by omega⟩
  · obtain ⟨w1, w2, w3, w4, w5, w6⟩ := hB.ws x hx
    have hr := (hB.wrt x hx).1
    have hma : -1 ≤ x.2.2.2.1 ∧ x.2.2.2.1 ≤ 12 ∧ -1 ≤ x.2.2.2.2 ∧ x.2.2.2.2 ≤ 40 := by
      rcases hr with ⟨e1, e2, e3⟩ | ⟨e1, e2, _⟩
      · have := (List.getElem?_eq_some_iff.1 e3).1
        omega
      · have := e1.1
        have := e1.2.1
        omega
    exact ⟨⟨by omega, by omega⟩, ⟨by omega, by omega⟩, ⟨by omega, by omega⟩, ⟨by omega, by omega⟩, ⟨by omega, by omega⟩⟩
  · obtain ⟨f1, f2⟩ := h.isFar.1 r hr
    exact ⟨by omega, fun x hx => by have := f2 x hx; exact ⟨by omega, by omega⟩⟩
  · obtain ⟨f1, f2⟩ := h.isOuts r hr
    exact ⟨by omega, fun x hx => by obtain ⟨g1, g2, g3, g4⟩ := f1.ok x hx; exact ⟨⟨by omega, by omega⟩, ⟨by omega, by omega⟩⟩⟩
  · obtain ⟨f1, f2⟩ := h.isIns r hr
    exact ⟨by omega, fun x hx => by obtain ⟨g1, g2, g3, g4⟩ := f1.ok x hx; exact ⟨⟨by omega, by omega⟩, ⟨by omega, by omega⟩⟩⟩
  · obtain ⟨f1, f2⟩ := h.isSo r hr
    exact ⟨by omega, fun x hx => by have := f1.ok x hx; exact ⟨by omega, by omega⟩⟩
  · obtain ⟨f1, f2⟩ := h.isSi r hr
    exact ⟨by omega, fun x hx => by have := f1.ok x hx; exact ⟨by omega, by omega⟩⟩
end Go.Gr
set_option linter.unusedVariables false
set_option linter.unusedSimpArgs false
namespace Go.Proofs.YtngkdkbpgoddlaaGreat
open Go.RowKit Go.Rl
open Go.Gr Go.Codec Go.Crc
theorem ev_boolEqT {P : Program} {R : Nat → Value} {w : World} {dst : Option Tmp} {ty : TypeId} {pos : String} {af : Array Edge} {gd : Option (Nat × Bool)} {xt yt : TypeId} {x y : Operand} {p q : Prop} [Decidable p] [Decidable q] (ht : P.underlying xt = some .bool) (hx : ev R x = .bool (decide p)) (hy : ev R y = .bool (decide q)) (h : p ↔ q) : Ev P ⟨dst, .binOp .eql xt x y yt, ty, pos, af, gd⟩ R w (.bool true) := by
  have h1 := run_equal_bool (P := P) w xt (decide p) (decide q) ht
  have e : decide p = decide q := decide_eq_decide.2 h
  rw [e] at h1
  simp only [Ev, execOp, hx, hy, eqGuard, binOp, e]
  simp [h1]
set_option maxHeartbeats 4000000 in
set_option maxRecDepth 100000 in
theorem imageOther_calls (n : Int) (v1 v2 : Value) (l1 l2 : List I3) (j k : Int) (w : World) (hv1 : Sm i3cells w v1 l1) (hv2 : Sm i3cells w v2 l2) (hj0 : 0 ≤ j) (hj1 : j < 256) (hk0 : 0 ≤ k) (hk1 : k < 256) : Gives Tryz.prog 3 #[.int .i64 n, v1, v2, .int .u8 j, .int .u8 k] w fun r w' => r = .bool true ∧ Ext w w' := by
 refine Gives.start Tryz.func3 rfl (Nat.le_of_ble_eq_true rfl) ?_
 rw [args5]
 have hN := Now.nil w none_
 refine RW.seq (RW.region (RL.ev (v := .bool false) rfl rfl ev_assign (RL.nil (thenN (RW.seq (RW.region (RL.ev (v := .int .i64 (n)) rfl rfl ev_move (RL.ev (v := v1) rfl rfl ev_move ?_))))))))
 refine RL.op rfl rfl (op_call2 Tryz.func9 rfl rfl rfl rfl ((ofQ_calls (n) _ l1 _ (hv1.o.now hN)).mono ?_))
 rintro _ w1 ⟨q1, v1, rfl, hq1, ho_, he_⟩
 obtain ⟨hqe1, hq11, hq121, hok1, hal1⟩ := hq1
 replace hN : Now w none_ w1 [_] := hN.pushOwnM ho_ he_
 clear ho_ he_
 refine RL.ev (v := .int .u8 (j)) rfl rfl ev_move (RL.ev rfl rfl (ev_conv Tryz.underlying5 Tryz.underlying3 rfl (wr_i64 (by omega) (by omega))) (RL.ev rfl rfl (ev_rem rfl rfl (by decide) rfl) ?_))
 refine RL.op rfl rfl (op_call2 Tryz.func8 rfl rfl rfl rfl ((make_calls q1 _ (ofArcs (q1 : Int) l1) ((j.tmod 5)) _ (hN.sm 0 rfl) hok1 hal1 (by omega)).mono ?_))
 rintro _ w2 ⟨rv2, wv2, rk2, ways2, ins_, ls_, gv2, fv2, ov2, iv2, sov2, siv2, hsf2, far2, hso2, outs2, hsi2, inss2, hsso2, so2, hssi2, si2, rfl, hC_, hB2, hGT2⟩
 generalize hkk2 : (j.tmod 5) = kk2 at hC_ hGT2
 replace hN : Now w none_ w2 [_, _, _, _, _, _, _, _, _, _, _, _, _, _] := hN.call0 hC_
 clear hC_
 have hsz2 := hGT2.size (l := (ofArcs (q1 : Int) l1)) (ways := ways2) (by omega) (by rw [hB2.rank]; omega) (by have := hB2.wsl; omega) (by omega)
 have hms2 := hsz2.mass (n := (q1 : Int))
 refine RL.ev (v := .tuple #[.agg #[.int .i64 ((q1 : Int)), v1, rv2, wv2, gv2, fv2, ov2, iv2, sov2, siv2], .int .i64 (0)]) rfl rfl ev_move ?_
 iterate 2 refine RL.ev rfl rfl (ev_extract rfl rfl) ?_
 refine RL.op rfl rfl (opN_alloc (cs := [.int .i64 (0), .slice none 0 0, .slice none 0 0, .slice none 0 0, .slice none 0 0, .slice none 0 0, .slice none 0 0, .slice none 0 0, .slice none 0 0, .slice none 0 0]) zero34 rfl hN ?_)
 clear hN
 intro g3 w3 (hN : Now w none_ w3 [_, _, _, _, _, _, _, _, _, _, _, _, _, _, _])
 refine RL.op rfl rfl (opN_storeAll (vs := [.int .i64 ((q1 : Int)), v1, rv2, wv2, gv2, fv2, ov2, iv2, sov2, siv2]) sz34 rfl rfl rfl (by intro u hu; simp only [List.mem_cons, List.not_mem_nil, or_false] at hu; rcases hu with rfl | rfl | rfl | rfl | rfl | rfl | rfl | rfl | rfl | rfl <;> first | rfl | exact (hN.sl 1 rfl).one1 | exact (hN.sl 10 rfl).one1 | exact (hN.sl 12 rfl).one1 | exact (hN.sl 3 rfl).one1 | exact (hN.sl 4 rfl).one1 | exact (hN.sl 6 rfl).one1 | exact (hN.sl 8 rfl).one1 | exact (hN.sm 14 rfl).one1 | exact (hN.sm 2 rfl).one1) hN 0 rfl rfl ?_)
 clear hN
 intro w4 (hN : Now w none_ w4 [_, _, _, _, _, _, _, _, _, _, _, _, _, _, _])
 refine RL.ev (v := .int .i64 (0)) rfl rfl ev_assign (RL.nil (thenN (RW.seq (RW.region (RL.ev (v := .int .i64 (n)) rfl rfl ev_move (RL.ev (v := v2) rfl rfl ev_move ?_))))))
 refine RL.op rfl rfl (op_call2 Tryz.func9 rfl rfl rfl rfl ((ofQ_calls (n) _ l2 _ (hv2.o.now hN)).mono ?_))
 rintro _ w5 ⟨q5, v5, rfl, hq5, ho_, he_⟩
 obtain ⟨hqe5, hq15, hq125, hok5, hal5⟩ := hq5
 replace hN : Now w none_ w5 [_, _, _, _, _, _, _, _, _, _, _, _, _, _, _, _] := hN.pushOwnM ho_ he_
 clear ho_ he_
 refine RL.ev (v := .int .u8 (k)) rfl rfl ev_move (RL.ev rfl rfl (ev_conv Tryz.underlying5 Tryz.underlying3 rfl (wr_i64 (by omega) (by omega))) (RL.ev rfl rfl (ev_rem rfl rfl (by decide) rfl) ?_))
 refine RL.op rfl rfl (op_call2 Tryz.func8 rfl rfl rfl rfl ((make_calls q5 _ (ofArcs (q5 : Int) l2) ((k.tmod 5)) _ (hN.sm 0 rfl) hok5 hal5 (by omega)).mono ?_))
 rintro _ w6 ⟨rv6, wv6, rk6, ways6, ins_, ls_, gv6, fv6, ov6, iv6, sov6, siv6, hsf6, far6, hso6, outs6, hsi6, inss6, hsso6, so6, hssi6, si6, rfl, hC_, hB6, hGT6⟩
 generalize hkk6 : (k.tmod 5) = kk6 at hC_ hGT6
 replace hN : Now w none_ w6 [_, _, _, _, _, _, _, _, _, _, _, _, _, _, _, _, _, _, _, _, _, _, _, _, _, _, _, _, _] := hN.call0 hC_
 clear hC_
 have hsz6 := hGT6.size (l := (ofArcs (q5 : Int) l2)) (ways := ways6) (by omega) (by rw [hB6.rank]; omega) (by have := hB6.wsl; omega) (by omega)
 have hms6 := hsz6.mass (n := (q5 : Int))
 refine RL.ev (v := .tuple #[.agg #[.int .i64 ((q5 : Int)), v5, rv6, wv6, gv6, fv6, ov6, iv6, sov6, siv6], .int .i64 (0)]) rfl rfl ev_move ?_
 iterate 2 refine RL.ev rfl rfl (ev_extract rfl rfl) ?_
 refine RL.op rfl rfl (opN_alloc (cs := [.int .i64 (0), .slice none 0 0, .slice none 0 0, .slice none 0 0, .slice none 0 0, .slice none 0 0, .slice none 0 0, .slice none 0 0, .slice none 0 0, .slice none 0 0]) zero34 rfl hN ?_)
 clear hN
 intro g7 w7 (hN : Now w none_ w7 [_, _, _, _, _, _, _, _, _, _, _, _, _, _, _, _, _, _, _, _, _, _, _, _, _, _, _, _, _, _])
 refine RL.op rfl rfl (opN_storeAll (vs := [.int .i64 ((q5 : Int)), v5, rv6, wv6, gv6, fv6, ov6, iv6, sov6, siv6]) sz34 rfl rfl rfl (by intro u hu; simp only [List.mem_cons, List.not_mem_nil, or_false] at hu; rcases hu with rfl | rfl | rfl | rfl | rfl | rfl | rfl | rfl | rfl | rfl <;> first | rfl | exact (hN.sl 1 rfl).one1 | exact (hN.sl 10 rfl).one1 | exact (hN.sl 12 rfl).one1 | exact (hN.sl 3 rfl).one1 | exact (hN.sl 4 rfl).one1 | exact (hN.sl 6 rfl).one1 | exact (hN.sl 8 rfl).one1 | exact (hN.sm 14 rfl).one1 | exact (hN.sm 2 rfl).one1) hN 0 rfl rfl ?_)
 clear hN
 intro w8 (hN : Now w none_ w8 [_, _, _, _, _, _, _, _, _, _, _, _, _, _, _, _, _, _, _, _, _, _, _, _, _, _, _, _, _, _])
 refine RL.ev (v := .int .i64 (0)) rfl rfl ev_assign (RL.nil (thenN (RW.seq (RW.region (RL.ev rfl rfl (ev_loadAll (cs := [.int .i64 ((q1 : Int)), v1, rv2, wv2, gv2, fv2, ov2, iv2, sov2, siv2]) Tryz.underlying34 rfl sz34 rfl (hN.blk 15 rfl)) ?_)))))
 refine RL.op rfl rfl (op_call1 Tryz.func10 rfl rfl rfl ((encode_calls (q1 : Int) (ofArcs (q1 : Int) l1) rk2 ways2 (greatOf rk2 (lowOf (rk2.length : Int) kk2) rk2.length) far2 outs2 inss2 so2 si2 _ _ _ _ _ _ _ _ _ _ _ _ _ _ _ (hN.sm 29 rfl) (hN.sl 16 rfl) (hN.sm 17 rfl) ⟨(hN.sl 18 rfl).o, (hN.sl 19 rfl).o, (hN.els 20 rfl), (hN.sl 21 rfl).o, (hN.elsm 22 rfl), (hN.sl 23 rfl).o, (hN.elsm 24 rfl), (hN.sl 25 rfl).o, (hN.els 26 rfl), (hN.sl 27 rfl).o, (hN.els 28 rfl)⟩ (Nat.le_trans hsz2.ar (by omega)) (Nat.le_trans hsz2.rk (by omega)) (Nat.le_trans hsz2.ws (by omega)) (Nat.le_trans hsz2.g (by omega)) ⟨Nat.le_trans hsz2.far.1 (by omega), fun r hr => Nat.le_trans (hsz2.far.2 r hr) (by omega)⟩ ⟨Nat.le_trans hsz2.outs.1 (by omega), fun r hr => Nat.le_trans (hsz2.outs.2 r hr) (by omega)⟩ ⟨Nat.le_trans hsz2.ins.1 (by omega), fun r hr => Nat.le_trans (hsz2.ins.2 r hr) (by omega)⟩ ⟨Nat.le_trans hsz2.so.1 (by omega), fun r hr => Nat.le_trans (hsz2.so.2 r hr) (by omega)⟩ ⟨Nat.le_trans hsz2.si.1 (by omega), fun r hr => Nat.le_trans (hsz2.si.2 r hr) (by omega)⟩ (by omega)).mono ?_))
 rintro v9 w9 ⟨ho_, he_⟩
 replace hN : Now w none_ w9 [_, _, _, _, _, _, _, _, _, _, _, _, _, _, _, _, _, _, _, _, _, _, _, _, _, _, _, _, _, _, _] := hN.pushOwn (l := joinB (encB (q1 : Int) (ofArcs (q1 : Int) l1) rk2 ways2 (greatOf rk2 (lowOf (rk2.length : Int) kk2) rk2.length) far2 outs2 inss2 so2 si2)) ho_ he_
 clear ho_ he_
 refine RL.ev (v := v9) rfl rfl ev_assign (RL.nil (thenN (RW.seq (RW.region (RL.ev rfl rfl (ev_loadAll (cs := [.int .i64 ((q5 : Int)), v5, rv6, wv6, gv6, fv6, ov6, iv6, sov6, siv6]) Tryz.underlying34 rfl sz34 rfl (hN.blk 1 rfl)) ?_)))))
 refine RL.op rfl rfl (op_call1 Tryz.func10 rfl rfl rfl ((encode_calls (q5 : Int) (ofArcs (q5 : Int) l2) rk6 ways6 (greatOf rk6 (lowOf (rk6.length : Int) kk6) rk6.length) far6 outs6 inss6 so6 si6 _ _ _ _ _ _ _ _ _ _ _ _ _ _ _ (hN.sm 15 rfl) (hN.sl 2 rfl) (hN.sm 3 rfl) ⟨(hN.sl 4 rfl).o, (hN.sl 5 rfl).o, (hN.els 6 rfl), (hN.sl 7 rfl).o, (hN.elsm 8 rfl), (hN.sl 9 rfl).o, (hN.elsm 10 rfl), (hN.sl 11 rfl).o, (hN.els 12 rfl), (hN.sl 13 rfl).o, (hN.els 14 rfl)⟩ (Nat.le_trans hsz6.ar (by omega)) (Nat.le_trans hsz6.rk (by omega)) (Nat.le_trans hsz6.ws (by omega)) (Nat.le_trans hsz6.g (by omega)) ⟨Nat.le_trans hsz6.far.1 (by omega), fun r hr => Nat.le_trans (hsz6.far.2 r hr) (by omega)⟩ ⟨Nat.le_trans hsz6.outs.1 (by omega), fun r hr => Nat.le_trans (hsz6.outs.2 r hr) (by omega)⟩ ⟨Nat.le_trans hsz6.ins.1 (by omega), fun r hr => Nat.le_trans (hsz6.ins.2 r hr) (by omega)⟩ ⟨Nat.le_trans hsz6.so.1 (by omega), fun r hr => Nat.le_trans (hsz6.so.2 r hr) (by omega)⟩ ⟨Nat.le_trans hsz6.si.1 (by omega), fun r hr => Nat.le_trans (hsz6.si.2 r hr) (by omega)⟩ (by omega)).mono ?_))
 rintro v10 w10 ⟨ho_, he_⟩
 replace hN : Now w none_ w10 [_, _, _, _, _, _, _, _, _, _, _, _, _, _, _, _, _, _, _, _, _, _, _, _, _, _, _, _, _, _, _, _] := hN.pushOwn (l := joinB (encB (q5 : Int) (ofArcs (q5 : Int) l2) rk6 ways6 (greatOf rk6 (lowOf (rk6.length : Int) kk6) rk6.length) far6 outs6 inss6 so6 si6)) ho_ he_
 clear ho_ he_
 refine RL.ev (v := v10) rfl rfl ev_assign (RL.nil (thenN (RW.seq ?_)))
 have hqq : q5 = q1 := by omega
 have hf1 := hGT2.fit (by omega) (by omega) (mchk_ok hok1).2.2.2 hB2
 have hf2 := hGT6.fit (by omega) (by omega) (mchk_ok hok5).2.2.2 hB6
 have hin := enc_inj hf1 hf2 (by omega) (by omega)
 replace hN := hN.ext (Ext.drew w10)
 refine RW.drawR rfl (fun u => Now w none_ u [.own vb 5 (v10) (joinB (encB (q5 : Int) (ofArcs (q5 : Int) l2) rk6 ways6 (greatOf rk6 (lowOf (rk6.length : Int) kk6) rk6.length) far6 outs6 inss6 so6 si6)), .own vb 5 (v9) (joinB (encB (q1 : Int) (ofArcs (q1 : Int) l1) rk2 ways2 (greatOf rk2 (lowOf (rk2.length : Int) kk2) rk2.length) far2 outs2 inss2 so2 si2)), .blk g7 [.int .i64 ((q5 : Int)), v5, rv6, wv6, gv6, fv6, ov6, iv6, sov6, siv6] 34, .own vI 3 (rv6) (rk6), .ownm i5cells 5 98 (wv6) (ways6), .own vI 3 (gv6) ((greatOf rk6 (lowOf (rk6.length : Int) kk6) rk6.length)), .own vh 25 (fv6) (hsf6), .fam vI (hsf6) (far6), .own vh 118 (ov6) (hso6), .famm i2cells (hso6) (outs6), .own vh 118 (iv6) (hsi6), .famm i2cells (hsi6) (inss6), .own vh 25 (sov6) (hsso6), .fam vI (hsso6) (so6), .own vh 25 (siv6) (hssi6), .fam vI (hssi6) (si6), .ownm i3cells 3 100 (v5) ((ofArcs (q5 : Int) l2)), .blk g3 [.int .i64 ((q1 : Int)), v1, rv2, wv2, gv2, fv2, ov2, iv2, sov2, siv2] 34, .own vI 3 (rv2) (rk2), .ownm i5cells 5 98 (wv2) (ways2), .own vI 3 (gv2) ((greatOf rk2 (lowOf (rk2.length : Int) kk2) rk2.length)), .own vh 25 (fv2) (hsf2), .fam vI (hsf2) (far2), .own vh 118 (ov2) (hso2), .famm i2cells (hso2) (outs2), .own vh 118 (iv2) (hsi2), .famm i2cells (hsi2) (inss2), .own vh 25 (sov2) (hsso2), .fam vI (hsso2) (so2), .own vh 25 (siv2) (hssi2), .fam vI (hssi2) (si2), .ownm i3cells 3 100 (v1) ((ofArcs (q1 : Int) l1))]) 22 [(0,0), (1,0), (2,0), (3,0), (4,0), (5,0), (7,0), (8,0), (6,1), (9,1), (10,0), (11,0), (12,0), (13,0), (14,0), (15,1), (16,1), (17,0), (18,0), (19,1), (20,0), (21,0)] (by intro _ _ _ h; exact h) (by kernel_rfl) hN ?_
 refine RQ.ev (v := v9) rfl rfl (fun w hS => ev_move) ?_
 have hL_11 := (hN.sl 1 rfl).len_le
 refine RQ.ev rfl rfl (fun w hS => (ev_lenS Tryz.underlying38 (hS.sl 1 rfl) rfl)) (RQ.ev rfl rfl (fun w hS => (ev_true (ev_gtr rfl rfl) (by rw [joinB_length]; simp only [encB, massB_cons]; omega))) (RQ.ev (v := .bool true) rfl rfl (fun w hS => ev_move) (RQ.on (v := v9) rfl rfl rfl rfl (fun w hS => ev_move) (RQ.on (v := v10) rfl rfl rfl rfl (fun w hS => ev_move) (RQ.on rfl rfl rfl rfl (fun w hS => (ev_loadAll (cs := [.int .i64 ((q1 : Int)), v1, rv2, wv2, gv2, fv2, ov2, iv2, sov2, siv2]) Tryz.underlying34 rfl sz34 rfl (hS.blk 17 rfl))) (RQ.on rfl rfl rfl rfl (fun w hS => (ev_loadAll (cs := [.int .i64 ((q5 : Int)), v5, rv6, wv6, gv6, fv6, ov6, iv6, sov6, siv6]) Tryz.underlying34 rfl sz34 rfl (hS.blk 2 rfl))) ?_))))))
 refine RQ.doOn rfl rfl rfl rfl (op_call2 Tryz.func11 rfl rfl rfl rfl ((same_calls _ _ (joinB (encB (q1 : Int) (ofArcs (q1 : Int) l1) rk2 ways2 (greatOf rk2 (lowOf (rk2.length : Int) kk2) rk2.length) far2 outs2 inss2 so2 si2)) (joinB (encB (q5 : Int) (ofArcs (q5 : Int) l2) rk6 ways6 (greatOf rk6 (lowOf (rk6.length : Int) kk6) rk6.length) far6 outs6 inss6 so6 si6)) _ (hN.sl 1 rfl) (hN.sl 0 rfl)).mono ?_))
 rintro _ _ ⟨rfl, rfl⟩
 refine ⟨hN, ?_⟩
 refine RQ.doOn rfl rfl rfl rfl (op_call2 Tryz.func12 rfl rfl rfl rfl ((sameImg_calls _ ((q1 : Int)) _ _ _ (ofArcs (q1 : Int) l1) rk2 ways2 (hN.sm 31 rfl) (hN.sl 18 rfl) (hN.sm 19 rfl) _ (greatOf rk2 (lowOf (rk2.length : Int) kk2) rk2.length) (hN.sl 20 rfl) _ hsf2 far2 (hN.sl 21 rfl) (hN.els 22 rfl) _ hso2 outs2 (hN.sl 23 rfl) (hN.elsm 24 rfl) _ hsi2 inss2 (hN.sl 25 rfl) (hN.elsm 26 rfl) _ hsso2 so2 (hN.sl 27 rfl) (hN.els 28 rfl) _ hssi2 si2 (hN.sl 29 rfl) (hN.els 30 rfl) ((q5 : Int)) _ _ _ (ofArcs (q5 : Int) l2) rk6 ways6 (hN.sm 16 rfl) (hN.sl 3 rfl) (hN.sm 4 rfl) _ (greatOf rk6 (lowOf (rk6.length : Int) kk6) rk6.length) (hN.sl 5 rfl) _ hsf6 far6 (hN.sl 6 rfl) (hN.els 7 rfl) _ hso6 outs6 (hN.sl 8 rfl) (hN.elsm 9 rfl) _ hsi6 inss6 (hN.sl 10 rfl) (hN.elsm 11 rfl) _ hsso6 so6 (hN.sl 12 rfl) (hN.els 13 rfl) _ hssi6 si6 (hN.sl 14 rfl) (hN.els 15 rfl)).mono ?_))
 rintro _ w13 ⟨rfl, he_⟩
 replace hN := hN.ext he_
 clear he_
 refine ⟨hN, ?_⟩
 refine RQ.on rfl rfl rfl rfl (fun w hS => (ev_boolEqT Tryz.underlying4 rfl rfl hin)) (RQ.ev (v := .bool true) rfl rfl (fun w hS => (ev_pickT rfl)) (RQ.ev (v := .bool true) rfl rfl (fun w hS => ev_move) (RQ.on (v := v9) rfl rfl rfl rfl (fun w hS => ev_move) (RQ.on rfl rfl rfl rfl (fun w hS => (ev_loadAll (cs := [.int .i64 ((q1 : Int)), v1, rv2, wv2, gv2, fv2, ov2, iv2, sov2, siv2]) Tryz.underlying34 rfl sz34 rfl (hS.blk 17 rfl))) ?_))))
 refine RQ.doOn rfl rfl rfl rfl (op_call1 Tryz.func10 rfl rfl rfl ((encode_calls (q1 : Int) (ofArcs (q1 : Int) l1) rk2 ways2 (greatOf rk2 (lowOf (rk2.length : Int) kk2) rk2.length) far2 outs2 inss2 so2 si2 _ _ _ _ _ _ _ _ _ _ _ _ _ _ _ (hN.sm 31 rfl) (hN.sl 18 rfl) (hN.sm 19 rfl) ⟨(hN.sl 20 rfl).o, (hN.sl 21 rfl).o, (hN.els 22 rfl), (hN.sl 23 rfl).o, (hN.elsm 24 rfl), (hN.sl 25 rfl).o, (hN.elsm 26 rfl), (hN.sl 27 rfl).o, (hN.els 28 rfl), (hN.sl 29 rfl).o, (hN.els 30 rfl)⟩ (Nat.le_trans hsz2.ar (by omega)) (Nat.le_trans hsz2.rk (by omega)) (Nat.le_trans hsz2.ws (by omega)) (Nat.le_trans hsz2.g (by omega)) ⟨Nat.le_trans hsz2.far.1 (by omega), fun r hr => Nat.le_trans (hsz2.far.2 r hr) (by omega)⟩ ⟨Nat.le_trans hsz2.outs.1 (by omega), fun r hr => Nat.le_trans (hsz2.outs.2 r hr) (by omega)⟩ ⟨Nat.le_trans hsz2.ins.1 (by omega), fun r hr => Nat.le_trans (hsz2.ins.2 r hr) (by omega)⟩ ⟨Nat.le_trans hsz2.so.1 (by omega), fun r hr => Nat.le_trans (hsz2.so.2 r hr) (by omega)⟩ ⟨Nat.le_trans hsz2.si.1 (by omega), fun r hr => Nat.le_trans (hsz2.si.2 r hr) (by omega)⟩ (by omega)).mono ?_))
 rintro v14 w14 ⟨ho_, he_⟩
 replace hN : Now w none_ w14 [_, _, _, _, _, _, _, _, _, _, _, _, _, _, _, _, _, _, _, _, _, _, _, _, _, _, _, _, _, _, _, _, _] := hN.pushOwn (l := joinB (encB (q1 : Int) (ofArcs (q1 : Int) l1) rk2 ways2 (greatOf rk2 (lowOf (rk2.length : Int) kk2) rk2.length) far2 outs2 inss2 so2 si2)) ho_ he_
 clear ho_ he_
 refine ⟨(hN.sub [1, 2, 3, 4, 5, 6, 7, 8, 9, 10, 11, 12, 13, 14, 15, 16, 17, 18, 19, 20, 21, 22, 23, 24, 25, 26, 27, 28, 29, 30, 31, 32] (by decide) rfl), ?_⟩
 refine RQ.doOn rfl rfl rfl rfl (op_call2 Tryz.func11 rfl rfl rfl rfl ((same_true (hN.sl 2 rfl) (hN.sl 0 rfl) rfl).mono ?_))
 rintro _ _ ⟨rfl, rfl⟩
 refine ⟨(hN.sub [1, 2, 3, 4, 5, 6, 7, 8, 9, 10, 11, 12, 13, 14, 15, 16, 17, 18, 19, 20, 21, 22, 23, 24, 25, 26, 27, 28, 29, 30, 31, 32] (by decide) rfl), ?_⟩
 refine RQ.ev (v := .bool true) rfl rfl (fun w hS => (ev_pickT rfl)) (RQ.ev (v := .bool true) rfl rfl (fun w hS => ev_move) ?_)
 refine RQ.doOn rfl rfl rfl rfl (op_call0 Tryz.func13 rfl rfl ((known_calls _).mono ?_))
 rintro _ w16 ⟨rfl, he_⟩
 replace hN := hN.ext he_
 clear he_
 refine ⟨(hN.sub [1, 2, 3, 4, 5, 6, 7, 8, 9, 10, 11, 12, 13, 14, 15, 16, 17, 18, 19, 20, 21, 22, 23, 24, 25, 26, 27, 28, 29, 30, 31, 32] (by decide) rfl), ?_⟩
 refine RQ.ev (v := .bool true) rfl rfl (fun w hS => (ev_pickT rfl)) (RQ.ev (v := .bool true) rfl rfl (fun w hS => ev_assign) (RQ.done (by kernel_rfl) (thenN (RW.ret (retI (RV.tmp rfl) ?_)))))
 exact ⟨rfl, hN.ext0⟩
end Go.Proofs.YtngkdkbpgoddlaaGreat
namespace Go.Proofs.YtngkdkbpgoddlaaGreat.imageOther
open Go.ChangeShapes Go.WideShapes Go.ChangeAt Go.RowKit Go.Rl
open Go.ChangeMaps (open_string shut_string)
open Go.Gr
set_option linter.unusedVariables false
set_option linter.unusedSimpArgs false
theorem own : ownKnob Tryz.prog.godebug = none := by kernel_rfl
theorem laidOut : laidOutB Tryz.prog = true := by kernel_rfl
set_option maxHeartbeats 4000000 in
set_option maxRecDepth 100000 in
theorem lifted (os : Os) (started : os.Started) (H : Type) (enc : TypeId × Value → H) :
    ReturnsInHanded {} Tryz.checked os 3 .any (Rows.imageOtherSpec.pre6 enc Tryz.prog Tryz.f3 Rows.imageOtherRow.domain false) (Rows.imageOtherSpec.post enc Tryz.prog Tryz.f3 false true false false) := by
  refine returnsInHanded_of_change_sized (C := Tryz.checked) own started (by kernel_rfl) Tryz.func3
    (ChangeSpec.witness6 (enc := enc) (C := Tryz.checked) false ⟨#[], #[.int .i64 0, .slice none 0 0, .slice none 0 0, .int .u8 0, .int .u8 0], []⟩ 8 (by kernel_rfl) (by kernel_rfl) (by kernel_rfl) (by kernel_rfl)) ?_
  intro W base args ds gs before hval0 hW hcnd hsz0 _
  have hsz : (DataW.weightsEach Tryz.prog (Tryz.f3.params.toList ++ Rows.imageOtherSpec.plain.varTypes Tryz.prog) (ds ++ gs)).all (· ≤ reachBytes) = true := hsz0
  have hval : ∀ (j : Nat) t v, Tryz.f3.params[j]? = some t → args[j]? = some v → Value.okWide Tryz.prog W .any base t v := hval0
  have hW' := hW
  obtain ⟨p, q, hA0, hV, rfl, hfz, hnd⟩ := hW
  have hA : DataW.TrodAll enc Tryz.prog W 0 (fun _ => true) true Tryz.f3.params.toList args.toList ds p := hA0
  rw [Tryz.params3] at hA hval hsz
  obtain ⟨v0, vs0, d0, ds0, p0, q0, hargs, rfl, rfl, h0, r0⟩ := trodAll_cons hA
  obtain ⟨v1, vs1, d1, ds1, p1, q1, rfl, rfl, rfl, h1, r1⟩ := trodAll_cons r0
  obtain ⟨v2, vs2, d2, ds2, p2, q2, rfl, rfl, rfl, h2, r2⟩ := trodAll_cons r1
  obtain ⟨v3, vs3, d3, ds3, p3, q3, rfl, rfl, rfl, h3, r3⟩ := trodAll_cons r2
  obtain ⟨v4, vs4, d4, ds4, p4, q4, rfl, rfl, rfl, h4, r4⟩ := trodAll_cons r3
  obtain ⟨rfl, rfl, rfl⟩ := trodAll_nil r4
  obtain rfl : args = #[v0, v1, v2, v3, v4] := by cases args; simp_all
  obtain ⟨rfl, rfl⟩ := trodVars_none hV
  have k0 := h0
  have lt0 : ∀ x ∈ p0, x.block < W.heap.size := by obtain ⟨m, hm⟩ := k0; exact DataW.trod_lt m _ _ _ hm
  obtain ⟨a0, rfl, rfl, rfl, w0⟩ := open_int Tryz.underlying3 (hval 0 3 v0 rfl rfl) h0
  have w0 := wf_i64 w0
  have k1 := h1
  have lt1 : ∀ x ∈ p1, x.block < W.heap.size := by obtain ⟨m, hm⟩ := k1; exact DataW.trod_lt m _ _ _ hm
  obtain ⟨l1, s1, b1⟩ := arcs_arg hsz (j := 1) rfl rfl Tryz.underlying22 (by kernel_rfl) (by kernel_rfl) (hval 1 22 v1 rfl rfl) h1
  have k2 := h2
  have lt2 : ∀ x ∈ p2, x.block < W.heap.size := by obtain ⟨m, hm⟩ := k2; exact DataW.trod_lt m _ _ _ hm
  obtain ⟨l2, s2, b2⟩ := arcs_arg hsz (j := 2) rfl rfl Tryz.underlying22 (by kernel_rfl) (by kernel_rfl) (hval 2 22 v2 rfl rfl) h2
  have k3 := h3
  have lt3 : ∀ x ∈ p3, x.block < W.heap.size := by obtain ⟨m, hm⟩ := k3; exact DataW.trod_lt m _ _ _ hm
  obtain ⟨a3, rfl, rfl, rfl, w3⟩ := open_int Tryz.underlying5 (hval 3 5 v3 rfl rfl) h3
  have w3 := wf_u8 w3
  have k4 := h4
  have lt4 : ∀ x ∈ p4, x.block < W.heap.size := by obtain ⟨m, hm⟩ := k4; exact DataW.trod_lt m _ _ _ hm
  obtain ⟨a4, rfl, rfl, rfl, w4⟩ := open_int Tryz.underlying5 (hval 4 5 v4 rfl rfl) h4
  have w4 := wf_u8 w4
  clear hA0 hval0 hsz0 hsz
  refine Calls.mono (imageOther_calls a0 _ _ _ _ a3 a4 W s1 s2 w3.1 w3.2 w4.1 w4.2) fun e W' hx => ?_
  obtain ⟨r, rfl, rfl, hext⟩ := hx
  have bel := hext.below
  exact ⟨_, rfl, _, _, _, [], _, [], hW', trodAll_mk1 (shut_bool Tryz.underlying4 _), (trodAll_cons_mk (Below.trod laidOut (by kernel_rfl) (of_decide_eq_true (by kernel_rfl)) k0 bel lt0) (trodAll_cons_mk (Below.trod laidOut (by kernel_rfl) (of_decide_eq_true (by kernel_rfl)) k1 bel lt1) (trodAll_cons_mk (Below.trod laidOut (by kernel_rfl) (of_decide_eq_true (by kernel_rfl)) k2 bel lt2) (trodAll_cons_mk (Below.trod laidOut (by kernel_rfl) (of_decide_eq_true (by kernel_rfl)) k3 bel lt3) (trodAll_cons_mk (Below.trod laidOut (by kernel_rfl) (of_decide_eq_true (by kernel_rfl)) k4 bel lt4) trodAll_mk0))))), rfl, bel.frame _, fun h => by cases h⟩
theorem over : Rows.imageOtherRow.holds Tryz.pinned (OpenSpec.ofChange Rows.imageOtherSpec) :=
  OpenClaim.holds_of_wide 3 Tryz.f3 rfl rfl rfl rfl rfl rfl rfl ⟨rfl, rfl, rfl, rfl, rfl⟩ rfl rfl rfl rfl rfl (by kernel_rfl) Tryz.func3 (by kernel_rfl)
    (of_decide_eq_true (by kernel_rfl)) (by unfold Func.isWrapper; first | (rw [if_pos (by decide +kernel)]; kernel_rfl) | (rw [if_neg (by decide +kernel)]; exact ⟨rfl, rfl⟩))
    (fun os started H enc _ => lifted os started H enc)
end Go.Proofs.YtngkdkbpgoddlaaGreat.imageOther
namespace Go.Proofs.YtngkdkbpgoddlaaGreat
theorem imageOther_holds : Rows.ImageOtherSaid := imageOther.over
end Go.Proofs.YtngkdkbpgoddlaaGreat
