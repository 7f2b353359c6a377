import Derived.Test.YtlblpiapeieofaaDiskAtom
import Derived.Test.YtlblpiapeieofaaRlB
/- What is done, as it comes in. No program. -/
set_option linter.unusedVariables false
namespace Go.Disk
open Go.Rl Go.ChangeShapes Go.WideShapes
abbrev opSh : Sh := .cons (.int .i64) (.cons .str (.cons .str (.cons (.sl (.int .u8)) .nil)))
abbrev SmallOp (x : Op) : Prop := x.data.length ≤ 140737488351232 ∧ x.name.length ≤ 140737488351232 ∧ x.to.length ≤ 140737488351232
def opOf (a : opSh.ty) : Op := ⟨a.1, a.2.1, a.2.2.1, (show List Int from a.2.2.2.1).map fun n => UInt8.ofNat n.toNat⟩
theorem op_rd {w : World} {cs : List Value} {a : opSh.ty} (h : opSh.rd w cs a) (hl : opSh.le reachBytes a) : ∃ hd : Hd, cs = ocells ((opOf a).kind, (opOf a).name, (opOf a).to, hd) ∧ Sl vb w (vh hd) (opOf a).data ∧ SmallOp (opOf a) ∧ -9223372036854775808 ≤ (opOf a).kind ∧ (opOf a).kind ≤ 9223372036854775807 := by
  have hlen := opSh.rd_len h
  obtain ⟨h1, h2, h3, h4, _⟩ := h
  obtain ⟨l1, l2, l3, ⟨l4, _⟩, _⟩ := hl
  match cs, hlen with
  | [c1, c2, c3, c4], _ =>
    have e1 : c1 = .int .i64 a.1 ∧ (Lit.int .i64 a.1).wf = true := by
      have := h1
      simp only [Sh.rd, Sh.cells, List.take_succ_cons, List.take_zero, List.cons.injEq, and_true] at this
      exact this
    have e2 : c2 = str a.2.1 := by
      have := h2
      simp only [Sh.rd, Sh.cells, List.drop_succ_cons, List.drop_zero, List.take_succ_cons, List.take_zero, List.cons.injEq, and_true] at this
      exact this.1
    have e3 : c3 = str a.2.2.1 := by
      have := h3
      simp only [Sh.rd, Sh.cells, List.drop_succ_cons, List.drop_zero, List.take_succ_cons, List.take_zero, List.cons.injEq, and_true] at this
      exact this.1
    have h4' : (Sh.sl (.int .u8)).rd w [c4] a.2.2.2.1 := h4
    have h5 := Sh.rd_bytes h4'
    obtain ⟨hd, hh⟩ := h5.hd
    subst hh
    have hw := wf_i64 e1.2
    refine ⟨hd, by rw [e1.1, e2, e3]; rfl, h5, ⟨?_, l2, l3⟩, hw⟩
    have : (opOf a).data.length = List.length (show List Int from a.2.2.2.1) := List.length_map _
    rw [this]; exact l4
theorem ops_rd {w : World} {c : Value} {l : List opSh.ty} (h : (Sh.sl opSh).rd w [c] l) (hl : (Sh.sl opSh).le reachBytes l) : ∃ (os : List OH), Sm ocells w c os ∧ OEls none_ w os (l.map opOf) ∧ ∀ x ∈ l.map opOf, SmallOp x := by
  have h0 := h
  obtain ⟨A, cap, hcs, h1, h2, h3⟩ := h0
  have each : ∀ (i : Nat) (a : opSh.ty), l[i]? = some a → ∃ o : OH, OOk none_ w o (opOf a) ∧ SmallOp (opOf a) ∧ ∀ (j : Nat) v, (ocells o)[j]? = some v → ∃ ad, A = some ad ∧ w.cell? (ad.add (i * 4 + j)) = some v := by
    intro i a ha
    obtain ⟨cs', g1, g2, g3⟩ := h3 i a ha
    obtain ⟨hd, rfl, k2, k3, _⟩ := op_rd g2 (hl.2 a (List.mem_of_getElem? ha))
    exact ⟨_, ⟨rfl, rfl, rfl, k2.o⟩, k3, g3⟩
  have : ∃ os : List OH, os.length = l.length ∧ ∀ (i : Nat) (a : opSh.ty) o, l[i]? = some a → os[i]? = some o → OOk none_ w o (opOf a) ∧ SmallOp (opOf a) ∧ ∀ (j : Nat) v, (ocells o)[j]? = some v → ∃ ad, A = some ad ∧ w.cell? (ad.add (i * 4 + j)) = some v := by
    refine ⟨(List.range l.length).map fun i => if hi : i < l.length then Classical.choose (each i l[i] (List.getElem?_eq_getElem hi)) else (0, [], [], nilH), by simp, fun i a o ha ho => ?_⟩
    obtain ⟨hlt, rfl⟩ := List.getElem?_eq_some_iff.1 ha
    rw [List.getElem?_map, List.getElem?_range hlt] at ho
    simp only [Option.map_some, dif_pos hlt, Option.some.injEq] at ho
    subst ho
    exact Classical.choose_spec (each i l[i] (List.getElem?_eq_getElem hlt))
  obtain ⟨os, hlo, hh⟩ := this
  cases hcs
  have hlo' : List.length (α := opSh.ty) l = os.length := hlo.symm
  refine ⟨os, ⟨A, cap, by rw [← hlo'], by rw [← hlo']; exact h1, h2, fun q v hq => ?_⟩, ⟨by rw [List.length_map]; exact hlo, fun i o x ho hx => ?_⟩, fun x hx => ?_⟩
  · have hql : q < os.length * 4 := by
      have := (List.getElem?_eq_some_iff.1 hq).1
      rwa [flatMap_len ocells_len] at this
    have hi : q / 4 < os.length := by omega
    have e : q = (q / 4) * 4 + q % 4 := by omega
    rw [e, flatMap_get ocells_len (List.getElem?_eq_getElem hi) (by omega)] at hq
    have := (hh (q / 4) _ _ (List.getElem?_eq_getElem (by omega)) (List.getElem?_eq_getElem hi)).2.2 (q % 4) v hq
    rwa [← e] at this
  · rw [List.getElem?_map] at hx
    cases hq : l[i]? with
    | none => rw [hq] at hx; cases hx
    | some a =>
      rw [hq] at hx
      simp only [Option.map_some, Option.some.injEq] at hx
      subst hx
      exact (hh i a o hq ho).1
  · obtain ⟨a, ha, rfl⟩ := List.mem_map.1 hx
    obtain ⟨i, hi⟩ := List.getElem?_of_mem ha
    have hil := (List.getElem?_eq_some_iff.1 hi).1
    exact (hh i a _ hi (List.getElem?_eq_getElem (by omega))).2.1
section
variable {H : Type} {enc : TypeId × Value → H} {P : Program} {W : World} {base : Nat} {held : Bool} {t : TypeId} {d : DataW H} {ps : List MemPlace} {v : Value} {ts : List TypeId} {ds : List (DataW H)} {j : Nat}
theorem ops_arg {e : TypeId} (hsz : (DataW.weightsEach P ts ds).all (· ≤ reachBytes) = true) (ht : ts[j]? = some t) (hd : ds[j]? = some d) (hu : P.underlying t = some (.slice e)) (hf : (Sh.sl opSh).fit P (.inl t) = true) (hh : (Sh.sl opSh).heavy P (.inl t) = true) (hv : Value.okWide P W .any base t v) (h : DataW.Trod enc P W 0 (fun _ => true) held t v d ps) :
    ∃ (os : List OH) (xs : List Op), Sm ocells W v os ∧ OEls none_ W os xs ∧ ∀ x ∈ xs, SmallOp x := by
  obtain ⟨a, len, cap, rfl⟩ := okWide_slice hu hv
  obtain ⟨l, hr, hl⟩ := open_sh2 hsz ht hd hf hh h
  obtain ⟨os, h1, h2, h3⟩ := ops_rd hr hl
  exact ⟨os, _, h1, h2, h3⟩
theorem op_arg {fs : Array Field} (hsz : (DataW.weightsEach P ts ds).all (· ≤ reachBytes) = true) (ht : ts[j]? = some t) (hd : ds[j]? = some d) (hu : P.underlying t = some (.struct fs)) (hf : opSh.fit P (.inl t) = true) (hh : opSh.heavy P (.inl t) = true) (hv : Value.okWide P W .any base t v) (h : DataW.Trod enc P W 0 (fun _ => true) held t v d ps) :
    ∃ (x : Op) (hx : Hd), v = opV x hx ∧ Sl vb W (vh hx) x.data ∧ SmallOp x := by
  obtain ⟨cs, rfl, _⟩ := okWide_struct hu hv
  obtain ⟨a, hr, hl⟩ := open_sh2 hsz ht hd hf hh h
  obtain ⟨hx, e, h1, h2, _⟩ := op_rd hr hl
  refine ⟨_, hx, ?_, h1, h2⟩
  unfold opV
  congr 1
  apply Array.ext'
  exact e
end
end Go.Disk
