import Derived.Test.YtlblpiapeieofaaFacts
import Derived.Test.YtlblpiapeieofaaDiskAtom
set_option linter.unusedVariables false
set_option linter.unusedSimpArgs false
namespace Go.Proofs.Ytlblpiapeieofaa
open Go.RowKit Go.Rl

open Go.Disk
theorem flat_take {ls : List (List UInt8)} {i : Nat} {l : List UInt8} (h : ls[i]? = some l) : (ls.take (i + 1)).flatten.length = (ls.take i).flatten.length + l.length := by rw [List.take_add_one, h]; simp
theorem flat_take_eq {ls : List (List UInt8)} {i : Nat} {l : List UInt8} (h : ls[i]? = some l) : (ls.take (i + 1)).flatten = (ls.take i).flatten ++ l := by rw [List.take_add_one, h]; simp
theorem flat_le (ls : List (List UInt8)) (i : Nat) : (ls.take i).flatten.length ≤ ls.flatten.length := by
  conv => rhs; rw [← List.take_append_drop i ls]
  rw [List.flatten_append, List.length_append]; omega
theorem Cells.none_nil {w : World} {l : List UInt8} (h : Cells w none (l.map vb)) : l = [] := by
  cases l with
  | nil => rfl
  | cons a r => obtain ⟨ad, h', _⟩ := h 0 (vb a) rfl; cases h'

set_option maxHeartbeats 4000000 in
set_option maxRecDepth 100000 in
/-- postroad/postroadref00.Same -/
theorem same_calls (a b : Value) (x y : List UInt8) (w : World) (ha : Sl vb w a x) (hb : Sl vb w b y) : Gives Try.prog 18 #[a, b] w fun r w' => r = .bool (decide (x = y)) ∧ w = w' := by
  refine Gives.start Try.func18 rfl (Nat.le_of_ble_eq_true rfl) ?_
  rw [args2]
  refine RW.seq ?_
  refine RW.region ?_
  refine RL.ev rfl rfl ev_assign ?_
  refine RL.nil ?_
  refine thenN ?_
  refine RW.seq ?_
  refine RW.region ?_
  refine RL.ev rfl rfl ev_move ?_
  refine RL.ev rfl rfl (ev_toStr Try.underlying23 Try.underlying5 Try.underlying9 ha rfl) ?_
  refine RL.ev rfl rfl ev_move ?_
  refine RL.ev rfl rfl (ev_toStr Try.underlying23 Try.underlying5 Try.underlying9 hb rfl) ?_
  refine RL.ev rfl rfl (ev_strEq rfl rfl) ?_
  refine RL.ev rfl rfl ev_assign ?_
  refine RL.nil ?_
  refine thenN ?_
  refine RW.ret ?_
  refine retI (RV.tmp rfl) ?_
  exact ⟨rfl, rfl⟩

theorem same_true {a b : Value} {x y : List UInt8} {w : World} (ha : Sl vb w a x) (hb : Sl vb w b y) (h : x = y) : Gives Try.prog 18 #[a, b] w fun r w' => r = .bool true ∧ w = w' :=
  (same_calls a b x y w ha hb).mono fun r w' hr => by rw [decide_eq_true h] at hr; exact hr
theorem same_false {a b : Value} {x y : List UInt8} {w : World} (ha : Sl vb w a x) (hb : Sl vb w b y) (h : ¬ x = y) : Gives Try.prog 18 #[a, b] w fun r w' => r = .bool false ∧ w = w' :=
  (same_calls a b x y w ha hb).mono fun r w' hr => by rw [decide_eq_false h] at hr; exact hr

set_option maxHeartbeats 4000000 in
set_option maxRecDepth 100000 in
/-- postroad/postroadref00.Copy -/
theorem copy_calls (v : Value) (l : List UInt8) (w : World) (hv : Sl vb w v l) (hl : l.length ≤ 140737488355328) : Gives Try.prog 29 #[v] w fun r w' => Own vb 5 w' w.heap.size r l ∧ Ext w w' := by
  refine Gives.start Try.func29 rfl (Nat.le_of_ble_eq_true rfl) ?_
  rw [args1]
  refine RW.seq ?_
  refine RW.region ?_
  refine RL.ev rfl rfl ev_assign ?_
  refine RL.nil ?_
  refine thenN ?_
  refine RW.seq ?_
  refine RW.region ?_
  refine RL.ev rfl rfl ev_assign ?_
  refine RL.nil ?_
  refine thenN ?_
  refine RW.seq ?_
  refine RW.region ?_
  refine RL.ev rfl rfl ev_move ?_
  refine RL.ev rfl rfl ev_move ?_
  refine RL.op rfl rfl (op_append (l := []) Try.underlying23 inf5 rfl vb_one (Own.nil vb 5 w w.heap.size) rfl hv rfl (by simp; omega) (by decide) (Nat.le_refl _) ?_)
  intro v1 w1 ho1 hm1 hk1
  rw [List.nil_append] at ho1
  have he1 : Ext w w1 := hm1.mono (by intro i _ h; cases h)
  refine RL.ev rfl rfl ev_assign ?_
  refine RL.nil ?_
  refine thenN ?_
  refine RW.ret ?_
  refine retI (RV.tmp rfl) ?_
  exact ⟨ho1, he1⟩

set_option maxHeartbeats 4000000 in
set_option maxRecDepth 100000 in
/-- slices.Grow[[]byte,byte] -/
theorem grow_calls (n : Int) (w : World) (h0 : 0 ≤ n) (h1 : n ≤ 140737488355328) : Gives Try.prog 48 #[.slice none 0 0, .int .i64 (n)] w fun r w' => Own vb 5 w' w.heap.size r [] ∧ Ext w w' := by
  refine Gives.start Try.func48 rfl (Nat.le_of_ble_eq_true rfl) ?_
  rw [args2]
  have hN := Now.nil w none_
  refine RW.seq ?_
  refine RW.region ?_
  refine RL.ev rfl rfl ev_assign ?_
  refine RL.nil ?_
  refine thenN ?_
  refine RW.seq ?_
  refine RW.seq ?_
  refine RW.region ?_
  refine RL.ev rfl rfl ev_move ?_
  refine RL.ev rfl rfl (ev_false (ev_lss rfl rfl) (by omega)) ?_
  refine RL.nil ?_
  refine thenN ?_
  refine RW.condF rfl ?_
  refine RW.skip ?_
  refine thenN ?_
  refine RW.seq ?_
  refine RW.seq ?_
  refine RW.region ?_
  refine RL.ev rfl rfl ev_move ?_
  refine RL.ev rfl rfl ev_move ?_
  refine RL.ev rfl rfl (ev_capNil Try.underlying23 rfl) ?_
  refine RL.ev rfl rfl ev_move ?_
  refine RL.ev rfl rfl (show Ev _ _ _ _ (.int .i64 0) from ev_lenS Try.underlying23 (Sl.nil vb _) rfl) ?_
  refine RL.ev rfl rfl (ev_arith rfl rfl rfl (sub64 (by decide) (by decide))) ?_
  refine RL.ev rfl rfl (ev_arith rfl rfl rfl (sub64 (by omega) (by omega))) ?_
  refine RL.ev rfl rfl ev_assign ?_
  refine RL.nil ?_
  refine thenN ?_
  refine RW.seq ?_
  refine RW.region ?_
  refine RL.ev rfl rfl ev_move ?_
  refine RL.ev rfl rfl (ev_gtr rfl rfl) ?_
  refine RL.nil ?_
  refine thenN ?_
  refine RW.condP _ rfl (fun hpos => ?_) (fun hpos => ?_)
  · skip
    refine RW.region ?_
    refine RL.ev rfl rfl ev_move ?_
    refine RL.ev rfl rfl ev_move ?_
    refine RL.ev rfl rfl (ev_capNil Try.underlying23 rfl) ?_
    refine RL.ev rfl rfl (ev_cutNil Try.underlying23 sz5 rfl rfl) ?_
    refine RL.ev rfl rfl ev_move ?_
    replace hN := hN.addNil vb 5
    refine RL.op rfl rfl (opN_appendZ (enc := vb) (z := 0) (m := n - 0) Try.underlying23 Try.underlying3 inf5 rfl rfl hN 0 rfl rfl rfl (by omega) (by simp only [List.length_nil]; omega) (by decide) ?_)
    intro v1 w1 hN_
    clear hN
    have hN : Now w none_ w1 [_] := hN_
    clear hN_
    replace hN := hN.relist 0 rfl (show _ = List.replicate (n - 0).toNat 0 from List.nil_append _)
    replace hN : Now w none_ w1 [_] := hN
    refine RL.ev rfl rfl ev_move ?_
    refine RL.ev rfl rfl (show Ev _ _ _ _ (.int .i64 0) from ev_lenS Try.underlying23 (Sl.nil vb _) rfl) ?_
    refine RL.ev rfl rfl (ev_cutTo Try.underlying23 sz5 (hN.sl 0 rfl) rfl rfl (by omega) (by omega)) ?_
    replace hN := hN.ownCut 0 rfl 0 (Nat.zero_le _)
    replace hN := hN.relist 0 rfl (List.take_zero : _ = [])
    replace hN : Now w none_ w1 [.own vb 5 ((cutV v1 0 0)) ([])] := hN
    refine RL.ev rfl rfl ev_assign ?_
    refine RL.nil ?_
    refine thenN ?_
    refine RW.seq ?_
    refine RW.region ?_
    refine RL.ev rfl rfl ev_move ?_
    refine RL.ev rfl rfl ev_assign ?_
    refine RL.nil ?_
    refine thenN ?_
    refine RW.ret ?_
    refine retI (RV.tmp rfl) ?_
    exact ⟨hN.ownOut 0 rfl, hN.ext0⟩
  · skip
    refine RW.skip ?_
    refine thenN ?_
    refine RW.seq ?_
    refine RW.region ?_
    refine RL.ev rfl rfl ev_move ?_
    refine RL.ev rfl rfl ev_assign ?_
    refine RL.nil ?_
    refine thenN ?_
    refine RW.ret ?_
    refine retI (RV.tmp rfl) ?_
    exact ⟨Own.nil _ _ _ _, hN.ext0⟩

set_option maxHeartbeats 4000000 in
set_option maxRecDepth 100000 in
/-- slices.Concat[[]byte,byte] -/
theorem concat_calls (v : Value) (hs : List Hd) (ls : List (List UInt8)) (w : World) (h0 : Sl vh w v hs) (hel : Els none_ vb w hs ls) (hm : ls.flatten.length ≤ 140737488355328) : Gives Try.prog 35 #[v] w fun r w' => Own vb 5 w' w.heap.size r ls.flatten ∧ Ext w w' := by
  refine Gives.start Try.func35 rfl (Nat.le_of_ble_eq_true rfl) ?_
  rw [args1]
  have hN := Now.nil w none_
  have hl0 := hel.1
  refine RW.seq ?_
  refine RW.region ?_
  refine RL.ev rfl rfl ev_assign ?_
  refine RL.nil ?_
  refine thenN ?_
  refine RW.seq ?_
  refine RW.region ?_
  refine RL.ev rfl rfl ev_assign ?_
  refine RL.nil ?_
  refine thenN ?_
  refine RW.seq ?_
  refine RW.seq ?_
  refine RW.region ?_
  refine RL.ev rfl rfl ev_move ?_
  have hL_1 := (h0.ext hN.ext0).len_le
  refine RL.ev rfl rfl (ev_lenS Try.underlying69 (h0.ext hN.ext0) rfl) ?_
  refine RL.ev rfl rfl ev_move ?_
  refine RL.nil ?_
  refine thenN ?_
  refine RW.block ?_
  refine RW.loop (fun k R0 w0' => ∃ z : Int, ∃ i : Nat, R0 0 = v ∧ R0 3 = .int .i64 (z) ∧ R0 9 = v ∧ R0 10 = .int .i64 ((hs.length : Int)) ∧ R0 11 = .int .i64 ((i : Int)) ∧ Now w none_ w0' [] ∧ (i + k = hs.length) ∧ (z = ((ls.take i).flatten.length : Nat))) (hs.length) ?_ ?_
  · skip
    exact ⟨0, 0, rfl, rfl, rfl, rfl, rfl, hN, by omega, by simp⟩
  · skip
    clear hN
    rintro k R0 w0' ⟨z, i, hr0_, hr3_, hr9_, hr10_, hr11_, hN, hik, hz⟩
    have hR_ : ∃ R0_, R0 = (upd (upd (upd (upd (upd R0_ 0 _) 3 _) 9 _) 10 _) 11 _) := ⟨R0, by rw [upd_self hr0_, upd_self hr3_, upd_self hr9_, upd_self hr10_, upd_self hr11_]⟩
    obtain ⟨R0_, rfl⟩ := hR_
    clear hr0_ hr3_ hr9_ hr10_ hr11_
    refine RW.seq ?_
    refine RW.region ?_
    refine RL.ev rfl rfl (ev_lss rfl rfl) ?_
    refine RL.nil ?_
    refine thenN ?_
    refine RW.seq ?_
    refine RW.condP _ rfl (fun hlt => ?_) (fun hlt => ?_)
    · skip
      refine RW.skip ?_
      refine thenN ?_
      refine RW.seq ?_
      refine RW.block ?_
      refine RW.seq ?_
      refine RW.region ?_
      refine RL.ev rfl rfl (ev_index Try.underlying69 sz23 (h0.ext hN.ext0) rfl rfl (by omega) (by omega)) ?_
      have hOb_ : ∃ a_, (hs)[i]? = some a_ := ⟨_, List.getElem?_eq_getElem (by omega)⟩
      obtain ⟨ap, hap⟩ := hOb_
      have hOb_ : ∃ l_, (ls)[i]? = some l_ := ⟨_, List.getElem?_eq_getElem (by have := hel.1; omega)⟩
      obtain ⟨lp, hlp⟩ := hOb_
      refine RL.ev rfl rfl (ev_loadG (m := i) (a := ap) Try.underlying23 rfl (h0.ext hN.ext0) rfl hap) ?_
      have hft := flat_take hlp
      have hfl := flat_le ls (i + 1)
      refine RL.ev rfl rfl ev_assign ?_
      refine RL.nil ?_
      refine thenN ?_
      refine RW.seq ?_
      refine RW.region ?_
      refine RL.ev rfl rfl ev_move ?_
      refine RL.ev rfl rfl ev_move ?_
      have hL_2 := ((hel.2 _ _ _ hap hlp).1.ext hN.ext0).len_le
      refine RL.ev rfl rfl (ev_lenS Try.underlying23 ((hel.2 _ _ _ hap hlp).1.ext hN.ext0) rfl) ?_
      refine RL.ev rfl rfl (ev_arith rfl rfl rfl (add64 (by omega) (by omega))) ?_
      refine RL.ev rfl rfl ev_assign ?_
      refine RL.nil ?_
      refine thenN ?_
      refine RW.seq ?_
      refine RW.region ?_
      refine RL.ev rfl rfl ev_move ?_
      refine RL.ev rfl rfl (ev_lss rfl rfl) ?_
      refine RL.nil ?_
      refine thenN ?_
      refine RW.condPF _ rfl (by omega) ?_
      refine RW.skip ?_
      refine blockN ?_
      refine thenN ?_
      refine RW.region ?_
      refine RL.ev rfl rfl (ev_arith rfl rfl rfl (add64 (by omega) (by omega))) ?_
      refine RL.ev rfl rfl ev_move ?_
      refine RL.nil ?_
      refine thenN ?_
      exact ⟨k - 1, by omega, z + (lp.length : Int), i + 1, rfl, rfl, rfl, rfl, rfl, hN, by omega, by rw [hz, hft]; omega⟩
    · skip
      refine RW.exit ?_
      refine thenX ?_
      refine thenX ?_
      refine blockHit ?_
      refine thenN ?_
      refine RW.seq ?_
      have hi_ : i = hs.length := by omega
      rw [hi_, List.take_of_length_le (by omega)] at hz
      refine RW.region ?_
      refine RL.ev rfl rfl ev_move ?_
      refine RL.op rfl rfl (op_call2 Try.func48 rfl rfl rfl rfl ((grow_calls (z) _ (by omega) (by omega)).mono ?_))
      rintro v3 w3 ⟨ho_, he_⟩
      have hN_ := hN.pushOwn (l := []) ho_ he_
      clear ho_ he_
      clear hN
      have hN : Now w none_ w3 [_] := hN_
      clear hN_
      refine RL.ev rfl rfl ev_assign ?_
      refine RL.nil ?_
      refine thenN ?_
      refine RW.seq ?_
      refine RW.seq ?_
      refine RW.region ?_
      refine RL.ev rfl rfl ev_move ?_
      refine RL.ev rfl rfl (ev_lenS Try.underlying69 (h0.ext hN.ext0) rfl) ?_
      refine RL.ev rfl rfl ev_move ?_
      refine RL.nil ?_
      refine thenN ?_
      refine RW.block ?_
      refine RW.loop (fun k2 R1 w1' => ∃ va : Value, ∃ acc : List UInt8, ∃ j : Nat, R1 6 = va ∧ R1 25 = v ∧ R1 26 = .int .i64 ((hs.length : Int)) ∧ R1 27 = .int .i64 ((j : Int)) ∧ Now w none_ w1' [.own vb 5 (va) (acc)] ∧ (j + k2 = hs.length) ∧ (acc = (ls.take j).flatten)) (hs.length) ?_ ?_
      · skip
        exact ⟨v3, [], 0, rfl, rfl, rfl, rfl, hN, by omega, by simp⟩
      · skip
        clear hN
        rintro k2 R1 w1' ⟨va, acc, j, hr6_, hr25_, hr26_, hr27_, hN, hjk, ha⟩
        have hR_ : ∃ R1_, R1 = (upd (upd (upd (upd R1_ 6 _) 25 _) 26 _) 27 _) := ⟨R1, by rw [upd_self hr6_, upd_self hr25_, upd_self hr26_, upd_self hr27_]⟩
        obtain ⟨R1_, rfl⟩ := hR_
        clear hr6_ hr25_ hr26_ hr27_
        refine RW.seq ?_
        refine RW.region ?_
        refine RL.ev rfl rfl (ev_lss rfl rfl) ?_
        refine RL.nil ?_
        refine thenN ?_
        refine RW.seq ?_
        refine RW.condP _ rfl (fun hlt2 => ?_) (fun hlt2 => ?_)
        · skip
          refine RW.skip ?_
          refine thenN ?_
          refine RW.seq ?_
          refine RW.block ?_
          refine RW.seq ?_
          refine RW.region ?_
          refine RL.ev rfl rfl (ev_index Try.underlying69 sz23 (h0.ext hN.ext0) rfl rfl (by omega) (by omega)) ?_
          have hOb_ : ∃ a_, (hs)[j]? = some a_ := ⟨_, List.getElem?_eq_getElem (by omega)⟩
          obtain ⟨aq, haq⟩ := hOb_
          have hOb_ : ∃ l_, (ls)[j]? = some l_ := ⟨_, List.getElem?_eq_getElem (by have := hel.1; omega)⟩
          obtain ⟨lq, hlq⟩ := hOb_
          refine RL.ev rfl rfl (ev_loadG (m := j) (a := aq) Try.underlying23 rfl (h0.ext hN.ext0) rfl haq) ?_
          have hft2 := flat_take hlq
          have hfl2 := flat_le ls (j + 1)
          have hftl := flat_take_eq hlq
          refine RL.ev rfl rfl ev_assign ?_
          refine RL.nil ?_
          refine thenN ?_
          refine RW.region ?_
          refine RL.ev rfl rfl ev_move ?_
          refine RL.ev rfl rfl ev_move ?_
          refine RL.op rfl rfl (opN_append Try.underlying23 inf5 rfl vb_one hN 0 rfl rfl ((hel.2 _ _ _ haq hlq).1.ext hN.ext0) rfl (by rw [ha]; omega) (by decide) ?_)
          intro v4 w4 hN_
          clear hN
          have hN : Now w none_ w4 [_] := hN_
          clear hN_
          refine RL.ev rfl rfl ev_assign ?_
          refine RL.nil ?_
          refine blockN ?_
          refine thenN ?_
          refine RW.region ?_
          refine RL.ev rfl rfl (ev_arith rfl rfl rfl (add64 (by omega) (by omega))) ?_
          refine RL.ev rfl rfl ev_move ?_
          refine RL.nil ?_
          refine thenN ?_
          exact ⟨k2 - 1, by omega, v4, acc ++ lq, j + 1, rfl, rfl, rfl, rfl, hN, by omega, by rw [ha]; exact hftl.symm⟩
        · skip
          refine RW.exit ?_
          refine thenX ?_
          refine thenX ?_
          refine blockHit ?_
          refine thenN ?_
          refine RW.seq ?_
          refine RW.region ?_
          refine RL.ev rfl rfl ev_move ?_
          refine RL.ev rfl rfl ev_assign ?_
          refine RL.nil ?_
          refine thenN ?_
          refine RW.ret ?_
          refine retI (RV.tmp rfl) ?_
          have hj_ : j = hs.length := by omega
          rw [hj_, List.take_of_length_le (by omega)] at ha
          subst ha
          exact ⟨hN.ownOut 0 rfl, hN.ext0⟩

set_option maxHeartbeats 4000000 in
set_option maxRecDepth 100000 in
/-- slices.Clone[[]byte,byte] -/
theorem clone_calls (v : Value) (l : List UInt8) (w : World) (hv : Sl vb w v l) (hl : l.length ≤ 140737488355328) : Gives Try.prog 44 #[v] w fun r w' => Own vb 5 w' w.heap.size r l ∧ Ext w w' := by
  refine Gives.start Try.func44 rfl (Nat.le_of_ble_eq_true rfl) ?_
  rw [args1]
  have hN := Now.nil w none_
  refine RW.seq ?_
  have hv_ := hv
  obtain ⟨A, c, hv2, h1, h2, hc⟩ := hv_
  subst hv2
  refine RW.region ?_
  refine RL.ev rfl rfl ev_assign ?_
  refine RL.nil ?_
  refine thenN ?_
  refine RW.seq ?_
  refine RW.seq ?_
  rcases A with _ | ad
  · skip
    have hl0 : l = [] := Cells.none_nil hc
    subst hl0
    refine RW.region ?_
    refine RL.ev rfl rfl ev_move ?_
    refine RL.ev rfl rfl (ev_slNil Try.underlying23 rfl rfl) ?_
    refine RL.nil ?_
    refine thenN ?_
    refine RW.condT rfl ?_
    refine RW.seq ?_
    refine RW.region ?_
    refine RL.ev rfl rfl ev_assign ?_
    refine RL.nil ?_
    refine thenN ?_
    refine RW.ret ?_
    refine thenR ?_
    refine retI (RV.tmp rfl) ?_
    exact ⟨Own.nil _ _ _ _, hN.ext0⟩
  · skip
    refine RW.region ?_
    refine RL.ev rfl rfl ev_move ?_
    refine RL.ev rfl rfl (ev_slNil Try.underlying23 rfl rfl) ?_
    refine RL.nil ?_
    refine thenN ?_
    refine RW.condF rfl ?_
    refine RW.skip ?_
    refine thenN ?_
    refine RW.seq ?_
    refine RW.region ?_
    refine RL.op rfl rfl (opN_lit0O vb Try.underlying23 sz5 rfl hN ?_)
    intro v5 w5 hN_
    clear hN
    have hN : Now w none_ w5 [_] := hN_
    clear hN_
    refine RL.ev rfl rfl ev_move ?_
    refine RL.op rfl rfl (opN_append Try.underlying23 inf5 rfl vb_one hN 0 rfl rfl (hv.ext hN.ext0) rfl (by simp only [List.length_nil]; omega) (by decide) ?_)
    intro v1 w1 hN_
    clear hN
    have hN : Now w none_ w1 [_] := hN_
    clear hN_
    replace hN := hN.relist 0 rfl (show _ = l from List.nil_append _)
    replace hN : Now w none_ w1 [_] := hN
    refine RL.ev rfl rfl ev_assign ?_
    refine RL.nil ?_
    refine thenN ?_
    refine RW.ret ?_
    refine retI (RV.tmp rfl) ?_
    exact ⟨hN.ownOut 0 rfl, hN.ext0⟩

end Go.Proofs.Ytlblpiapeieofaa
