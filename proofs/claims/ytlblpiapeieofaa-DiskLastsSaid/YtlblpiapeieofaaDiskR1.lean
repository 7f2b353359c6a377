import Derived.Test.YtlblpiapeieofaaDiskW3
set_option linter.unusedVariables false
set_option linter.unusedSimpArgs false
namespace Go.Proofs.Ytlblpiapeieofaa
open Go.RowKit Go.Rl

open Go.Disk
set_option maxHeartbeats 4000000 in
set_option maxRecDepth 100000 in
/-- postroad/postroadref04.New -/
theorem refNew_calls (room : Int) (w : World) : Gives Try.prog 20 #[.int .i64 (room)] w fun r w' => r = .tuple #[.agg #[.int .i64 room, .slice none 0 0], .bool (decide (0 ≤ room ∧ room ≤ 1099511627776))] ∧ Ext w w' := by
  refine Gives.start Try.func20 rfl (Nat.le_of_ble_eq_true rfl) ?_
  rw [args1]
  have hN := Now.nil w none_
  refine RW.seq ?_
  refine RW.region ?_
  refine RL.op rfl rfl (opN_alloc (cs := [.int .i64 (0), .slice none 0 0]) zero45 rfl hN ?_)
  intro g1 w1 hN_
  clear hN
  have hN : Now w none_ w1 [_] := hN_
  clear hN_
  refine RL.ev rfl rfl ev_assign ?_
  refine RL.nil ?_
  refine thenN ?_
  refine RW.seq ?_
  refine RW.region ?_
  refine RL.ev rfl rfl ev_move ?_
  refine RL.ev rfl rfl (ev_buildL (cs := [.int .i64 (room), .slice none 0 0]) Try.underlying45 zero45 (places := #[(0, 1), (1, 1)]) (by intro w; kernel_rfl) (pl := [(0, .tmp 4)]) rfl (ps := [(0, .int .i64 (room))]) rfl (zc := [.int .i64 (0), .slice none 0 0]) rfl (fill_step (vs := [.int .i64 (room)]) rfl rfl (Nat.le_of_ble_eq_true rfl) rfl)) ?_
  refine RL.ev rfl rfl ev_move ?_
  refine RL.ev rfl rfl (ev_geq rfl rfl) ?_
  refine RL.ev rfl rfl ev_move ?_
  by_cases hg1_4 : 0 ≤ room
  · skip
    rw [decide_eq_true hg1_4]
    refine RL.onEv rfl rfl (by decide) rfl rfl ev_move ?_
    refine RL.onEv rfl rfl (by decide) rfl rfl (ev_leq rfl rfl) ?_
    refine RL.ev rfl rfl (ev_pickT rfl) ?_
    refine RL.op rfl rfl (opN_storeAll (vs := [.int .i64 (room), .slice none 0 0]) sz45 rfl rfl rfl (by intro u hu; simp only [List.mem_cons, List.not_mem_nil, or_false] at hu; rcases hu with rfl | rfl <;> first | rfl) hN 0 rfl rfl ?_)
    intro w2 hN_
    clear hN
    have hN : Now w none_ w2 [_] := hN_
    clear hN_
    refine RL.ev rfl rfl ev_assign ?_
    refine RL.nil ?_
    refine thenN ?_
    refine RW.ret ?_
    refine retI (RV.cellTmp rfl rfl (run_cell (hN.blk 0 rfl) Try.underlying45 rfl sz45)) ?_
    exact ⟨congrArg (fun b => Value.tuple #[.agg #[.int .i64 room, .slice none 0 0], .bool b]) (decide_eq_decide.2 ⟨fun h => ⟨hg1_4, h⟩, fun h => h.2⟩), hN.ext0⟩
  · skip
    rw [decide_eq_false hg1_4]
    refine RL.off rfl rfl (by decide) rfl rfl ?_
    refine RL.off rfl rfl (by decide) rfl rfl ?_
    refine RL.ev rfl rfl (ev_pickF rfl) ?_
    refine RL.op rfl rfl (opN_storeAll (vs := [.int .i64 (room), .slice none 0 0]) sz45 rfl rfl rfl (by intro u hu; simp only [List.mem_cons, List.not_mem_nil, or_false] at hu; rcases hu with rfl | rfl <;> first | rfl) hN 0 rfl rfl ?_)
    intro w3 hN_
    clear hN
    have hN : Now w none_ w3 [_] := hN_
    clear hN_
    refine RL.ev rfl rfl ev_assign ?_
    refine RL.nil ?_
    refine thenN ?_
    refine RW.ret ?_
    refine retI (RV.cellTmp rfl rfl (run_cell (hN.blk 0 rfl) Try.underlying45 rfl sz45)) ?_
    exact ⟨congrArg (fun b => Value.tuple #[.agg #[.int .i64 room, .slice none 0 0], .bool b]) (decide_eq_false fun h => hg1_4 h.1).symm, hN.ext0⟩

set_option maxHeartbeats 4000000 in
set_option maxRecDepth 100000 in
/-- postroad/postroadref04.find -/
theorem refFind_calls (room : Int) (l : List UInt8) (Lv : Value) (hs : List FH) (w : World) (hL : Sm fcells w Lv hs) (res : Option FH) (hres : findH l hs = res) : Gives Try.prog 37 #[.agg #[.int .i64 (room), Lv], (str l)] w fun r w' => r = .tuple #[.agg (fcells (res.getD (l, nilH, nilH))).toArray, .bool res.isSome] ∧ Ext w w' := by
  refine Gives.start Try.func37 rfl (Nat.le_of_ble_eq_true rfl) ?_
  rw [args2]
  have hN := Now.nil w none_
  have hLl := hL.len_le
  refine RW.seq ?_
  refine RW.region ?_
  refine RL.op rfl rfl (opN_box (cs := [.int .i64 (room), Lv]) rfl rfl hN ?_)
  intro g1 w1 hN_
  clear hN
  have hN : Now w none_ w1 [_] := hN_
  clear hN_
  refine RL.op rfl rfl (opN_alloc (cs := [.string ByteArray.empty, .slice none 0 0, .slice none 0 0]) zero78 rfl hN ?_)
  intro g2 w2 hN_
  clear hN
  have hN : Now w none_ w2 [_, _] := hN_
  clear hN_
  refine RL.ev rfl rfl ev_assign ?_
  refine RL.nil ?_
  refine thenN ?_
  refine RW.seq ?_
  refine RW.seq ?_
  refine RW.region ?_
  refine RL.ev rfl rfl ev_assign ?_
  refine RL.nil ?_
  refine thenN ?_
  refine RW.block ?_
  refine RW.loop (fun k R0 w0' => ∃ i : Nat, R0 1 = (str l) ∧ R0 2 = .pointer (some ⟨g1, 0, none⟩) ∧ R0 4 = .pointer (some ⟨g2, 0, none⟩) ∧ R0 6 = .int .i64 ((i : Int)) ∧ Now w none_ w0' [.blk g2 [.string ByteArray.empty, .slice none 0 0, .slice none 0 0] 78, .blk g1 [.int .i64 (room), Lv] 45] ∧ (i + k = hs.length) ∧ (findH l hs = findH l (hs.drop i))) (hs.length) ?_ ?_
  · skip
    exact ⟨0, rfl, rfl, rfl, rfl, hN, by omega, rfl⟩
  · skip
    clear hN
    rintro k R0 w0' ⟨i, hr1_, hr2_, hr4_, hr6_, hN, hik, hf⟩
    have hR_ : ∃ R0_, R0 = (upd (upd (upd (upd R0_ 1 _) 2 _) 4 _) 6 _) := ⟨R0, by rw [upd_self hr1_, upd_self hr2_, upd_self hr4_, upd_self hr6_]⟩
    obtain ⟨R0_, rfl⟩ := hR_
    clear hr1_ hr2_ hr4_ hr6_
    refine RW.seq ?_
    refine RW.seq ?_
    refine RW.region ?_
    refine RL.ev rfl rfl ev_move ?_
    refine RL.ev rfl rfl (ev_fieldAddr Try.underlying45 rfl sz43 (by decide) rfl) ?_
    refine RL.ev rfl rfl (ev_loadB Try.underlying43 rfl rfl (hN.blk 1 rfl) rfl) ?_
    have hL_3 := (hL.ext hN.ext0).len_le
    refine RL.ev rfl rfl (ev_lenM Try.underlying43 (hL.ext hN.ext0) rfl) ?_
    refine RL.ev rfl rfl (ev_lss rfl rfl) ?_
    refine RL.nil ?_
    refine thenN ?_
    refine RW.condP _ rfl (fun hlt => ?_) (fun hlt => ?_)
    · skip
      refine RW.skip ?_
      refine thenN ?_
      refine RW.seq ?_
      refine RW.block ?_
      refine RW.seq ?_
      refine RW.region ?_
      refine RL.ev rfl rfl (ev_fieldAddr Try.underlying45 rfl sz43 (by decide) rfl) ?_
      refine RL.ev rfl rfl (ev_loadB Try.underlying43 rfl rfl (hN.blk 1 rfl) rfl) ?_
      refine RL.ev rfl rfl ev_move ?_
      refine RL.ev rfl rfl (ev_indexM Try.underlying43 sz78 fcells_len (by decide) (hL.ext hN.ext0) rfl rfl (by omega) (by omega)) ?_
      have hOb_ : ∃ a_, (hs)[i]? = some a_ := ⟨_, List.getElem?_eq_getElem (by omega)⟩
      obtain ⟨ap, hap⟩ := hOb_
      refine RL.ev rfl rfl (ev_fieldM (m := i) (b := 0) Try.underlying78 rfl sz9 (by decide) fcells_len (hL.ext hN.ext0) hap rfl rfl) ?_
      refine RL.ev rfl rfl (ev_loadMF (m := i) (j := 0) (a := ap) Try.underlying9 rfl fcells_len (hL.ext hN.ext0) rfl hap rfl) ?_
      have hfd := findH_drop (l := l) hap
      refine RL.ev rfl rfl ev_move ?_
      refine RL.ev rfl rfl (ev_strEq rfl rfl) ?_
      refine RL.nil ?_
      refine thenN ?_
      refine RW.condP _ rfl (fun heq => ?_) (fun heq => ?_)
      · skip
        refine RW.seq ?_
        refine RW.region ?_
        refine RL.ev rfl rfl (ev_fieldAddr Try.underlying45 rfl sz43 (by decide) rfl) ?_
        refine RL.ev rfl rfl (ev_loadB Try.underlying43 rfl rfl (hN.blk 1 rfl) rfl) ?_
        refine RL.ev rfl rfl ev_move ?_
        refine RL.ev rfl rfl (ev_indexM Try.underlying43 sz78 fcells_len (by decide) (hL.ext hN.ext0) rfl rfl (by omega) (by omega)) ?_
        refine RL.ev rfl rfl (ev_loadM (m := i) (a := ap) Try.underlying78 rfl sz78 fcells_len (by decide) (hL.ext hN.ext0) rfl hap (cs := [(str ap.1), (vh ap.2.1), (vh ap.2.2)]) rfl) ?_
        refine RL.op rfl rfl (opN_storeAll (vs := [(str ap.1), (vh ap.2.1), (vh ap.2.2)]) sz78 rfl rfl rfl (by intro u hu; simp only [List.mem_cons, List.not_mem_nil, or_false] at hu; rcases hu with rfl | rfl | rfl <;> first | rfl) hN 0 rfl rfl ?_)
        intro w4 hN_
        clear hN
        have hN : Now w none_ w4 [_, _] := hN_
        clear hN_
        refine RL.ev rfl rfl ev_assign ?_
        refine RL.nil ?_
        refine thenN ?_
        refine RW.ret ?_
        refine blockR ?_
        refine thenR ?_
        refine thenR ?_
        refine blockR ?_
        refine thenR ?_
        refine retI (RV.cellTmp rfl rfl (run_cell (hN.blk 0 rfl) Try.underlying78 rfl sz78)) ?_
        have hr_ : res = some ap := by rw [← hres, hf, hfd, if_pos heq]
        subst hr_
        exact ⟨rfl, hN.ext0⟩
      · skip
        refine RW.skip ?_
        refine blockN ?_
        refine thenN ?_
        refine RW.region ?_
        refine RL.ev rfl rfl ev_move ?_
        refine RL.ev rfl rfl (ev_arith rfl rfl rfl (add64 (by omega) (by omega))) ?_
        refine RL.ev rfl rfl ev_assign ?_
        refine RL.nil ?_
        refine thenN ?_
        exact ⟨k - 1, by omega, i + 1, rfl, rfl, rfl, rfl, hN, by omega, by rw [hf, hfd, if_neg heq]⟩
    · skip
      refine RW.exit ?_
      refine thenX ?_
      refine thenX ?_
      refine blockHit ?_
      refine thenN ?_
      refine RW.seq ?_
      refine RW.region ?_
      refine RL.ev rfl rfl ev_move ?_
      refine RL.ev rfl rfl (ev_buildL (cs := [(str l), .slice none 0 0, .slice none 0 0]) Try.underlying78 zero78 (places := #[(0, 1), (1, 1), (2, 1)]) (by intro w; kernel_rfl) (pl := [(0, .tmp 27)]) rfl (ps := [(0, (str l))]) rfl (zc := [.string ByteArray.empty, .slice none 0 0, .slice none 0 0]) rfl (fill_step (vs := [(str l)]) rfl rfl (Nat.le_of_ble_eq_true rfl) rfl)) ?_
      refine RL.op rfl rfl (opN_storeAll (vs := [(str l), .slice none 0 0, .slice none 0 0]) sz78 rfl rfl rfl (by intro u hu; simp only [List.mem_cons, List.not_mem_nil, or_false] at hu; rcases hu with rfl | rfl | rfl <;> first | rfl) hN 0 rfl rfl ?_)
      intro w5 hN_
      clear hN
      have hN : Now w none_ w5 [_, _] := hN_
      clear hN_
      refine RL.ev rfl rfl ev_assign ?_
      refine RL.nil ?_
      refine thenN ?_
      refine RW.ret ?_
      refine retI (RV.cellTmp rfl rfl (run_cell (hN.blk 0 rfl) Try.underlying78 rfl sz78)) ?_
      have hr_ : res = none := by rw [← hres, hf, show i = hs.length by omega, List.drop_length]; rfl
      subst hr_
      exact ⟨rfl, hN.ext0⟩

set_option maxHeartbeats 4000000 in
set_option maxRecDepth 100000 in
/-- postroad/postroadref04.without -/
theorem refWithout_calls (room : Int) (l : List UInt8) (Lv : Value) (hs : List FH) (w : World) (hL : Sm fcells w Lv hs) (hl : hs.length ≤ 2097152) : Gives Try.prog 41 #[.agg #[.int .i64 (room), Lv], (str l)] w fun r w' => ∃ Lv', r = .agg #[.int .i64 room, Lv'] ∧ OwnM fcells 3 78 w' w.heap.size Lv' (withoutH l hs) ∧ Ext w w' := by
  refine Gives.start Try.func41 rfl (Nat.le_of_ble_eq_true rfl) ?_
  rw [args2]
  have hN := Now.nil w none_
  refine RW.seq ?_
  refine RW.region ?_
  refine RL.op rfl rfl (opN_box (cs := [.int .i64 (room), Lv]) rfl rfl hN ?_)
  intro g1 w1 hN_
  clear hN
  have hN : Now w none_ w1 [_] := hN_
  clear hN_
  refine RL.op rfl rfl (opN_alloc (cs := [.int .i64 (0), .slice none 0 0]) zero45 rfl hN ?_)
  intro g2 w2 hN_
  clear hN
  have hN : Now w none_ w2 [_, _] := hN_
  clear hN_
  refine RL.nil ?_
  refine thenN ?_
  refine RW.seq ?_
  refine RW.region ?_
  refine RL.ev rfl rfl (ev_fieldAddr Try.underlying45 rfl sz3 (by decide) rfl) ?_
  refine RL.ev rfl rfl (ev_loadB Try.underlying3 rfl rfl (hN.blk 1 rfl) rfl) ?_
  refine RL.ev rfl rfl (ev_buildL (cs := [.int .i64 (room), .slice none 0 0]) Try.underlying45 zero45 (places := #[(0, 1), (1, 1)]) (by intro w; kernel_rfl) (pl := [(0, .tmp 8)]) rfl (ps := [(0, .int .i64 (room))]) rfl (zc := [.int .i64 (0), .slice none 0 0]) rfl (fill_step (vs := [.int .i64 (room)]) rfl rfl (Nat.le_of_ble_eq_true rfl) rfl)) ?_
  refine RL.op rfl rfl (opN_alloc (cs := [.int .i64 (0), .slice none 0 0]) zero45 rfl hN ?_)
  intro g3 w3 hN_
  clear hN
  have hN : Now w none_ w3 [_, _, _] := hN_
  clear hN_
  refine RL.op rfl rfl (opN_storeAll (vs := [.int .i64 (room), .slice none 0 0]) sz45 rfl rfl rfl (by intro u hu; simp only [List.mem_cons, List.not_mem_nil, or_false] at hu; rcases hu with rfl | rfl <;> first | rfl) hN 0 rfl rfl ?_)
  intro w4 hN_
  clear hN
  have hN : Now w none_ w4 [_, _, _] := hN_
  clear hN_
  refine RL.nil ?_
  refine thenN ?_
  refine RW.seq ?_
  refine RW.seq ?_
  replace hN := hN.addNilM fcells 3 78
  replace hN : Now w none_ w4 [.ownm fcells 3 78 (.slice none 0 0) ([]), .blk g3 [.int .i64 (room), .slice none 0 0] 45, .blk g2 [.int .i64 (0), .slice none 0 0] 45, .blk g1 [.int .i64 (room), Lv] 45] := hN
  refine RW.region ?_
  refine RL.ev rfl rfl ev_assign ?_
  refine RL.nil ?_
  refine thenN ?_
  refine RW.block ?_
  refine RW.loop (fun k R0 w0' => ∃ va : Value, ∃ acc : List FH, ∃ i : Nat, R0 1 = (str l) ∧ R0 2 = .pointer (some ⟨g1, 0, none⟩) ∧ R0 4 = .pointer (some ⟨g2, 0, none⟩) ∧ R0 5 = .pointer (some ⟨g3, 0, none⟩) ∧ R0 6 = .int .i64 ((i : Int)) ∧ Now w none_ w0' [.ownm fcells 3 78 (va) (acc), .blk g3 [.int .i64 (room), va] 45, .blk g2 [.int .i64 (0), .slice none 0 0] 45, .blk g1 [.int .i64 (room), Lv] 45] ∧ (i + k = hs.length) ∧ (acc = withoutH l (hs.take i)) ∧ (acc.length ≤ i)) (hs.length) ?_ ?_
  · skip
    exact ⟨.slice none 0 0, [], 0, rfl, rfl, rfl, rfl, rfl, hN, by omega, rfl, Nat.le_refl _⟩
  · skip
    clear hN
    rintro k R0 w0' ⟨va, acc, i, hr1_, hr2_, hr4_, hr5_, hr6_, hN, hik, ha, hal⟩
    have hR_ : ∃ R0_, R0 = (upd (upd (upd (upd (upd R0_ 1 _) 2 _) 4 _) 5 _) 6 _) := ⟨R0, by rw [upd_self hr1_, upd_self hr2_, upd_self hr4_, upd_self hr5_, upd_self hr6_]⟩
    obtain ⟨R0_, rfl⟩ := hR_
    clear hr1_ hr2_ hr4_ hr5_ hr6_
    refine RW.seq ?_
    refine RW.seq ?_
    refine RW.region ?_
    refine RL.ev rfl rfl ev_move ?_
    refine RL.ev rfl rfl (ev_fieldAddr Try.underlying45 rfl sz43 (by decide) rfl) ?_
    refine RL.ev rfl rfl (ev_loadB Try.underlying43 rfl rfl (hN.blk 3 rfl) rfl) ?_
    have hL_5 := (hL.ext hN.ext0).len_le
    refine RL.ev rfl rfl (ev_lenM Try.underlying43 (hL.ext hN.ext0) rfl) ?_
    refine RL.ev rfl rfl (ev_lss rfl rfl) ?_
    refine RL.nil ?_
    refine thenN ?_
    refine RW.condP _ rfl (fun hlt => ?_) (fun hlt => ?_)
    · skip
      refine RW.skip ?_
      refine thenN ?_
      refine RW.seq ?_
      refine RW.block ?_
      refine RW.seq ?_
      refine RW.region ?_
      refine RL.ev rfl rfl (ev_fieldAddr Try.underlying45 rfl sz43 (by decide) rfl) ?_
      refine RL.ev rfl rfl (ev_loadB Try.underlying43 rfl rfl (hN.blk 3 rfl) rfl) ?_
      refine RL.ev rfl rfl ev_move ?_
      refine RL.ev rfl rfl (ev_indexM Try.underlying43 sz78 fcells_len (by decide) (hL.ext hN.ext0) rfl rfl (by omega) (by omega)) ?_
      have hOb_ : ∃ a_, (hs)[i]? = some a_ := ⟨_, List.getElem?_eq_getElem (by omega)⟩
      obtain ⟨ap, hap⟩ := hOb_
      refine RL.ev rfl rfl (ev_fieldM (m := i) (b := 0) Try.underlying78 rfl sz9 (by decide) fcells_len (hL.ext hN.ext0) hap rfl rfl) ?_
      refine RL.ev rfl rfl (ev_loadMF (m := i) (j := 0) (a := ap) Try.underlying9 rfl fcells_len (hL.ext hN.ext0) rfl hap rfl) ?_
      have hwt := withoutH_take (l := l) hap
      refine RL.ev rfl rfl ev_move ?_
      refine RL.ev rfl rfl (ev_strNe rfl rfl) ?_
      refine RL.nil ?_
      refine thenN ?_
      refine RW.condP _ rfl (fun hne => ?_) (fun hne => ?_)
      · skip
        refine RW.drawE rfl (fun u => Now w none_ u [.blk g3 [.int .i64 (room), va] 45, .blk g2 [.int .i64 (0), .slice none 0 0] 45, .blk g1 [.int .i64 (room), Lv] 45]) 10 ?_
        replace hN := hN.ext (Ext.drew w0')
        refine RE.take (i := 0) rfl (by decide) (by kernel_rfl) rfl (by kernel_rfl) (by kernel_rfl) (by kernel_rfl) (by intro _ _ _ h; exact h) rfl (hN.sub [1, 2, 3] (by decide) rfl) (fun w hS => (ev_fieldAddr Try.underlying45 rfl sz43 (by decide) rfl)) ?_
        refine RE.take (i := 1) rfl (by decide) (by kernel_rfl) rfl (by kernel_rfl) (by kernel_rfl) (by kernel_rfl) (by intro _ _ _ h; exact h) rfl (hN.sub [1, 2, 3] (by decide) rfl) (fun w hS => (ev_loadB Try.underlying43 rfl rfl (hS.blk 0 rfl) rfl)) ?_
        refine RE.take (i := 2) rfl (by decide) (by kernel_rfl) rfl (by kernel_rfl) (by kernel_rfl) (by kernel_rfl) (by intro _ _ _ h; exact h) rfl (hN.sub [1, 2, 3] (by decide) rfl) (fun w hS => (ev_fieldAddr Try.underlying45 rfl sz43 (by decide) rfl)) ?_
        refine RE.take (i := 3) rfl (by decide) (by kernel_rfl) rfl (by kernel_rfl) (by kernel_rfl) (by kernel_rfl) (by intro _ _ _ h; exact h) rfl (hN.sub [1, 2, 3] (by decide) rfl) (fun w hS => (ev_loadB Try.underlying43 rfl rfl (hS.blk 2 rfl) rfl)) ?_
        refine RE.take (i := 4) rfl (by decide) (by kernel_rfl) rfl (by kernel_rfl) (by kernel_rfl) (by kernel_rfl) (by intro _ _ _ h; exact h) rfl (hN.sub [1, 2, 3] (by decide) rfl) (fun w hS => ev_move) ?_
        refine RE.take (i := 5) rfl (by decide) (by kernel_rfl) rfl (by kernel_rfl) (by kernel_rfl) (by kernel_rfl) (by intro _ _ _ h; exact h) rfl (hN.sub [1, 2, 3] (by decide) rfl) (fun w hS => (ev_indexM Try.underlying43 sz78 fcells_len (by decide) (hL.ext hS.ext0) rfl rfl (by omega) (by omega))) ?_
        refine RE.take (i := 6) rfl (by decide) (by kernel_rfl) rfl (by kernel_rfl) (by kernel_rfl) (by kernel_rfl) (by intro _ _ _ h; exact h) rfl (hN.sub [1, 2, 3] (by decide) rfl) (fun w hS => (ev_loadM (m := i) (a := ap) Try.underlying78 rfl sz78 fcells_len (by decide) (hL.ext hS.ext0) rfl hap (cs := [(str ap.1), (vh ap.2.1), (vh ap.2.2)]) rfl)) ?_
        refine RE.only (i := 7) (by kernel_rfl) rfl rfl rfl (opN_litM (cf := fcells) (s := 3) (pl := [(0, .tmp 31)]) (ps := [(0, .agg #[(str ap.1), (vh ap.2.1), (vh ap.2.2)])]) (zc := [.string ByteArray.empty, .slice none 0 0, .slice none 0 0]) (l := [(ap.1, ap.2.1, ap.2.2)]) Try.underlying43 inf78 (by kernel_rfl) rfl rfl (fill_step (vs := [(str ap.1), (vh ap.2.1), (vh ap.2.2)]) rfl rfl (Nat.le_of_ble_eq_true rfl) rfl) fcells_len rfl (by decide) (by decide) (by decide) hN ?_)
        intro g6 w6 hN_
        clear hN
        have hN : Now w none_ w6 [_, _, _, _, _] := hN_
        clear hN_
        refine ⟨(hN.sub [2, 3, 4] (by decide) rfl), ?_⟩
        refine RE.only (i := 8) (by kernel_rfl) rfl rfl rfl (opN_appendM Try.underlying43 inf78 rfl (by decide) fcells_one fcells_len hN 1 rfl rfl (hN.sm 0 rfl) rfl (by simp only [List.length_append, List.length_singleton, List.length_cons, List.length_nil]; omega) (by decide) ?_)
        intro v7 w7 hN_
        clear hN
        have hN : Now w none_ w7 [_, _, _, _, _] := hN_
        clear hN_
        refine ⟨(hN.sub [2, 3, 4] (by decide) rfl), ?_⟩
        refine RE.take (i := 9) rfl (by decide) (by kernel_rfl) rfl (by kernel_rfl) (by kernel_rfl) (by kernel_rfl) (by intro _ _ _ h; exact h) rfl (hN.sub [2, 3, 4] (by decide) rfl) (fun w hS => (ev_fieldAddr Try.underlying45 rfl sz43 (by decide) rfl)) ?_
        refine RE.last (by kernel_rfl) rfl rfl rfl (opN_store sz43 rfl rfl (hN.sm 1 rfl).cells1 (hN.sm 1 rfl).one1 hN 2 rfl (Nat.le_of_ble_eq_true rfl) ?_)
        intro w8 hN_
        clear hN
        have hN : Now w none_ w8 [_, _, _, _, _] := hN_
        clear hN_
        refine RE.done (by kernel_rfl) ?_
        refine blockN ?_
        refine thenN ?_
        refine RW.region ?_
        refine RL.ev rfl rfl ev_move ?_
        refine RL.ev rfl rfl (ev_arith rfl rfl rfl (add64 (by omega) (by omega))) ?_
        refine RL.ev rfl rfl ev_assign ?_
        refine RL.nil ?_
        refine thenN ?_
        exact ⟨k - 1, by omega, v7, acc ++ [(ap.1, ap.2.1, ap.2.2)], i + 1, rfl, rfl, rfl, rfl, rfl, (hN.sub [1, 2, 3, 4] (by decide) rfl), by omega, by rw [hwt, if_pos hne, ha], by (try simp only [List.length_append, List.length_singleton]); omega⟩
      · skip
        refine RW.skip ?_
        refine blockN ?_
        refine thenN ?_
        refine RW.region ?_
        refine RL.ev rfl rfl ev_move ?_
        refine RL.ev rfl rfl (ev_arith rfl rfl rfl (add64 (by omega) (by omega))) ?_
        refine RL.ev rfl rfl ev_assign ?_
        refine RL.nil ?_
        refine thenN ?_
        exact ⟨k - 1, by omega, va, acc, i + 1, rfl, rfl, rfl, rfl, rfl, hN, by omega, by rw [hwt, if_neg hne]; exact ha, by (try simp only [List.length_append, List.length_singleton]); omega⟩
    · skip
      refine RW.exit ?_
      refine thenX ?_
      refine thenX ?_
      refine blockHit ?_
      refine thenN ?_
      refine RW.seq ?_
      refine RW.region ?_
      refine RL.ev rfl rfl (ev_loadAll (cs := [.int .i64 (room), va]) Try.underlying45 rfl sz45 rfl (hN.blk 1 rfl)) ?_
      refine RL.op rfl rfl (opN_storeAll (vs := [.int .i64 (room), va]) sz45 rfl rfl rfl (by intro u hu; simp only [List.mem_cons, List.not_mem_nil, or_false] at hu; rcases hu with rfl | rfl <;> first | rfl | exact (hN.sm 0 rfl).one1) hN 2 rfl rfl ?_)
      intro w9 hN_
      clear hN
      have hN : Now w none_ w9 [_, _, _, _] := hN_
      clear hN_
      refine RL.nil ?_
      refine thenN ?_
      refine RW.ret ?_
      refine retI (RV.cell rfl rfl (hN.blk 2 rfl) Try.underlying45 rfl sz45) ?_
      have hi_ : i = hs.length := by omega
      rw [hi_, List.take_length] at ha
      subst ha
      exact ⟨va, rfl, hN.ownmOut 0 rfl, hN.ext0⟩

set_option maxHeartbeats 4000000 in
set_option maxRecDepth 100000 in
/-- postroad/postroadref04.with -/
theorem refWith_calls (room : Int) (h : FH) (Lv : Value) (hs : List FH) (w : World) (hL : Sm fcells w Lv hs) (hl : hs.length ≤ 2097152) : Gives Try.prog 39 #[.agg #[.int .i64 room, Lv], .agg (fcells h).toArray] w fun r w' => ∃ Lv', r = .agg #[.int .i64 room, Lv'] ∧ OwnM fcells 3 78 w' w.heap.size Lv' (putH h (withoutH h.1 hs)) ∧ Ext w w' := by
  refine Gives.start Try.func39 rfl (Nat.le_of_ble_eq_true rfl) ?_
  rw [args2]
  have hN := Now.nil w none_
  refine RW.seq ?_
  refine RW.region ?_
  refine RL.op rfl rfl (opN_box (cs := [.int .i64 (room), Lv]) rfl rfl hN ?_)
  intro g1 w1 hN_
  clear hN
  have hN : Now w none_ w1 [_] := hN_
  clear hN_
  refine RL.op rfl rfl (opN_box (cs := [(str h.1), (vh h.2.1), (vh h.2.2)]) rfl rfl hN ?_)
  intro g2 w2 hN_
  clear hN
  have hN : Now w none_ w2 [_, _] := hN_
  clear hN_
  refine RL.op rfl rfl (opN_alloc (cs := [.int .i64 (0), .slice none 0 0]) zero45 rfl hN ?_)
  intro g3 w3 hN_
  clear hN
  have hN : Now w none_ w3 [_, _, _] := hN_
  clear hN_
  refine RL.nil ?_
  refine thenN ?_
  refine RW.seq ?_
  refine RW.region ?_
  refine RL.ev rfl rfl (ev_loadAll (cs := [.int .i64 (room), Lv]) Try.underlying45 rfl sz45 rfl (hN.blk 2 rfl)) ?_
  refine RL.ev rfl rfl (ev_fieldAddr Try.underlying78 rfl sz9 (by decide) rfl) ?_
  refine RL.ev rfl rfl (ev_loadB Try.underlying9 rfl rfl (hN.blk 1 rfl) rfl) ?_
  refine RL.op rfl rfl (op_call2 Try.func41 rfl rfl rfl rfl ((refWithout_calls (room) h.1 _ hs _ (hL.ext hN.ext0) (by omega)).mono ?_))
  rintro _ w4 ⟨v4, rfl, ho_, he_⟩
  have hN_ := hN.pushOwnM ho_ he_
  clear ho_ he_
  clear hN
  have hN : Now w none_ w4 [_, _, _, _] := hN_
  clear hN_
  generalize hwe : (withoutH h.1 hs) = we at hN
  have hwl : we.length ≤ hs.length := by rw [← hwe]; exact List.length_filter_le _ _
  refine RL.op rfl rfl (opN_alloc (cs := [.int .i64 (0), .slice none 0 0]) zero45 rfl hN ?_)
  intro g5 w5 hN_
  clear hN
  have hN : Now w none_ w5 [_, _, _, _, _] := hN_
  clear hN_
  refine RL.op rfl rfl (opN_storeAll (vs := [.int .i64 (room), v4]) sz45 rfl rfl rfl (by intro u hu; simp only [List.mem_cons, List.not_mem_nil, or_false] at hu; rcases hu with rfl | rfl <;> first | rfl | exact (hN.sm 1 rfl).one1) hN 0 rfl rfl ?_)
  intro w6 hN_
  clear hN
  have hN : Now w none_ w6 [_, _, _, _, _] := hN_
  clear hN_
  refine RL.nil ?_
  refine thenN ?_
  refine RW.seq ?_
  refine RW.region ?_
  refine RL.ev rfl rfl (ev_fieldAddr Try.underlying45 rfl sz3 (by decide) rfl) ?_
  refine RL.ev rfl rfl (ev_loadB Try.underlying3 rfl rfl (hN.blk 4 rfl) rfl) ?_
  refine RL.ev rfl rfl (ev_buildL (cs := [.int .i64 (room), .slice none 0 0]) Try.underlying45 zero45 (places := #[(0, 1), (1, 1)]) (by intro w; kernel_rfl) (pl := [(0, .tmp 14)]) rfl (ps := [(0, .int .i64 (room))]) rfl (zc := [.int .i64 (0), .slice none 0 0]) rfl (fill_step (vs := [.int .i64 (room)]) rfl rfl (Nat.le_of_ble_eq_true rfl) rfl)) ?_
  refine RL.op rfl rfl (opN_alloc (cs := [.int .i64 (0), .slice none 0 0]) zero45 rfl hN ?_)
  intro g7 w7 hN_
  clear hN
  have hN : Now w none_ w7 [_, _, _, _, _, _] := hN_
  clear hN_
  refine RL.op rfl rfl (opN_storeAll (vs := [.int .i64 (room), .slice none 0 0]) sz45 rfl rfl rfl (by intro u hu; simp only [List.mem_cons, List.not_mem_nil, or_false] at hu; rcases hu with rfl | rfl <;> first | rfl) hN 0 rfl rfl ?_)
  intro w8 hN_
  clear hN
  have hN : Now w none_ w8 [_, _, _, _, _, _] := hN_
  clear hN_
  refine RL.nil ?_
  refine thenN ?_
  refine RW.seq ?_
  refine RW.region ?_
  refine RL.ev rfl rfl ev_assign ?_
  refine RL.nil ?_
  refine thenN ?_
  refine RW.seq ?_
  refine RW.seq ?_
  replace hN := hN.addNilM fcells 3 78
  replace hN : Now w none_ w8 [.ownm fcells 3 78 (.slice none 0 0) ([]), .blk g7 [.int .i64 (room), .slice none 0 0] 45, .blk g5 [.int .i64 (room), v4] 45, .ownm fcells 3 78 (v4) (we), .blk g3 [.int .i64 (0), .slice none 0 0] 45, .blk g2 [(str h.1), (vh h.2.1), (vh h.2.2)] 78, .blk g1 [.int .i64 (room), Lv] 45] := hN
  refine RW.region ?_
  refine RL.ev rfl rfl ev_assign ?_
  refine RL.nil ?_
  refine thenN ?_
  refine RW.block ?_
  refine RW.loop (fun k R0 w0' => ∃ laid : Bool, ∃ va : Value, ∃ acc : List FH, ∃ i : Nat, R0 3 = .pointer (some ⟨g2, 0, none⟩) ∧ R0 4 = .pointer (some ⟨g3, 0, none⟩) ∧ R0 5 = .pointer (some ⟨g5, 0, none⟩) ∧ R0 6 = .pointer (some ⟨g7, 0, none⟩) ∧ R0 7 = .bool laid ∧ R0 8 = .int .i64 ((i : Int)) ∧ Now w none_ w0' [.ownm fcells 3 78 (va) (acc), .blk g7 [.int .i64 (room), va] 45, .blk g5 [.int .i64 (room), v4] 45, .ownm fcells 3 78 (v4) (we), .blk g3 [.int .i64 (0), .slice none 0 0] 45, .blk g2 [(str h.1), (vh h.2.1), (vh h.2.2)] 78, .blk g1 [.int .i64 (room), Lv] 45] ∧ (i + k = we.length) ∧ ((laid = true ∧ acc ++ we.drop i = putH h we) ∨ (laid = false ∧ acc = we.take i ∧ putH h we = we.take i ++ putH h (we.drop i))) ∧ (acc.length ≤ i + 1)) (we.length) ?_ ?_
  · skip
    exact ⟨false, .slice none 0 0, [], 0, rfl, rfl, rfl, rfl, rfl, rfl, hN, by omega, .inr ⟨rfl, rfl, rfl⟩, Nat.zero_le _⟩
  · skip
    clear hN
    rintro k R0 w0' ⟨laid, va, acc, i, hr3_, hr4_, hr5_, hr6_, hr7_, hr8_, hN, hik, hinv, hal⟩
    have hR_ : ∃ R0_, R0 = (upd (upd (upd (upd (upd (upd R0_ 3 _) 4 _) 5 _) 6 _) 7 _) 8 _) := ⟨R0, by rw [upd_self hr3_, upd_self hr4_, upd_self hr5_, upd_self hr6_, upd_self hr7_, upd_self hr8_]⟩
    obtain ⟨R0_, rfl⟩ := hR_
    clear hr3_ hr4_ hr5_ hr6_ hr7_ hr8_
    refine RW.seq ?_
    refine RW.seq ?_
    refine RW.region ?_
    refine RL.ev rfl rfl ev_move ?_
    refine RL.ev rfl rfl (ev_fieldAddr Try.underlying45 rfl sz43 (by decide) rfl) ?_
    refine RL.ev rfl rfl (ev_loadB Try.underlying43 rfl rfl (hN.blk 2 rfl) rfl) ?_
    have hL_9 := (hN.sm 3 rfl).len_le
    refine RL.ev rfl rfl (ev_lenM Try.underlying43 (hN.sm 3 rfl) rfl) ?_
    refine RL.ev rfl rfl (ev_lss rfl rfl) ?_
    refine RL.nil ?_
    refine thenN ?_
    refine RW.condP _ rfl (fun hlt => ?_) (fun hlt => ?_)
    · skip
      refine RW.skip ?_
      refine thenN ?_
      refine RW.seq ?_
      refine RW.block ?_
      refine RW.seq ?_
      refine RW.seq ?_
      rcases hinv with ⟨hl1, hA⟩ | ⟨hl1, hA, hB⟩ <;> subst hl1
      · skip
        refine RW.draw rfl (fun u => Now w none_ u [.ownm fcells 3 78 (va) (acc), .blk g7 [.int .i64 (room), va] 45, .blk g5 [.int .i64 (room), v4] 45, .ownm fcells 3 78 (v4) (we), .blk g3 [.int .i64 (0), .slice none 0 0] 45, .blk g2 [(str h.1), (vh h.2.1), (vh h.2.2)] 78, .blk g1 [.int .i64 (room), Lv] 45]) ?_
        replace hN := hN.ext (Ext.drew w0')
        refine RA.take (i := 0) rfl rfl (by kernel_rfl) (by kernel_rfl) (by kernel_rfl) (by intro _ _ _ h; exact h) rfl hN (fun w hS => ev_move) ?_
        refine RA.take (i := 1) rfl rfl (by kernel_rfl) (by kernel_rfl) (by kernel_rfl) (by intro _ _ _ h; exact h) rfl hN (fun w hS => (ev_not rfl)) ?_
        refine RA.take (i := 2) rfl rfl (by kernel_rfl) (by kernel_rfl) (by kernel_rfl) (by intro _ _ _ h; exact h) rfl hN (fun w hS => ev_move) ?_
        refine RA.takeOff (i := 3) rfl rfl rfl (by decide) rfl (by kernel_rfl) (by kernel_rfl) (by kernel_rfl) (by intro _ _ _ h; exact h) rfl hN ?_
        refine RA.takeOff (i := 4) rfl rfl rfl (by decide) rfl (by kernel_rfl) (by kernel_rfl) (by kernel_rfl) (by intro _ _ _ h; exact h) rfl hN ?_
        refine RA.takeOff (i := 5) rfl rfl rfl (by decide) rfl (by kernel_rfl) (by kernel_rfl) (by kernel_rfl) (by intro _ _ _ h; exact h) rfl hN ?_
        refine RA.takeOff (i := 6) rfl rfl rfl (by decide) rfl (by kernel_rfl) (by kernel_rfl) (by kernel_rfl) (by intro _ _ _ h; exact h) rfl hN ?_
        refine RA.takeOff (i := 7) rfl rfl rfl (by decide) rfl (by kernel_rfl) (by kernel_rfl) (by kernel_rfl) (by intro _ _ _ h; exact h) rfl hN ?_
        refine RA.takeOff (i := 8) rfl rfl rfl (by decide) rfl (by kernel_rfl) (by kernel_rfl) (by kernel_rfl) (by intro _ _ _ h; exact h) rfl hN ?_
        refine RA.takeOff (i := 9) rfl rfl rfl (by decide) rfl (by kernel_rfl) (by kernel_rfl) (by kernel_rfl) (by intro _ _ _ h; exact h) rfl hN ?_
        refine RA.takeOff (i := 10) rfl rfl rfl (by decide) rfl (by kernel_rfl) (by kernel_rfl) (by kernel_rfl) (by intro _ _ _ h; exact h) rfl hN ?_
        refine RA.takeOff (i := 11) rfl rfl rfl (by decide) rfl (by kernel_rfl) (by kernel_rfl) (by kernel_rfl) (by intro _ _ _ h; exact h) rfl hN ?_
        refine RA.take (i := 12) rfl rfl (by kernel_rfl) (by kernel_rfl) (by kernel_rfl) (by intro _ _ _ h; exact h) rfl hN (fun w hS => (ev_pickF rfl)) ?_
        refine RA.done (by kernel_rfl) ?_
        refine thenN ?_
        refine RW.condF rfl ?_
        refine RW.skip ?_
        refine thenN ?_
        refine RW.drawE rfl (fun u => Now w none_ u [.blk g7 [.int .i64 (room), va] 45, .blk g5 [.int .i64 (room), v4] 45, .ownm fcells 3 78 (v4) (we), .blk g3 [.int .i64 (0), .slice none 0 0] 45, .blk g2 [(str h.1), (vh h.2.1), (vh h.2.2)] 78, .blk g1 [.int .i64 (room), Lv] 45]) 10 ?_
        replace hN := hN.ext (Ext.drew w0'.drew)
        refine RE.take (i := 0) rfl (by decide) (by kernel_rfl) rfl (by kernel_rfl) (by kernel_rfl) (by kernel_rfl) (by intro _ _ _ h; exact h) rfl (hN.sub [1, 2, 3, 4, 5, 6] (by decide) rfl) (fun w hS => (ev_fieldAddr Try.underlying45 rfl sz43 (by decide) rfl)) ?_
        refine RE.take (i := 1) rfl (by decide) (by kernel_rfl) rfl (by kernel_rfl) (by kernel_rfl) (by kernel_rfl) (by intro _ _ _ h; exact h) rfl (hN.sub [1, 2, 3, 4, 5, 6] (by decide) rfl) (fun w hS => (ev_loadB Try.underlying43 rfl rfl (hS.blk 0 rfl) rfl)) ?_
        refine RE.take (i := 2) rfl (by decide) (by kernel_rfl) rfl (by kernel_rfl) (by kernel_rfl) (by kernel_rfl) (by intro _ _ _ h; exact h) rfl (hN.sub [1, 2, 3, 4, 5, 6] (by decide) rfl) (fun w hS => (ev_fieldAddr Try.underlying45 rfl sz43 (by decide) rfl)) ?_
        refine RE.take (i := 3) rfl (by decide) (by kernel_rfl) rfl (by kernel_rfl) (by kernel_rfl) (by kernel_rfl) (by intro _ _ _ h; exact h) rfl (hN.sub [1, 2, 3, 4, 5, 6] (by decide) rfl) (fun w hS => (ev_loadB Try.underlying43 rfl rfl (hS.blk 1 rfl) rfl)) ?_
        refine RE.take (i := 4) rfl (by decide) (by kernel_rfl) rfl (by kernel_rfl) (by kernel_rfl) (by kernel_rfl) (by intro _ _ _ h; exact h) rfl (hN.sub [1, 2, 3, 4, 5, 6] (by decide) rfl) (fun w hS => ev_move) ?_
        refine RE.take (i := 5) rfl (by decide) (by kernel_rfl) rfl (by kernel_rfl) (by kernel_rfl) (by kernel_rfl) (by intro _ _ _ h; exact h) rfl (hN.sub [1, 2, 3, 4, 5, 6] (by decide) rfl) (fun w hS => (ev_indexM Try.underlying43 sz78 fcells_len (by decide) (hS.sm 2 rfl) rfl rfl (by omega) (by omega))) ?_
        have hOb_ : ∃ a_, (we)[i]? = some a_ := ⟨_, List.getElem?_eq_getElem (by omega)⟩
        obtain ⟨ap, hap⟩ := hOb_
        refine RE.take (i := 6) rfl (by decide) (by kernel_rfl) rfl (by kernel_rfl) (by kernel_rfl) (by kernel_rfl) (by intro _ _ _ h; exact h) rfl (hN.sub [1, 2, 3, 4, 5, 6] (by decide) rfl) (fun w hS => (ev_loadM (m := i) (a := ap) Try.underlying78 rfl sz78 fcells_len (by decide) (hS.sm 2 rfl) rfl hap (cs := [(str ap.1), (vh ap.2.1), (vh ap.2.2)]) rfl)) ?_
        refine RE.only (i := 7) (by kernel_rfl) rfl rfl rfl (opN_litM (cf := fcells) (s := 3) (pl := [(0, .tmp 48)]) (ps := [(0, .agg #[(str ap.1), (vh ap.2.1), (vh ap.2.2)])]) (zc := [.string ByteArray.empty, .slice none 0 0, .slice none 0 0]) (l := [(ap.1, ap.2.1, ap.2.2)]) Try.underlying43 inf78 (by kernel_rfl) rfl rfl (fill_step (vs := [(str ap.1), (vh ap.2.1), (vh ap.2.2)]) rfl rfl (Nat.le_of_ble_eq_true rfl) rfl) fcells_len rfl (by decide) (by decide) (by decide) hN ?_)
        intro g10 w10 hN_
        clear hN
        have hN : Now w none_ w10 [_, _, _, _, _, _, _, _] := hN_
        clear hN_
        refine ⟨(hN.sub [2, 3, 4, 5, 6, 7] (by decide) rfl), ?_⟩
        refine RE.only (i := 8) (by kernel_rfl) rfl rfl rfl (opN_appendM Try.underlying43 inf78 rfl (by decide) fcells_one fcells_len hN 1 rfl rfl (hN.sm 0 rfl) rfl (by simp only [List.length_append, List.length_singleton, List.length_cons, List.length_nil]; omega) (by decide) ?_)
        intro v11 w11 hN_
        clear hN
        have hN : Now w none_ w11 [_, _, _, _, _, _, _, _] := hN_
        clear hN_
        refine ⟨(hN.sub [2, 3, 4, 5, 6, 7] (by decide) rfl), ?_⟩
        refine RE.take (i := 9) rfl (by decide) (by kernel_rfl) rfl (by kernel_rfl) (by kernel_rfl) (by kernel_rfl) (by intro _ _ _ h; exact h) rfl (hN.sub [2, 3, 4, 5, 6, 7] (by decide) rfl) (fun w hS => (ev_fieldAddr Try.underlying45 rfl sz43 (by decide) rfl)) ?_
        refine RE.last (by kernel_rfl) rfl rfl rfl (opN_store sz43 rfl rfl (hN.sm 1 rfl).cells1 (hN.sm 1 rfl).one1 hN 2 rfl (Nat.le_of_ble_eq_true rfl) ?_)
        intro w12 hN_
        clear hN
        have hN : Now w none_ w12 [_, _, _, _, _, _, _, _] := hN_
        clear hN_
        refine RE.done (by kernel_rfl) ?_
        refine blockN ?_
        refine thenN ?_
        refine RW.region ?_
        refine RL.ev rfl rfl ev_move ?_
        refine RL.ev rfl rfl (ev_arith rfl rfl rfl (add64 (by omega) (by omega))) ?_
        refine RL.ev rfl rfl ev_assign ?_
        refine RL.nil ?_
        refine thenN ?_
        exact ⟨k - 1, by omega, true, v11, acc ++ [(ap.1, ap.2.1, ap.2.2)], i + 1, rfl, rfl, rfl, rfl, rfl, rfl, (hN.sub [1, 2, 3, 4, 5, 6, 7] (by decide) rfl), by omega, .inl ⟨rfl, by rw [← hA, drop_at hap]; simp⟩, by (try simp only [List.length_append, List.length_singleton]); omega⟩
      · skip
        have hal2 : acc.length ≤ i := by rw [hA, List.length_take]; omega
        refine RW.draw rfl (fun u => Now w none_ u [.ownm fcells 3 78 (va) (acc), .blk g7 [.int .i64 (room), va] 45, .blk g5 [.int .i64 (room), v4] 45, .ownm fcells 3 78 (v4) (we), .blk g3 [.int .i64 (0), .slice none 0 0] 45, .blk g2 [(str h.1), (vh h.2.1), (vh h.2.2)] 78, .blk g1 [.int .i64 (room), Lv] 45]) ?_
        replace hN := hN.ext (Ext.drew w0')
        refine RA.take (i := 0) rfl rfl (by kernel_rfl) (by kernel_rfl) (by kernel_rfl) (by intro _ _ _ h; exact h) rfl hN (fun w hS => ev_move) ?_
        refine RA.take (i := 1) rfl rfl (by kernel_rfl) (by kernel_rfl) (by kernel_rfl) (by intro _ _ _ h; exact h) rfl hN (fun w hS => (ev_not rfl)) ?_
        refine RA.take (i := 2) rfl rfl (by kernel_rfl) (by kernel_rfl) (by kernel_rfl) (by intro _ _ _ h; exact h) rfl hN (fun w hS => ev_move) ?_
        refine RA.takeOn (i := 3) rfl rfl rfl (by decide) rfl (by kernel_rfl) (by kernel_rfl) (by kernel_rfl) (by intro _ _ _ h; exact h) rfl hN (fun w hS => (ev_fieldAddr Try.underlying78 rfl sz9 (by decide) rfl)) ?_
        refine RA.takeOn (i := 4) rfl rfl rfl (by decide) rfl (by kernel_rfl) (by kernel_rfl) (by kernel_rfl) (by intro _ _ _ h; exact h) rfl hN (fun w hS => (ev_loadB Try.underlying9 rfl rfl (hS.blk 5 rfl) rfl)) ?_
        refine RA.takeOn (i := 5) rfl rfl rfl (by decide) rfl (by kernel_rfl) (by kernel_rfl) (by kernel_rfl) (by intro _ _ _ h; exact h) rfl hN (fun w hS => (ev_fieldAddr Try.underlying45 rfl sz43 (by decide) rfl)) ?_
        refine RA.takeOn (i := 6) rfl rfl rfl (by decide) rfl (by kernel_rfl) (by kernel_rfl) (by kernel_rfl) (by intro _ _ _ h; exact h) rfl hN (fun w hS => (ev_loadB Try.underlying43 rfl rfl (hS.blk 2 rfl) rfl)) ?_
        refine RA.takeOn (i := 7) rfl rfl rfl (by decide) rfl (by kernel_rfl) (by kernel_rfl) (by kernel_rfl) (by intro _ _ _ h; exact h) rfl hN (fun w hS => ev_move) ?_
        refine RA.takeOn (i := 8) rfl rfl rfl (by decide) rfl (by kernel_rfl) (by kernel_rfl) (by kernel_rfl) (by intro _ _ _ h; exact h) rfl hN (fun w hS => (ev_indexM Try.underlying43 sz78 fcells_len (by decide) (hS.sm 3 rfl) rfl rfl (by omega) (by omega))) ?_
        have hOb_ : ∃ a_, (we)[i]? = some a_ := ⟨_, List.getElem?_eq_getElem (by omega)⟩
        obtain ⟨ap, hap⟩ := hOb_
        refine RA.takeOn (i := 9) rfl rfl rfl (by decide) rfl (by kernel_rfl) (by kernel_rfl) (by kernel_rfl) (by intro _ _ _ h; exact h) rfl hN (fun w hS => (ev_fieldM (m := i) (b := 0) Try.underlying78 rfl sz9 (by decide) fcells_len (hS.sm 3 rfl) hap rfl rfl)) ?_
        refine RA.takeOn (i := 10) rfl rfl rfl (by decide) rfl (by kernel_rfl) (by kernel_rfl) (by kernel_rfl) (by intro _ _ _ h; exact h) rfl hN (fun w hS => (ev_loadMF (m := i) (j := 0) (a := ap) Try.underlying9 rfl fcells_len (hS.sm 3 rfl) rfl hap rfl)) ?_
        refine RA.takeOn (i := 11) rfl rfl rfl (by decide) rfl (by kernel_rfl) (by kernel_rfl) (by kernel_rfl) (by intro _ _ _ h; exact h) rfl hN (fun w hS => (ev_strLt rfl rfl)) ?_
        refine RA.take (i := 12) rfl rfl (by kernel_rfl) (by kernel_rfl) (by kernel_rfl) (by intro _ _ _ h; exact h) rfl hN (fun w hS => (ev_pickT rfl)) ?_
        refine RA.done (by kernel_rfl) ?_
        refine thenN ?_
        refine RW.condP _ rfl (fun hlt2 => ?_) (fun hlt2 => ?_)
        · skip
          refine RW.seq ?_
          refine RW.region ?_
          refine RL.ev rfl rfl (ev_fieldAddr Try.underlying45 rfl sz43 (by decide) rfl) ?_
          refine RL.ev rfl rfl (ev_loadB Try.underlying43 rfl rfl (hN.blk 1 rfl) rfl) ?_
          refine RL.ev rfl rfl (ev_loadAll (cs := [(str h.1), (vh h.2.1), (vh h.2.2)]) Try.underlying78 rfl sz78 rfl (hN.blk 5 rfl)) ?_
          refine RL.op rfl rfl (opN_litM (cf := fcells) (s := 3) (pl := [(0, .tmp 38)]) (ps := [(0, .agg #[(str h.1), (vh h.2.1), (vh h.2.2)])]) (zc := [.string ByteArray.empty, .slice none 0 0, .slice none 0 0]) (l := [(h.1, h.2.1, h.2.2)]) Try.underlying43 inf78 (by kernel_rfl) rfl rfl (fill_step (vs := [(str h.1), (vh h.2.1), (vh h.2.2)]) rfl rfl (Nat.le_of_ble_eq_true rfl) rfl) fcells_len rfl (by decide) (by decide) (by decide) hN ?_)
          intro g13 w13 hN_
          clear hN
          have hN : Now w none_ w13 [_, _, _, _, _, _, _, _] := hN_
          clear hN_
          refine RL.op rfl rfl (opN_appendM Try.underlying43 inf78 rfl (by decide) fcells_one fcells_len hN 1 rfl rfl (hN.sm 0 rfl) rfl (by simp only [List.length_append, List.length_singleton, List.length_cons, List.length_nil]; omega) (by decide) ?_)
          intro v14 w14 hN_
          clear hN
          have hN : Now w none_ w14 [_, _, _, _, _, _, _, _] := hN_
          clear hN_
          refine RL.ev rfl rfl (ev_fieldAddr Try.underlying45 rfl sz43 (by decide) rfl) ?_
          refine RL.op rfl rfl (opN_store sz43 rfl rfl (hN.sm 1 rfl).cells1 (hN.sm 1 rfl).one1 hN 2 rfl (Nat.le_of_ble_eq_true rfl) ?_)
          intro w15 hN_
          clear hN
          have hN : Now w none_ w15 [_, _, _, _, _, _, _, _] := hN_
          clear hN_
          refine RL.nil ?_
          refine thenN ?_
          refine RW.region ?_
          refine RL.ev rfl rfl ev_assign ?_
          refine RL.nil ?_
          refine thenN ?_
          refine RW.drawE rfl (fun u => Now w none_ u [.ownm fcells 3 78 (.slice (some ⟨g13, 0, none⟩) 1 1) ([(h.1, h.2.1, h.2.2)]), .blk g7 [.int .i64 (room), v14] 45, .blk g5 [.int .i64 (room), v4] 45, .ownm fcells 3 78 (v4) (we), .blk g3 [.int .i64 (0), .slice none 0 0] 45, .blk g2 [(str h.1), (vh h.2.1), (vh h.2.2)] 78, .blk g1 [.int .i64 (room), Lv] 45]) 10 ?_
          replace hN := hN.ext (Ext.drew w15)
          refine RE.take (i := 0) rfl (by decide) (by kernel_rfl) rfl (by kernel_rfl) (by kernel_rfl) (by kernel_rfl) (by intro _ _ _ h; exact h) rfl (hN.sub [0, 2, 3, 4, 5, 6, 7] (by decide) rfl) (fun w hS => (ev_fieldAddr Try.underlying45 rfl sz43 (by decide) rfl)) ?_
          refine RE.take (i := 1) rfl (by decide) (by kernel_rfl) rfl (by kernel_rfl) (by kernel_rfl) (by kernel_rfl) (by intro _ _ _ h; exact h) rfl (hN.sub [0, 2, 3, 4, 5, 6, 7] (by decide) rfl) (fun w hS => (ev_loadB Try.underlying43 rfl rfl (hS.blk 1 rfl) rfl)) ?_
          refine RE.take (i := 2) rfl (by decide) (by kernel_rfl) rfl (by kernel_rfl) (by kernel_rfl) (by kernel_rfl) (by intro _ _ _ h; exact h) rfl (hN.sub [0, 2, 3, 4, 5, 6, 7] (by decide) rfl) (fun w hS => (ev_fieldAddr Try.underlying45 rfl sz43 (by decide) rfl)) ?_
          refine RE.take (i := 3) rfl (by decide) (by kernel_rfl) rfl (by kernel_rfl) (by kernel_rfl) (by kernel_rfl) (by intro _ _ _ h; exact h) rfl (hN.sub [0, 2, 3, 4, 5, 6, 7] (by decide) rfl) (fun w hS => (ev_loadB Try.underlying43 rfl rfl (hS.blk 2 rfl) rfl)) ?_
          refine RE.take (i := 4) rfl (by decide) (by kernel_rfl) rfl (by kernel_rfl) (by kernel_rfl) (by kernel_rfl) (by intro _ _ _ h; exact h) rfl (hN.sub [0, 2, 3, 4, 5, 6, 7] (by decide) rfl) (fun w hS => ev_move) ?_
          refine RE.take (i := 5) rfl (by decide) (by kernel_rfl) rfl (by kernel_rfl) (by kernel_rfl) (by kernel_rfl) (by intro _ _ _ h; exact h) rfl (hN.sub [0, 2, 3, 4, 5, 6, 7] (by decide) rfl) (fun w hS => (ev_indexM Try.underlying43 sz78 fcells_len (by decide) (hS.sm 3 rfl) rfl rfl (by omega) (by omega))) ?_
          refine RE.take (i := 6) rfl (by decide) (by kernel_rfl) rfl (by kernel_rfl) (by kernel_rfl) (by kernel_rfl) (by intro _ _ _ h; exact h) rfl (hN.sub [0, 2, 3, 4, 5, 6, 7] (by decide) rfl) (fun w hS => (ev_loadM (m := i) (a := ap) Try.underlying78 rfl sz78 fcells_len (by decide) (hS.sm 3 rfl) rfl hap (cs := [(str ap.1), (vh ap.2.1), (vh ap.2.2)]) rfl)) ?_
          refine RE.only (i := 7) (by kernel_rfl) rfl rfl rfl (opN_litM (cf := fcells) (s := 3) (pl := [(0, .tmp 48)]) (ps := [(0, .agg #[(str ap.1), (vh ap.2.1), (vh ap.2.2)])]) (zc := [.string ByteArray.empty, .slice none 0 0, .slice none 0 0]) (l := [(ap.1, ap.2.1, ap.2.2)]) Try.underlying43 inf78 (by kernel_rfl) rfl rfl (fill_step (vs := [(str ap.1), (vh ap.2.1), (vh ap.2.2)]) rfl rfl (Nat.le_of_ble_eq_true rfl) rfl) fcells_len rfl (by decide) (by decide) (by decide) hN ?_)
          intro g16 w16 hN_
          clear hN
          have hN : Now w none_ w16 [_, _, _, _, _, _, _, _, _] := hN_
          clear hN_
          refine ⟨(hN.sub [1, 3, 4, 5, 6, 7, 8] (by decide) rfl), ?_⟩
          refine RE.only (i := 8) (by kernel_rfl) rfl rfl rfl (opN_appendM Try.underlying43 inf78 rfl (by decide) fcells_one fcells_len hN 2 rfl rfl (hN.sm 0 rfl) rfl (by simp only [List.length_append, List.length_singleton, List.length_cons, List.length_nil]; omega) (by decide) ?_)
          intro v17 w17 hN_
          clear hN
          have hN : Now w none_ w17 [_, _, _, _, _, _, _, _, _] := hN_
          clear hN_
          refine ⟨(hN.sub [1, 3, 4, 5, 6, 7, 8] (by decide) rfl), ?_⟩
          refine RE.take (i := 9) rfl (by decide) (by kernel_rfl) rfl (by kernel_rfl) (by kernel_rfl) (by kernel_rfl) (by intro _ _ _ h; exact h) rfl (hN.sub [1, 3, 4, 5, 6, 7, 8] (by decide) rfl) (fun w hS => (ev_fieldAddr Try.underlying45 rfl sz43 (by decide) rfl)) ?_
          refine RE.last (by kernel_rfl) rfl rfl rfl (opN_store sz43 rfl rfl (hN.sm 2 rfl).cells1 (hN.sm 2 rfl).one1 hN 3 rfl (Nat.le_of_ble_eq_true rfl) ?_)
          intro w18 hN_
          clear hN
          have hN : Now w none_ w18 [_, _, _, _, _, _, _, _, _] := hN_
          clear hN_
          refine RE.done (by kernel_rfl) ?_
          refine blockN ?_
          refine thenN ?_
          refine RW.region ?_
          refine RL.ev rfl rfl ev_move ?_
          refine RL.ev rfl rfl (ev_arith rfl rfl rfl (add64 (by omega) (by omega))) ?_
          refine RL.ev rfl rfl ev_assign ?_
          refine RL.nil ?_
          refine thenN ?_
          exact ⟨k - 1, by omega, true, v17, acc ++ [(h.1, h.2.1, h.2.2)] ++ [(ap.1, ap.2.1, ap.2.2)], i + 1, rfl, rfl, rfl, rfl, rfl, rfl, (hN.sub [2, 3, 4, 5, 6, 7, 8] (by decide) rfl), by omega, .inl ⟨rfl, by rw [hB, putH_drop hap, if_pos hlt2, hA]; simp⟩, by (try simp only [List.length_append, List.length_singleton]); omega⟩
        · skip
          refine RW.skip ?_
          refine thenN ?_
          refine RW.drawE rfl (fun u => Now w none_ u [.blk g7 [.int .i64 (room), va] 45, .blk g5 [.int .i64 (room), v4] 45, .ownm fcells 3 78 (v4) (we), .blk g3 [.int .i64 (0), .slice none 0 0] 45, .blk g2 [(str h.1), (vh h.2.1), (vh h.2.2)] 78, .blk g1 [.int .i64 (room), Lv] 45]) 10 ?_
          replace hN := hN.ext (Ext.drew w0'.drew)
          refine RE.take (i := 0) rfl (by decide) (by kernel_rfl) rfl (by kernel_rfl) (by kernel_rfl) (by kernel_rfl) (by intro _ _ _ h; exact h) rfl (hN.sub [1, 2, 3, 4, 5, 6] (by decide) rfl) (fun w hS => (ev_fieldAddr Try.underlying45 rfl sz43 (by decide) rfl)) ?_
          refine RE.take (i := 1) rfl (by decide) (by kernel_rfl) rfl (by kernel_rfl) (by kernel_rfl) (by kernel_rfl) (by intro _ _ _ h; exact h) rfl (hN.sub [1, 2, 3, 4, 5, 6] (by decide) rfl) (fun w hS => (ev_loadB Try.underlying43 rfl rfl (hS.blk 0 rfl) rfl)) ?_
          refine RE.take (i := 2) rfl (by decide) (by kernel_rfl) rfl (by kernel_rfl) (by kernel_rfl) (by kernel_rfl) (by intro _ _ _ h; exact h) rfl (hN.sub [1, 2, 3, 4, 5, 6] (by decide) rfl) (fun w hS => (ev_fieldAddr Try.underlying45 rfl sz43 (by decide) rfl)) ?_
          refine RE.take (i := 3) rfl (by decide) (by kernel_rfl) rfl (by kernel_rfl) (by kernel_rfl) (by kernel_rfl) (by intro _ _ _ h; exact h) rfl (hN.sub [1, 2, 3, 4, 5, 6] (by decide) rfl) (fun w hS => (ev_loadB Try.underlying43 rfl rfl (hS.blk 1 rfl) rfl)) ?_
          refine RE.take (i := 4) rfl (by decide) (by kernel_rfl) rfl (by kernel_rfl) (by kernel_rfl) (by kernel_rfl) (by intro _ _ _ h; exact h) rfl (hN.sub [1, 2, 3, 4, 5, 6] (by decide) rfl) (fun w hS => ev_move) ?_
          refine RE.take (i := 5) rfl (by decide) (by kernel_rfl) rfl (by kernel_rfl) (by kernel_rfl) (by kernel_rfl) (by intro _ _ _ h; exact h) rfl (hN.sub [1, 2, 3, 4, 5, 6] (by decide) rfl) (fun w hS => (ev_indexM Try.underlying43 sz78 fcells_len (by decide) (hS.sm 2 rfl) rfl rfl (by omega) (by omega))) ?_
          refine RE.take (i := 6) rfl (by decide) (by kernel_rfl) rfl (by kernel_rfl) (by kernel_rfl) (by kernel_rfl) (by intro _ _ _ h; exact h) rfl (hN.sub [1, 2, 3, 4, 5, 6] (by decide) rfl) (fun w hS => (ev_loadM (m := i) (a := ap) Try.underlying78 rfl sz78 fcells_len (by decide) (hS.sm 2 rfl) rfl hap (cs := [(str ap.1), (vh ap.2.1), (vh ap.2.2)]) rfl)) ?_
          refine RE.only (i := 7) (by kernel_rfl) rfl rfl rfl (opN_litM (cf := fcells) (s := 3) (pl := [(0, .tmp 48)]) (ps := [(0, .agg #[(str ap.1), (vh ap.2.1), (vh ap.2.2)])]) (zc := [.string ByteArray.empty, .slice none 0 0, .slice none 0 0]) (l := [(ap.1, ap.2.1, ap.2.2)]) Try.underlying43 inf78 (by kernel_rfl) rfl rfl (fill_step (vs := [(str ap.1), (vh ap.2.1), (vh ap.2.2)]) rfl rfl (Nat.le_of_ble_eq_true rfl) rfl) fcells_len rfl (by decide) (by decide) (by decide) hN ?_)
          intro g19 w19 hN_
          clear hN
          have hN : Now w none_ w19 [_, _, _, _, _, _, _, _] := hN_
          clear hN_
          refine ⟨(hN.sub [2, 3, 4, 5, 6, 7] (by decide) rfl), ?_⟩
          refine RE.only (i := 8) (by kernel_rfl) rfl rfl rfl (opN_appendM Try.underlying43 inf78 rfl (by decide) fcells_one fcells_len hN 1 rfl rfl (hN.sm 0 rfl) rfl (by simp only [List.length_append, List.length_singleton, List.length_cons, List.length_nil]; omega) (by decide) ?_)
          intro v20 w20 hN_
          clear hN
          have hN : Now w none_ w20 [_, _, _, _, _, _, _, _] := hN_
          clear hN_
          refine ⟨(hN.sub [2, 3, 4, 5, 6, 7] (by decide) rfl), ?_⟩
          refine RE.take (i := 9) rfl (by decide) (by kernel_rfl) rfl (by kernel_rfl) (by kernel_rfl) (by kernel_rfl) (by intro _ _ _ h; exact h) rfl (hN.sub [2, 3, 4, 5, 6, 7] (by decide) rfl) (fun w hS => (ev_fieldAddr Try.underlying45 rfl sz43 (by decide) rfl)) ?_
          refine RE.last (by kernel_rfl) rfl rfl rfl (opN_store sz43 rfl rfl (hN.sm 1 rfl).cells1 (hN.sm 1 rfl).one1 hN 2 rfl (Nat.le_of_ble_eq_true rfl) ?_)
          intro w21 hN_
          clear hN
          have hN : Now w none_ w21 [_, _, _, _, _, _, _, _] := hN_
          clear hN_
          refine RE.done (by kernel_rfl) ?_
          refine blockN ?_
          refine thenN ?_
          refine RW.region ?_
          refine RL.ev rfl rfl ev_move ?_
          refine RL.ev rfl rfl (ev_arith rfl rfl rfl (add64 (by omega) (by omega))) ?_
          refine RL.ev rfl rfl ev_assign ?_
          refine RL.nil ?_
          refine thenN ?_
          exact ⟨k - 1, by omega, false, v20, acc ++ [(ap.1, ap.2.1, ap.2.2)], i + 1, rfl, rfl, rfl, rfl, rfl, rfl, (hN.sub [1, 2, 3, 4, 5, 6, 7] (by decide) rfl), by omega, .inr ⟨rfl, by rw [take_at hap, hA], by rw [hB, putH_drop hap, if_neg hlt2, take_at hap]; simp⟩, by (try simp only [List.length_append, List.length_singleton]); omega⟩
    · skip
      refine RW.exit ?_
      refine thenX ?_
      refine thenX ?_
      refine blockHit ?_
      refine thenN ?_
      refine RW.seq ?_
      refine RW.seq ?_
      rcases hinv with ⟨hl1, hA⟩ | ⟨hl1, hA, hB⟩ <;> subst hl1
      · skip
        refine RW.region ?_
        refine RL.ev rfl rfl ev_move ?_
        refine RL.ev rfl rfl (ev_not rfl) ?_
        refine RL.nil ?_
        refine thenN ?_
        refine RW.condF rfl ?_
        refine RW.skip ?_
        refine thenN ?_
        refine RW.seq ?_
        refine RW.region ?_
        refine RL.ev rfl rfl (ev_loadAll (cs := [.int .i64 (room), va]) Try.underlying45 rfl sz45 rfl (hN.blk 1 rfl)) ?_
        refine RL.op rfl rfl (opN_storeAll (vs := [.int .i64 (room), va]) sz45 rfl rfl rfl (by intro u hu; simp only [List.mem_cons, List.not_mem_nil, or_false] at hu; rcases hu with rfl | rfl <;> first | rfl | exact (hN.sm 0 rfl).one1) hN 4 rfl rfl ?_)
        intro w22 hN_
        clear hN
        have hN : Now w none_ w22 [_, _, _, _, _, _, _] := hN_
        clear hN_
        refine RL.nil ?_
        refine thenN ?_
        refine RW.ret ?_
        refine retI (RV.cell rfl rfl (hN.blk 4 rfl) Try.underlying45 rfl sz45) ?_
        rw [show i = we.length by omega, List.drop_length, List.append_nil] at hA
        subst hA
        subst hwe
        exact ⟨va, rfl, hN.ownmOut 0 rfl, hN.ext0⟩
      · skip
        have hal2 : acc.length ≤ i := by rw [hA, List.length_take]; omega
        refine RW.region ?_
        refine RL.ev rfl rfl ev_move ?_
        refine RL.ev rfl rfl (ev_not rfl) ?_
        refine RL.nil ?_
        refine thenN ?_
        refine RW.condT rfl ?_
        refine RW.region ?_
        refine RL.ev rfl rfl (ev_fieldAddr Try.underlying45 rfl sz43 (by decide) rfl) ?_
        refine RL.ev rfl rfl (ev_loadB Try.underlying43 rfl rfl (hN.blk 1 rfl) rfl) ?_
        refine RL.ev rfl rfl (ev_loadAll (cs := [(str h.1), (vh h.2.1), (vh h.2.2)]) Try.underlying78 rfl sz78 rfl (hN.blk 5 rfl)) ?_
        refine RL.op rfl rfl (opN_litM (cf := fcells) (s := 3) (pl := [(0, .tmp 56)]) (ps := [(0, .agg #[(str h.1), (vh h.2.1), (vh h.2.2)])]) (zc := [.string ByteArray.empty, .slice none 0 0, .slice none 0 0]) (l := [(h.1, h.2.1, h.2.2)]) Try.underlying43 inf78 (by kernel_rfl) rfl rfl (fill_step (vs := [(str h.1), (vh h.2.1), (vh h.2.2)]) rfl rfl (Nat.le_of_ble_eq_true rfl) rfl) fcells_len rfl (by decide) (by decide) (by decide) hN ?_)
        intro g23 w23 hN_
        clear hN
        have hN : Now w none_ w23 [_, _, _, _, _, _, _, _] := hN_
        clear hN_
        refine RL.op rfl rfl (opN_appendM Try.underlying43 inf78 rfl (by decide) fcells_one fcells_len hN 1 rfl rfl (hN.sm 0 rfl) rfl (by simp only [List.length_append, List.length_singleton, List.length_cons, List.length_nil]; omega) (by decide) ?_)
        intro v24 w24 hN_
        clear hN
        have hN : Now w none_ w24 [_, _, _, _, _, _, _, _] := hN_
        clear hN_
        refine RL.ev rfl rfl (ev_fieldAddr Try.underlying45 rfl sz43 (by decide) rfl) ?_
        refine RL.op rfl rfl (opN_store sz43 rfl rfl (hN.sm 1 rfl).cells1 (hN.sm 1 rfl).one1 hN 2 rfl (Nat.le_of_ble_eq_true rfl) ?_)
        intro w25 hN_
        clear hN
        have hN : Now w none_ w25 [_, _, _, _, _, _, _, _] := hN_
        clear hN_
        refine RL.nil ?_
        refine thenN ?_
        refine RW.seq ?_
        refine RW.region ?_
        refine RL.ev rfl rfl (ev_loadAll (cs := [.int .i64 (room), v24]) Try.underlying45 rfl sz45 rfl (hN.blk 2 rfl)) ?_
        refine RL.op rfl rfl (opN_storeAll (vs := [.int .i64 (room), v24]) sz45 rfl rfl rfl (by intro u hu; simp only [List.mem_cons, List.not_mem_nil, or_false] at hu; rcases hu with rfl | rfl <;> first | rfl | exact (hN.sm 1 rfl).one1) hN 5 rfl rfl ?_)
        intro w26 hN_
        clear hN
        have hN : Now w none_ w26 [_, _, _, _, _, _, _, _] := hN_
        clear hN_
        refine RL.nil ?_
        refine thenN ?_
        refine RW.ret ?_
        refine retI (RV.cell rfl rfl (hN.blk 5 rfl) Try.underlying45 rfl sz45) ?_
        rw [show i = we.length by omega, List.take_length] at hA
        rw [show i = we.length by omega, List.take_length, List.drop_length] at hB
        have hq : acc ++ [(h.1, h.2.1, h.2.2)] = putH h we := by rw [hB, hA]; rfl
        subst hwe
        exact ⟨_, rfl, hq ▸ hN.ownmOut 1 rfl, hN.ext0⟩

end Go.Proofs.Ytlblpiapeieofaa
