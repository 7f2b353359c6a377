import Derived.Test.YtlblpiapeieofaaDiskR1
set_option linter.unusedVariables false
set_option linter.unusedSimpArgs false
namespace Go.Proofs.Ytlblpiapeieofaa
open Go.RowKit Go.Rl

open Go.Disk
set_option maxHeartbeats 4000000 in
set_option maxRecDepth 100000 in
/-- postroad/postroadref04.All -/
theorem refAll_calls (h : FH) (whs : List Hd) (firm : List UInt8) (ws : List (List UInt8)) (w : World) (hf : Sl vb w (vh h.2.1) firm) (hw : Sl vh w (vh h.2.2) whs) (hel : Els none_ vb w whs ws) (hm : (firm ++ ws.flatten).length ≤ 1099511627776) (hn : ws.length ≤ 1048576) : Gives Try.prog 40 #[.agg (fcells h).toArray] w fun r w' => Own vb 5 w' w.heap.size r (firm ++ ws.flatten) ∧ Ext w w' := by
  refine Gives.start Try.func40 rfl (Nat.le_of_ble_eq_true rfl) ?_
  rw [args1]
  have hN := Now.nil w none_
  have hl0 := hel.1
  rw [List.length_append] at hm
  refine RW.seq ?_
  refine RW.region ?_
  refine RL.op rfl rfl (opN_box (cs := [(str h.1), (vh h.2.1), (vh h.2.2)]) rfl rfl hN ?_)
  intro g1 w1 hN_
  clear hN
  have hN : Now w none_ w1 [_] := hN_
  clear hN_
  refine RL.ev rfl rfl ev_assign ?_
  refine RL.nil ?_
  refine thenN ?_
  refine RW.seq ?_
  refine RW.region ?_
  refine RL.ev rfl rfl ev_assign ?_
  refine RL.nil ?_
  refine thenN ?_
  refine RW.seq ?_
  refine RW.region ?_
  refine RL.ev rfl rfl ev_move ?_
  refine RL.ev rfl rfl (ev_fieldAddr Try.underlying78 rfl sz23 (by decide) rfl) ?_
  refine RL.ev rfl rfl (ev_loadB Try.underlying23 rfl rfl (hN.blk 0 rfl) rfl) ?_
  replace hN := hN.addNil vb 5
  refine RL.op rfl rfl (opN_append Try.underlying23 inf5 rfl vb_one hN 0 rfl rfl (hf.ext hN.ext0) rfl (by simp only [List.length_nil]; omega) (by decide) ?_)
  intro v2 w2 hN_
  clear hN
  have hN : Now w none_ w2 [_, _] := hN_
  clear hN_
  replace hN := hN.relist 0 rfl (show _ = firm from List.nil_append _)
  replace hN : Now w none_ w2 [_, _] := hN
  refine RL.ev rfl rfl ev_assign ?_
  refine RL.nil ?_
  refine thenN ?_
  refine RW.seq ?_
  refine RW.seq ?_
  refine RW.region ?_
  refine RL.ev rfl rfl ev_assign ?_
  refine RL.nil ?_
  refine thenN ?_
  refine RW.block ?_
  refine RW.loop (fun k R0 w0' => ∃ va : Value, ∃ acc : List UInt8, ∃ i : Nat, R0 1 = .pointer (some ⟨g1, 0, none⟩) ∧ R0 3 = va ∧ R0 4 = .int .i64 ((i : Int)) ∧ Now w none_ w0' [.own vb 5 (va) (acc), .blk g1 [(str h.1), (vh h.2.1), (vh h.2.2)] 78] ∧ (i + k = whs.length) ∧ (acc = firm ++ (ws.take i).flatten)) (whs.length) ?_ ?_
  · skip
    exact ⟨v2, firm, 0, rfl, rfl, rfl, hN, by omega, by simp⟩
  · skip
    clear hN
    rintro k R0 w0' ⟨va, acc, i, hr1_, hr3_, hr4_, hN, hik, ha⟩
    have hR_ : ∃ R0_, R0 = (upd (upd (upd R0_ 1 _) 3 _) 4 _) := ⟨R0, by rw [upd_self hr1_, upd_self hr3_, upd_self hr4_]⟩
    obtain ⟨R0_, rfl⟩ := hR_
    clear hr1_ hr3_ hr4_
    refine RW.seq ?_
    refine RW.seq ?_
    refine RW.region ?_
    refine RL.ev rfl rfl ev_move ?_
    refine RL.ev rfl rfl (ev_fieldAddr Try.underlying78 rfl sz69 (by decide) rfl) ?_
    refine RL.ev rfl rfl (ev_loadB Try.underlying69 rfl rfl (hN.blk 1 rfl) rfl) ?_
    have hL_3 := (hw.ext hN.ext0).len_le
    refine RL.ev rfl rfl (ev_lenS Try.underlying69 (hw.ext hN.ext0) rfl) ?_
    refine RL.ev rfl rfl (ev_lss rfl rfl) ?_
    refine RL.nil ?_
    refine thenN ?_
    refine RW.condP _ rfl (fun hlt => ?_) (fun hlt => ?_)
    · skip
      refine RW.skip ?_
      refine thenN ?_
      refine RW.seq ?_
      refine RW.block ?_
      refine RW.region ?_
      refine RL.ev rfl rfl ev_move ?_
      refine RL.ev rfl rfl (ev_fieldAddr Try.underlying78 rfl sz69 (by decide) rfl) ?_
      refine RL.ev rfl rfl (ev_loadB Try.underlying69 rfl rfl (hN.blk 1 rfl) rfl) ?_
      refine RL.ev rfl rfl ev_move ?_
      refine RL.ev rfl rfl (ev_index Try.underlying69 sz23 (hw.ext hN.ext0) rfl rfl (by omega) (by omega)) ?_
      have hOb_ : ∃ a_, (whs)[i]? = some a_ := ⟨_, List.getElem?_eq_getElem (by omega)⟩
      obtain ⟨ap, hap⟩ := hOb_
      have hOb_ : ∃ l_, (ws)[i]? = some l_ := ⟨_, List.getElem?_eq_getElem (by have := hel.1; omega)⟩
      obtain ⟨lp, hlp⟩ := hOb_
      refine RL.ev rfl rfl (ev_loadG (m := i) (a := ap) Try.underlying23 rfl (hw.ext hN.ext0) rfl hap) ?_
      have hft := flat_take hlp
      have hfl := flat_le ws (i + 1)
      have hfe := flat_take_eq hlp
      refine RL.op rfl rfl (opN_append Try.underlying23 inf5 rfl vb_one hN 0 rfl rfl ((hel.2 _ _ _ hap hlp).1.ext hN.ext0) rfl (by rw [ha, List.length_append]; omega) (by decide) ?_)
      intro v4 w4 hN_
      clear hN
      have hN : Now w none_ w4 [_, _] := hN_
      clear hN_
      refine RL.ev rfl rfl ev_assign ?_
      refine RL.nil ?_
      refine blockN ?_
      refine thenN ?_
      refine RW.region ?_
      refine RL.ev rfl rfl ev_move ?_
      refine RL.ev rfl rfl (ev_arith rfl rfl rfl (add64 (by omega) (by omega))) ?_
      refine RL.ev rfl rfl ev_assign ?_
      refine RL.nil ?_
      refine thenN ?_
      exact ⟨k - 1, by omega, v4, acc ++ lp, i + 1, rfl, rfl, rfl, hN, by omega, by rw [ha, hfe, List.append_assoc]⟩
    · skip
      refine RW.exit ?_
      refine thenX ?_
      refine thenX ?_
      refine blockHit ?_
      refine thenN ?_
      refine RW.seq ?_
      refine RW.region ?_
      refine RL.ev rfl rfl ev_move ?_
      refine RL.ev rfl rfl ev_assign ?_
      refine RL.nil ?_
      refine thenN ?_
      refine RW.ret ?_
      refine retI (RV.tmp rfl) ?_
      have hi_ : i = whs.length := by omega
      rw [hi_, List.take_of_length_le (by omega)] at ha
      subst ha
      exact ⟨hN.ownOut 0 rfl, hN.ext0⟩

set_option maxHeartbeats 4000000 in
set_option maxRecDepth 100000 in
/-- postroad/postroadref04.Size -/
theorem refSize_calls (d : Dk) (Lv : Value) (hs : List FH) (n : Nat) (w : World) (hL : Sm fcells w Lv hs) (hel : FEls none_ w hs d.fs) (hfit : Fits n d) (hn : n ≤ 1048576) : Gives Try.prog 38 #[.agg #[.int .i64 d.room, Lv]] w fun r w' => r = .int .i64 ((size d.fs : Nat) : Int) ∧ Ext w w' := by
  refine Gives.start Try.func38 rfl (Nat.le_of_ble_eq_true rfl) ?_
  rw [args1]
  have hN := Now.nil w none_
  have hfs := hfit.size
  have hfr := hfit.room
  have hfl := hfit.loose
  have hff := hfit.files
  have hle := hel.1
  refine RW.seq ?_
  refine RW.region ?_
  refine RL.op rfl rfl (opN_box (cs := [.int .i64 (d.room), Lv]) rfl rfl hN ?_)
  intro g1 w1 hN_
  clear hN
  have hN : Now w none_ w1 [_] := hN_
  clear hN_
  refine RL.ev rfl rfl ev_assign ?_
  refine RL.nil ?_
  refine thenN ?_
  refine RW.seq ?_
  refine RW.region ?_
  refine RL.ev rfl rfl ev_assign ?_
  refine RL.nil ?_
  refine thenN ?_
  refine RW.seq ?_
  refine RW.seq ?_
  refine RW.region ?_
  refine RL.ev rfl rfl ev_assign ?_
  refine RL.nil ?_
  refine thenN ?_
  refine RW.block ?_
  refine RW.loop (fun k R0 w0' => ∃ z : Int, ∃ i : Nat, R0 1 = .pointer (some ⟨g1, 0, none⟩) ∧ R0 3 = .int .i64 (z) ∧ R0 4 = .int .i64 ((i : Int)) ∧ Now w none_ w0' [.blk g1 [.int .i64 (d.room), Lv] 45] ∧ (i + k = hs.length) ∧ (z = (size (d.fs.take i) : Nat))) (hs.length) ?_ ?_
  · skip
    exact ⟨0, 0, rfl, rfl, rfl, hN, by omega, rfl⟩
  · skip
    clear hN
    rintro k R0 w0' ⟨z, i, hr1_, hr3_, hr4_, hN, hik, hz⟩
    have hR_ : ∃ R0_, R0 = (upd (upd (upd R0_ 1 _) 3 _) 4 _) := ⟨R0, by rw [upd_self hr1_, upd_self hr3_, upd_self hr4_]⟩
    obtain ⟨R0_, rfl⟩ := hR_
    clear hr1_ hr3_ hr4_
    refine RW.seq ?_
    refine RW.seq ?_
    refine RW.region ?_
    refine RL.ev rfl rfl ev_move ?_
    refine RL.ev rfl rfl (ev_fieldAddr Try.underlying45 rfl sz43 (by decide) rfl) ?_
    refine RL.ev rfl rfl (ev_loadB Try.underlying43 rfl rfl (hN.blk 0 rfl) rfl) ?_
    have hL_2 := (hL.o.now hN).len_le
    refine RL.ev rfl rfl (ev_lenM Try.underlying43 (hL.o.now hN) rfl) ?_
    refine RL.ev rfl rfl (ev_lss rfl rfl) ?_
    refine RL.nil ?_
    refine thenN ?_
    refine RW.condP _ rfl (fun hlt => ?_) (fun hlt => ?_)
    · skip
      refine RW.skip ?_
      refine thenN ?_
      refine RW.seq ?_
      refine RW.block ?_
      refine RW.region ?_
      refine RL.ev rfl rfl ev_move ?_
      refine RL.ev rfl rfl (ev_fieldAddr Try.underlying45 rfl sz43 (by decide) rfl) ?_
      refine RL.ev rfl rfl (ev_loadB Try.underlying43 rfl rfl (hN.blk 0 rfl) rfl) ?_
      refine RL.ev rfl rfl ev_move ?_
      refine RL.ev rfl rfl (ev_indexM Try.underlying43 sz78 fcells_len (by decide) (hL.o.now hN) rfl rfl (by omega) (by omega)) ?_
      have hOb_ := FEls.get hel i (by omega)
      obtain ⟨hp, fp, whsp, hap, hfp, hnp, hAp, hBp, hCp⟩ := hOb_
      refine RL.ev rfl rfl (ev_loadM (m := i) (a := hp) Try.underlying78 rfl sz78 fcells_len (by decide) (hL.o.now hN) rfl hap (cs := [(str hp.1), (vh hp.2.1), (vh hp.2.2)]) rfl) ?_
      have hfm := List.mem_of_getElem? hfp
      have hln := hfit.fileLen2 hfm
      have hlw := hfit.fileWs2 hn hfm
      have hwl := hCp.1
      have hst := size_take hfp
      have hsl := size_take_le d.fs (i + 1)
      refine RL.op rfl rfl (op_call1 Try.func40 rfl rfl rfl ((refAll_calls hp _ fp.firm fp.ws _ (hAp.now hN) (hBp.now hN) (hCp.nowN hN) hln hlw).mono ?_))
      rintro v3 w3 ⟨ho_, he_⟩
      have hN_ := hN.pushOwn (l := (fp.firm ++ fp.ws.flatten)) ho_ he_
      clear ho_ he_
      clear hN
      have hN : Now w none_ w3 [_, _] := hN_
      clear hN_
      have hL_4 := (hN.sl 0 rfl).len_le
      refine RL.ev rfl rfl (ev_lenS Try.underlying23 (hN.sl 0 rfl) rfl) ?_
      refine RL.ev rfl rfl (ev_arith rfl rfl rfl (add64 (by omega) (by omega))) ?_
      refine RL.ev rfl rfl ev_assign ?_
      refine RL.nil ?_
      refine blockN ?_
      refine thenN ?_
      refine RW.region ?_
      refine RL.ev rfl rfl ev_move ?_
      refine RL.ev rfl rfl (ev_arith rfl rfl rfl (add64 (by omega) (by omega))) ?_
      refine RL.ev rfl rfl ev_assign ?_
      refine RL.nil ?_
      refine thenN ?_
      exact ⟨k - 1, by omega, (z) + ((((fp.firm ++ fp.ws.flatten)).length : Int)), i + 1, rfl, rfl, rfl, (hN.sub [1] (by decide) rfl), by omega, by rw [hz, hst]; omega⟩
    · skip
      refine RW.exit ?_
      refine thenX ?_
      refine thenX ?_
      refine blockHit ?_
      refine thenN ?_
      refine RW.seq ?_
      have hi_ : i = hs.length := by omega
      rw [hi_, List.take_of_length_le (by omega)] at hz
      refine RW.region ?_
      refine RL.ev rfl rfl ev_move ?_
      refine RL.ev rfl rfl ev_assign ?_
      refine RL.nil ?_
      refine thenN ?_
      refine RW.ret ?_
      refine retI (RV.tmp rfl) ?_
      exact ⟨congrArg (Value.int .i64) hz, hN.ext0⟩

set_option maxHeartbeats 4000000 in
set_option maxRecDepth 100000 in
/-- postroad/postroadref04.Loose -/
theorem refLoose_calls (d : Dk) (Lv : Value) (hs : List FH) (n : Nat) (w : World) (hL : Sm fcells w Lv hs) (hel : FEls none_ w hs d.fs) (hfit : Fits n d) (hn : n ≤ 1048576) : Gives Try.prog 43 #[.agg #[.int .i64 d.room, Lv]] w fun r w' => r = .int .i64 ((loose d.fs : Nat) : Int) ∧ Ext w w' := by
  refine Gives.start Try.func43 rfl (Nat.le_of_ble_eq_true rfl) ?_
  rw [args1]
  have hN := Now.nil w none_
  have hfs := hfit.size
  have hfr := hfit.room
  have hfl := hfit.loose
  have hff := hfit.files
  have hle := hel.1
  refine RW.seq ?_
  refine RW.region ?_
  refine RL.op rfl rfl (opN_box (cs := [.int .i64 (d.room), Lv]) rfl rfl hN ?_)
  intro g1 w1 hN_
  clear hN
  have hN : Now w none_ w1 [_] := hN_
  clear hN_
  refine RL.ev rfl rfl ev_assign ?_
  refine RL.nil ?_
  refine thenN ?_
  refine RW.seq ?_
  refine RW.region ?_
  refine RL.ev rfl rfl ev_assign ?_
  refine RL.nil ?_
  refine thenN ?_
  refine RW.seq ?_
  refine RW.seq ?_
  refine RW.region ?_
  refine RL.ev rfl rfl ev_assign ?_
  refine RL.nil ?_
  refine thenN ?_
  refine RW.block ?_
  refine RW.loop (fun k R0 w0' => ∃ z : Int, ∃ i : Nat, R0 1 = .pointer (some ⟨g1, 0, none⟩) ∧ R0 3 = .int .i64 (z) ∧ R0 4 = .int .i64 ((i : Int)) ∧ Now w none_ w0' [.blk g1 [.int .i64 (d.room), Lv] 45] ∧ (i + k = hs.length) ∧ (z = (loose (d.fs.take i) : Nat))) (hs.length) ?_ ?_
  · skip
    exact ⟨0, 0, rfl, rfl, rfl, hN, by omega, rfl⟩
  · skip
    clear hN
    rintro k R0 w0' ⟨z, i, hr1_, hr3_, hr4_, hN, hik, hz⟩
    have hR_ : ∃ R0_, R0 = (upd (upd (upd R0_ 1 _) 3 _) 4 _) := ⟨R0, by rw [upd_self hr1_, upd_self hr3_, upd_self hr4_]⟩
    obtain ⟨R0_, rfl⟩ := hR_
    clear hr1_ hr3_ hr4_
    refine RW.seq ?_
    refine RW.seq ?_
    refine RW.region ?_
    refine RL.ev rfl rfl ev_move ?_
    refine RL.ev rfl rfl (ev_fieldAddr Try.underlying45 rfl sz43 (by decide) rfl) ?_
    refine RL.ev rfl rfl (ev_loadB Try.underlying43 rfl rfl (hN.blk 0 rfl) rfl) ?_
    have hL_2 := (hL.o.now hN).len_le
    refine RL.ev rfl rfl (ev_lenM Try.underlying43 (hL.o.now hN) rfl) ?_
    refine RL.ev rfl rfl (ev_lss rfl rfl) ?_
    refine RL.nil ?_
    refine thenN ?_
    refine RW.condP _ rfl (fun hlt => ?_) (fun hlt => ?_)
    · skip
      refine RW.skip ?_
      refine thenN ?_
      refine RW.seq ?_
      refine RW.block ?_
      refine RW.region ?_
      refine RL.ev rfl rfl ev_move ?_
      refine RL.ev rfl rfl (ev_fieldAddr Try.underlying45 rfl sz43 (by decide) rfl) ?_
      refine RL.ev rfl rfl (ev_loadB Try.underlying43 rfl rfl (hN.blk 0 rfl) rfl) ?_
      refine RL.ev rfl rfl ev_move ?_
      refine RL.ev rfl rfl (ev_indexM Try.underlying43 sz78 fcells_len (by decide) (hL.o.now hN) rfl rfl (by omega) (by omega)) ?_
      have hOb_ := FEls.get hel i (by omega)
      obtain ⟨hp, fp, whsp, hap, hfp, hnp, hAp, hBp, hCp⟩ := hOb_
      refine RL.ev rfl rfl (ev_fieldM (m := i) (b := 0) Try.underlying78 rfl sz69 (by decide) fcells_len (hL.o.now hN) hap rfl rfl) ?_
      have hfm := List.mem_of_getElem? hfp
      have hln := hfit.fileLen2 hfm
      have hlw := hfit.fileWs2 hn hfm
      have hwl := hCp.1
      have hst := loose_take hfp
      have hsl := loose_take_le d.fs (i + 1)
      refine RL.ev rfl rfl (ev_loadMF (m := i) (j := 2) (a := hp) Try.underlying69 rfl fcells_len (hL.o.now hN) rfl hap rfl) ?_
      have hL_3 := (hBp.now hN).len_le
      refine RL.ev rfl rfl (ev_lenS Try.underlying69 (hBp.now hN) rfl) ?_
      refine RL.ev rfl rfl (ev_arith rfl rfl rfl (add64 (by omega) (by omega))) ?_
      refine RL.ev rfl rfl ev_assign ?_
      refine RL.nil ?_
      refine blockN ?_
      refine thenN ?_
      refine RW.region ?_
      refine RL.ev rfl rfl ev_move ?_
      refine RL.ev rfl rfl (ev_arith rfl rfl rfl (add64 (by omega) (by omega))) ?_
      refine RL.ev rfl rfl ev_assign ?_
      refine RL.nil ?_
      refine thenN ?_
      exact ⟨k - 1, by omega, z + (whsp.length : Int), i + 1, rfl, rfl, rfl, hN, by omega, by rw [hz, hst]; omega⟩
    · skip
      refine RW.exit ?_
      refine thenX ?_
      refine thenX ?_
      refine blockHit ?_
      refine thenN ?_
      refine RW.seq ?_
      have hi_ : i = hs.length := by omega
      rw [hi_, List.take_of_length_le (by omega)] at hz
      refine RW.region ?_
      refine RL.ev rfl rfl ev_move ?_
      refine RL.ev rfl rfl ev_assign ?_
      refine RL.nil ?_
      refine thenN ?_
      refine RW.ret ?_
      refine retI (RV.tmp rfl) ?_
      exact ⟨congrArg (Value.int .i64) hz, hN.ext0⟩

set_option maxHeartbeats 4000000 in
set_option maxRecDepth 100000 in
/-- postroad/postroadref04.Names -/
theorem refNames_calls (d : Dk) (Lv : Value) (hs : List FH) (n : Nat) (w : World) (hL : Sm fcells w Lv hs) (hel : FEls none_ w hs d.fs) (hfit : Fits n d) (hn : n ≤ 1048576) : Gives Try.prog 42 #[.agg #[.int .i64 d.room, Lv]] w fun r w' => Own str 9 w' w.heap.size r (names d.fs) ∧ Ext w w' := by
  refine Gives.start Try.func42 rfl (Nat.le_of_ble_eq_true rfl) ?_
  rw [args1]
  have hN := Now.nil w none_
  have hfs := hfit.size
  have hfr := hfit.room
  have hfl := hfit.loose
  have hff := hfit.files
  have hle := hel.1
  refine RW.seq ?_
  refine RW.region ?_
  refine RL.op rfl rfl (opN_box (cs := [.int .i64 (d.room), Lv]) rfl rfl hN ?_)
  intro g1 w1 hN_
  clear hN
  have hN : Now w none_ w1 [_] := hN_
  clear hN_
  refine RL.ev rfl rfl ev_assign ?_
  refine RL.nil ?_
  refine thenN ?_
  refine RW.seq ?_
  refine RW.region ?_
  refine RL.ev rfl rfl ev_assign ?_
  refine RL.nil ?_
  refine thenN ?_
  refine RW.seq ?_
  refine RW.seq ?_
  refine RW.region ?_
  refine RL.ev rfl rfl ev_assign ?_
  refine RL.nil ?_
  refine thenN ?_
  refine RW.block ?_
  replace hN := hN.addNil str 9
  refine RW.loop (fun k R0 w0' => ∃ va : Value, ∃ acc : List (List UInt8), ∃ i : Nat, R0 1 = .pointer (some ⟨g1, 0, none⟩) ∧ R0 3 = va ∧ R0 4 = .int .i64 ((i : Int)) ∧ Now w none_ w0' [.own str 9 (va) (acc), .blk g1 [.int .i64 (d.room), Lv] 45] ∧ (i + k = hs.length) ∧ (acc = names (d.fs.take i)) ∧ (acc.length = i)) (hs.length) ?_ ?_
  · skip
    exact ⟨.slice none 0 0, [], 0, rfl, rfl, rfl, hN, by omega, rfl, rfl⟩
  · skip
    clear hN
    rintro k R0 w0' ⟨va, acc, i, hr1_, hr3_, hr4_, hN, hik, ha, hal⟩
    have hR_ : ∃ R0_, R0 = (upd (upd (upd R0_ 1 _) 3 _) 4 _) := ⟨R0, by rw [upd_self hr1_, upd_self hr3_, upd_self hr4_]⟩
    obtain ⟨R0_, rfl⟩ := hR_
    clear hr1_ hr3_ hr4_
    refine RW.seq ?_
    refine RW.seq ?_
    refine RW.region ?_
    refine RL.ev rfl rfl ev_move ?_
    refine RL.ev rfl rfl (ev_fieldAddr Try.underlying45 rfl sz43 (by decide) rfl) ?_
    refine RL.ev rfl rfl (ev_loadB Try.underlying43 rfl rfl (hN.blk 1 rfl) rfl) ?_
    have hL_3 := (hL.o.now hN).len_le
    refine RL.ev rfl rfl (ev_lenM Try.underlying43 (hL.o.now hN) rfl) ?_
    refine RL.ev rfl rfl (ev_lss rfl rfl) ?_
    refine RL.nil ?_
    refine thenN ?_
    refine RW.condP _ rfl (fun hlt => ?_) (fun hlt => ?_)
    · skip
      refine RW.skip ?_
      refine thenN ?_
      refine RW.seq ?_
      refine RW.block ?_
      refine RW.region ?_
      refine RL.ev rfl rfl ev_move ?_
      refine RL.ev rfl rfl (ev_fieldAddr Try.underlying45 rfl sz43 (by decide) rfl) ?_
      refine RL.ev rfl rfl (ev_loadB Try.underlying43 rfl rfl (hN.blk 1 rfl) rfl) ?_
      refine RL.ev rfl rfl ev_move ?_
      refine RL.ev rfl rfl (ev_indexM Try.underlying43 sz78 fcells_len (by decide) (hL.o.now hN) rfl rfl (by omega) (by omega)) ?_
      have hOb_ := FEls.get hel i (by omega)
      obtain ⟨hp, fp, whsp, hap, hfp, hnp, hAp, hBp, hCp⟩ := hOb_
      refine RL.ev rfl rfl (ev_fieldM (m := i) (b := 0) Try.underlying78 rfl sz9 (by decide) fcells_len (hL.o.now hN) hap rfl rfl) ?_
      refine RL.ev rfl rfl (ev_loadMF (m := i) (j := 0) (a := hp) Try.underlying9 rfl fcells_len (hL.o.now hN) rfl hap rfl) ?_
      refine RL.op rfl rfl (opN_lit (enc := str) (l := [fp.name]) (xs := [.tmp 18]) Try.underlying36 sz9 zr9 rfl (by show [str hp.1] = [str fp.name]; rw [hnp]) (fun _ => rfl) rfl (by decide) (by decide) hN ?_)
      intro g4 w4 hN_
      clear hN
      have hN : Now w none_ w4 [_, _, _] := hN_
      clear hN_
      refine RL.op rfl rfl (opN_append Try.underlying36 inf9 rfl (fun _ => rfl) hN 1 rfl rfl (hN.sl 0 rfl) rfl (by simp only [List.length_singleton, List.length_cons, List.length_nil]; omega) (by decide) ?_)
      intro v5 w5 hN_
      clear hN
      have hN : Now w none_ w5 [_, _, _] := hN_
      clear hN_
      refine RL.ev rfl rfl ev_assign ?_
      refine RL.nil ?_
      refine blockN ?_
      refine thenN ?_
      refine RW.region ?_
      refine RL.ev rfl rfl ev_move ?_
      refine RL.ev rfl rfl (ev_arith rfl rfl rfl (add64 (by omega) (by omega))) ?_
      refine RL.ev rfl rfl ev_assign ?_
      refine RL.nil ?_
      refine thenN ?_
      exact ⟨k - 1, by omega, v5, acc ++ [fp.name], i + 1, rfl, rfl, rfl, (hN.sub [1, 2] (by decide) rfl), by omega, by rw [ha, take_at hfp]; unfold names; rw [List.map_append]; rfl, by rw [List.length_append, hal]; rfl⟩
    · skip
      refine RW.exit ?_
      refine thenX ?_
      refine thenX ?_
      refine blockHit ?_
      refine thenN ?_
      refine RW.seq ?_
      refine RW.region ?_
      refine RL.ev rfl rfl ev_move ?_
      refine RL.ev rfl rfl ev_assign ?_
      refine RL.nil ?_
      refine thenN ?_
      refine RW.ret ?_
      refine retI (RV.tmp rfl) ?_
      have hi_ : i = hs.length := by omega
      rw [hi_, List.take_of_length_le (by omega)] at ha
      subst ha
      exact ⟨hN.ownOut 0 rfl, hN.ext0⟩

set_option maxHeartbeats 4000000 in
set_option maxRecDepth 100000 in
/-- postroad/postroadref04.Read -/
theorem refRead_calls (d : Dk) (l : List UInt8) (Lv : Value) (hs : List FH) (n : Nat) (w : World) (hL : Sm fcells w Lv hs) (hel : FEls none_ w hs d.fs) (hfit : Fits n d) (hn : n ≤ 1048576) (res : Bs × Int) (hres : read d l = res) : Gives Try.prog 22 #[.agg #[.int .i64 d.room, Lv], str l] w fun r w' => ∃ v, r = .tuple #[v, .int .i64 res.2] ∧ Own vb 5 w' w.heap.size v res.1 ∧ Ext w w' := by
  refine Gives.start Try.func22 rfl (Nat.le_of_ble_eq_true rfl) ?_
  rw [args2]
  have hN := Now.nil w none_
  have hfs := hfit.size
  have hfr := hfit.room
  have hfl := hfit.loose
  have hff := hfit.files
  have hle := hel.1
  refine RW.seq ?_
  refine RW.region ?_
  refine RL.op rfl rfl (opN_box (cs := [.int .i64 (d.room), Lv]) rfl rfl hN ?_)
  intro g1 w1 hN_
  clear hN
  have hN : Now w none_ w1 [_] := hN_
  clear hN_
  refine RL.ev rfl rfl ev_assign ?_
  refine RL.ev rfl rfl ev_assign ?_
  refine RL.nil ?_
  refine thenN ?_
  refine RW.seq ?_
  have hOb_ := findH_cases hel l
  rcases hOb_ with ⟨hfd, hfh⟩ | ⟨f, h, whs, hfd, hfh, hnf, hA, hB, hC⟩
  · skip
    have hr_ : res = ([], 4) := by rw [← hres]; unfold Disk.read; rw [hfd]
    subst hr_
    refine RW.region ?_
    refine RL.ev rfl rfl (ev_loadAll (cs := [.int .i64 (d.room), Lv]) Try.underlying45 rfl sz45 rfl (hN.blk 0 rfl)) ?_
    refine RL.ev rfl rfl ev_move ?_
    refine RL.op rfl rfl (op_call2 Try.func37 rfl rfl rfl rfl ((refFind_calls (d.room) l _ hs _ (hL.o.now hN) none hfh).mono ?_))
    rintro _ w2 ⟨rfl, he_⟩
    replace hN := hN.ext he_
    clear he_
    refine RL.ev rfl rfl ev_move ?_
    refine RL.ev rfl rfl (ev_extract rfl rfl) ?_
    refine RL.ev rfl rfl (ev_extract rfl rfl) ?_
    refine RL.op rfl rfl (opN_alloc (cs := [.string ByteArray.empty, .slice none 0 0, .slice none 0 0]) zero78 rfl hN ?_)
    intro g3 w3 hN_
    clear hN
    have hN : Now w none_ w3 [_, _] := hN_
    clear hN_
    refine RL.op rfl rfl (opN_storeAll (vs := [(str l), .slice none 0 0, .slice none 0 0]) sz78 rfl rfl rfl (by intro u hu; simp only [List.mem_cons, List.not_mem_nil, or_false] at hu; rcases hu with rfl | rfl | rfl <;> first | rfl) hN 0 rfl rfl ?_)
    intro w4 hN_
    clear hN
    have hN : Now w none_ w4 [_, _] := hN_
    clear hN_
    refine RL.ev rfl rfl ev_assign ?_
    refine RL.nil ?_
    refine thenN ?_
    refine RW.seq ?_
    refine RW.seq ?_
    refine RW.region ?_
    refine RL.ev rfl rfl ev_move ?_
    refine RL.ev rfl rfl (ev_not rfl) ?_
    refine RL.nil ?_
    refine thenN ?_
    refine RW.condT rfl ?_
    refine RW.seq ?_
    refine RW.region ?_
    refine RL.ev rfl rfl ev_assign ?_
    refine RL.ev rfl rfl ev_assign ?_
    refine RL.nil ?_
    refine thenN ?_
    refine RW.ret ?_
    refine thenR ?_
    refine retI (RV.tmp2 rfl) ?_
    exact ⟨_, rfl, Own.nil _ _ _ _, hN.ext0⟩
  · skip
    have hr_ : res = (f.firm ++ f.ws.flatten, 0) := by rw [← hres]; unfold Disk.read; rw [hfd]; rfl
    subst hr_
    have hfm := (find_some hfd).1
    have hln := hfit.fileLen2 hfm
    have hlw := hfit.fileWs2 hn hfm
    refine RW.region ?_
    refine RL.ev rfl rfl (ev_loadAll (cs := [.int .i64 (d.room), Lv]) Try.underlying45 rfl sz45 rfl (hN.blk 0 rfl)) ?_
    refine RL.ev rfl rfl ev_move ?_
    refine RL.op rfl rfl (op_call2 Try.func37 rfl rfl rfl rfl ((refFind_calls (d.room) l _ hs _ (hL.o.now hN) (some h) hfh).mono ?_))
    rintro _ w5 ⟨rfl, he_⟩
    replace hN := hN.ext he_
    clear he_
    refine RL.ev rfl rfl ev_move ?_
    refine RL.ev rfl rfl (ev_extract rfl rfl) ?_
    refine RL.ev rfl rfl (ev_extract rfl rfl) ?_
    refine RL.op rfl rfl (opN_alloc (cs := [.string ByteArray.empty, .slice none 0 0, .slice none 0 0]) zero78 rfl hN ?_)
    intro g6 w6 hN_
    clear hN
    have hN : Now w none_ w6 [_, _] := hN_
    clear hN_
    refine RL.op rfl rfl (opN_storeAll (vs := [(str h.1), (vh h.2.1), (vh h.2.2)]) sz78 rfl rfl rfl (by intro u hu; simp only [List.mem_cons, List.not_mem_nil, or_false] at hu; rcases hu with rfl | rfl | rfl <;> first | rfl) hN 0 rfl rfl ?_)
    intro w7 hN_
    clear hN
    have hN : Now w none_ w7 [_, _] := hN_
    clear hN_
    refine RL.ev rfl rfl ev_assign ?_
    refine RL.nil ?_
    refine thenN ?_
    refine RW.seq ?_
    refine RW.seq ?_
    refine RW.region ?_
    refine RL.ev rfl rfl ev_move ?_
    refine RL.ev rfl rfl (ev_not rfl) ?_
    refine RL.nil ?_
    refine thenN ?_
    refine RW.condF rfl ?_
    refine RW.skip ?_
    refine thenN ?_
    refine RW.seq ?_
    refine RW.region ?_
    refine RL.ev rfl rfl (ev_loadAll (cs := [(str h.1), (vh h.2.1), (vh h.2.2)]) Try.underlying78 rfl sz78 rfl (hN.blk 0 rfl)) ?_
    refine RL.op rfl rfl (op_call1 Try.func40 rfl rfl rfl ((refAll_calls h _ f.firm f.ws _ (hA.now hN) (hB.now hN) (hC.nowN hN) hln hlw).mono ?_))
    rintro v8 w8 ⟨ho_, he_⟩
    have hN_ := hN.pushOwn (l := (f.firm ++ f.ws.flatten)) ho_ he_
    clear ho_ he_
    clear hN
    have hN : Now w none_ w8 [_, _, _] := hN_
    clear hN_
    refine RL.ev rfl rfl ev_assign ?_
    refine RL.ev rfl rfl ev_assign ?_
    refine RL.nil ?_
    refine thenN ?_
    refine RW.ret ?_
    refine retI (RV.tmp2 rfl) ?_
    exact ⟨_, rfl, hN.ownOut 0 rfl, hN.ext0⟩

set_option maxHeartbeats 4000000 in
set_option maxRecDepth 100000 in
/-- postroad/postroadref04.SameNames -/
theorem sameNames_calls (a b : Value) (x y : List (List UInt8)) (w : World) (ha : Sl str w a x) (hb : Sl str w b y) : Gives Try.prog 19 #[a, b] w fun r w' => r = .bool (decide (x = y)) ∧ Ext w w' := by
  refine Gives.start Try.func19 rfl (Nat.le_of_ble_eq_true rfl) ?_
  rw [args2]
  have hN := Now.nil w none_
  refine RW.seq ?_
  refine RW.region ?_
  refine RL.ev rfl rfl ev_assign ?_
  refine RL.nil ?_
  refine thenN ?_
  refine RW.seq ?_
  refine RW.seq ?_
  refine RW.region ?_
  refine RL.ev rfl rfl ev_move ?_
  have hL_1 := (ha.ext hN.ext0).len_le
  refine RL.ev rfl rfl (ev_lenS Try.underlying36 (ha.ext hN.ext0) rfl) ?_
  refine RL.ev rfl rfl ev_move ?_
  have hL_2 := (hb.ext hN.ext0).len_le
  refine RL.ev rfl rfl (ev_lenS Try.underlying36 (hb.ext hN.ext0) rfl) ?_
  refine RL.ev rfl rfl (ev_neq rfl rfl) ?_
  refine RL.nil ?_
  refine thenN ?_
  refine RW.condP _ rfl (fun hne => ?_) (fun hne => ?_)
  · skip
    refine RW.seq ?_
    refine RW.region ?_
    refine RL.ev rfl rfl ev_assign ?_
    refine RL.nil ?_
    refine thenN ?_
    refine RW.ret ?_
    refine thenR ?_
    refine retI (RV.tmp rfl) ?_
    exact ⟨congrArg Value.bool (decide_eq_false (fun e : x = y => hne (by rw [e]))).symm, hN.ext0⟩
  · skip
    refine RW.skip ?_
    refine thenN ?_
    refine RW.seq ?_
    refine RW.seq ?_
    refine RW.region ?_
    refine RL.ev rfl rfl ev_assign ?_
    refine RL.nil ?_
    refine thenN ?_
    refine RW.block ?_
    refine RW.loop (fun k R0 w0' => ∃ i : Nat, R0 0 = a ∧ R0 1 = b ∧ R0 5 = .int .i64 ((i : Int)) ∧ Now w none_ w0' [] ∧ (i + k = x.length) ∧ (x.length = y.length) ∧ (x.take i = y.take i)) (x.length) ?_ ?_
    · skip
      exact ⟨0, rfl, rfl, rfl, hN, by omega, by omega, rfl⟩
    · skip
      clear hN
      rintro k R0 w0' ⟨i, hr0_, hr1_, hr5_, hN, hik, hxy, ht⟩
      have hR_ : ∃ R0_, R0 = (upd (upd (upd R0_ 0 _) 1 _) 5 _) := ⟨R0, by rw [upd_self hr0_, upd_self hr1_, upd_self hr5_]⟩
      obtain ⟨R0_, rfl⟩ := hR_
      clear hr0_ hr1_ hr5_
      refine RW.seq ?_
      refine RW.seq ?_
      refine RW.region ?_
      refine RL.ev rfl rfl ev_move ?_
      refine RL.ev rfl rfl ev_move ?_
      refine RL.ev rfl rfl (ev_lenS Try.underlying36 (ha.ext hN.ext0) rfl) ?_
      refine RL.ev rfl rfl (ev_lss rfl rfl) ?_
      refine RL.nil ?_
      refine thenN ?_
      refine RW.condP _ rfl (fun hlt => ?_) (fun hlt => ?_)
      · skip
        refine RW.skip ?_
        refine thenN ?_
        refine RW.seq ?_
        refine RW.block ?_
        refine RW.seq ?_
        refine RW.draw rfl (fun u => Now w none_ u []) ?_
        replace hN := hN.ext (Ext.drew w0')
        refine RA.take (i := 0) rfl rfl (by kernel_rfl) (by kernel_rfl) (by kernel_rfl) (by intro _ _ _ h; exact h) rfl hN (fun w hS => ev_move) ?_
        refine RA.take (i := 1) rfl rfl (by kernel_rfl) (by kernel_rfl) (by kernel_rfl) (by intro _ _ _ h; exact h) rfl hN (fun w hS => ev_move) ?_
        refine RA.take (i := 2) rfl rfl (by kernel_rfl) (by kernel_rfl) (by kernel_rfl) (by intro _ _ _ h; exact h) rfl hN (fun w hS => (ev_index Try.underlying36 sz9 (ha.ext hS.ext0) rfl rfl (by omega) (by omega))) ?_
        have hOb_ : ∃ a_, (x)[i]? = some a_ := ⟨_, List.getElem?_eq_getElem (by omega)⟩
        obtain ⟨ap, hap⟩ := hOb_
        refine RA.take (i := 3) rfl rfl (by kernel_rfl) (by kernel_rfl) (by kernel_rfl) (by intro _ _ _ h; exact h) rfl hN (fun w hS => (ev_loadG (m := i) (a := ap) Try.underlying9 rfl (ha.ext hS.ext0) rfl hap)) ?_
        refine RA.take (i := 4) rfl rfl (by kernel_rfl) (by kernel_rfl) (by kernel_rfl) (by intro _ _ _ h; exact h) rfl hN (fun w hS => ev_move) ?_
        refine RA.take (i := 5) rfl rfl (by kernel_rfl) (by kernel_rfl) (by kernel_rfl) (by intro _ _ _ h; exact h) rfl hN (fun w hS => ev_move) ?_
        refine RA.take (i := 6) rfl rfl (by kernel_rfl) (by kernel_rfl) (by kernel_rfl) (by intro _ _ _ h; exact h) rfl hN (fun w hS => (ev_index Try.underlying36 sz9 (hb.ext hS.ext0) rfl rfl (by omega) (by omega))) ?_
        have hOb_ : ∃ a_, (y)[i]? = some a_ := ⟨_, List.getElem?_eq_getElem (by omega)⟩
        obtain ⟨aq, haq⟩ := hOb_
        refine RA.take (i := 7) rfl rfl (by kernel_rfl) (by kernel_rfl) (by kernel_rfl) (by intro _ _ _ h; exact h) rfl hN (fun w hS => (ev_loadG (m := i) (a := aq) Try.underlying9 rfl (hb.ext hS.ext0) rfl haq)) ?_
        refine RA.take (i := 8) rfl rfl (by kernel_rfl) (by kernel_rfl) (by kernel_rfl) (by intro _ _ _ h; exact h) rfl hN (fun w hS => (ev_strNe rfl rfl)) ?_
        refine RA.done (by kernel_rfl) ?_
        refine thenN ?_
        refine RW.condP _ rfl (fun hne2 => ?_) (fun hne2 => ?_)
        · skip
          refine RW.seq ?_
          refine RW.region ?_
          refine RL.ev rfl rfl ev_assign ?_
          refine RL.nil ?_
          refine thenN ?_
          refine RW.ret ?_
          refine blockR ?_
          refine thenR ?_
          refine thenR ?_
          refine blockR ?_
          refine thenR ?_
          refine retI (RV.tmp rfl) ?_
          exact ⟨congrArg Value.bool (decide_eq_false (fun e : x = y => hne2 (by subst e; rw [hap] at haq; exact Option.some.inj haq))).symm, hN.ext0⟩
        · skip
          refine RW.skip ?_
          refine blockN ?_
          refine thenN ?_
          refine RW.region ?_
          refine RL.ev rfl rfl ev_move ?_
          refine RL.ev rfl rfl (ev_arith rfl rfl rfl (add64 (by omega) (by omega))) ?_
          refine RL.ev rfl rfl ev_assign ?_
          refine RL.nil ?_
          refine thenN ?_
          exact ⟨k - 1, by omega, i + 1, rfl, rfl, rfl, hN, by omega, by omega, by rw [take_at hap, take_at haq, ht, Decidable.not_not.1 hne2]⟩
      · skip
        refine RW.exit ?_
        refine thenX ?_
        refine thenX ?_
        refine blockHit ?_
        refine thenN ?_
        refine RW.seq ?_
        refine RW.region ?_
        refine RL.ev rfl rfl ev_assign ?_
        refine RL.nil ?_
        refine thenN ?_
        refine RW.ret ?_
        refine retI (RV.tmp rfl) ?_
        rw [show i = x.length by omega, List.take_length, List.take_of_length_le (by omega)] at ht
        exact ⟨congrArg Value.bool (decide_eq_true ht).symm, hN.ext0⟩

theorem sameNames_true {a b : Value} {x y : List (List UInt8)} {w : World} (ha : Sl str w a x) (hb : Sl str w b y) (h : x = y) : Gives Try.prog 19 #[a, b] w fun r w' => r = .bool true ∧ Ext w w' :=
  (sameNames_calls a b x y w ha hb).mono fun r w' hr => by rw [decide_eq_true h] at hr; exact hr

end Go.Proofs.Ytlblpiapeieofaa
