import Derived.Test.YtlblpiapeieofaaDiskW8
import Derived.Test.YtlblpiapeieofaaDiskR4
set_option linter.unusedVariables false
set_option linter.unusedSimpArgs false
namespace Go.Proofs.Ytlblpiapeieofaa
open Go.RowKit Go.Rl

open Go.Disk
set_option maxHeartbeats 4000000 in
set_option maxRecDepth 100000 in
/-- postroad/postroadlaw04.same -/
theorem dsame_calls (g : Nat) (d : Dk) (n : Nat) (Lv : Value) (hs : List FH) (w : World) (hD : DkR 64 71 w g d) (hL : Sm fcells w Lv hs) (hel : FEls none_ w hs d.fs) (hfit : Fits n d) (hn : n ≤ 1048576) : Gives Try.prog 23 #[.pointer (some ⟨g, 0, none⟩), .agg #[.int .i64 d.room, Lv]] w fun r w' => r = .bool true ∧ Ext w w' := by
  refine Gives.start Try.func23 rfl (Nat.le_of_ble_eq_true rfl) ?_
  rw [args2]
  have hN := Now.nil w none_
  have hfs := hfit.size
  have hfr := hfit.room
  have hfl := hfit.loose
  have hff := hfit.files
  have hle := hel.1
  refine RW.seq ?_
  refine RW.region ?_
  refine RL.op rfl rfl (opN_box (cs := [.int .i64 (d.room), Lv]) rfl rfl hN ?_)
  intro g1 w1 hN_
  clear hN
  have hN : Now w none_ w1 [_] := hN_
  clear hN_
  refine RL.ev rfl rfl ev_assign ?_
  refine RL.nil ?_
  refine thenN ?_
  refine RW.seq ?_
  refine RW.seq ?_
  refine RW.draw rfl (fun u => Now w none_ u [.blk g1 [.int .i64 (d.room), Lv] 45]) ?_
  replace hN := hN.ext (Ext.drew w1)
  refine RA.take (i := 0) rfl rfl (by kernel_rfl) (by kernel_rfl) (by kernel_rfl) (by intro _ _ _ h; exact h) rfl hN (fun w hS => ev_move) ?_
  refine RA.take (i := 2) rfl rfl (by kernel_rfl) (by kernel_rfl) (by kernel_rfl) (by intro _ _ _ h; exact h) rfl hN (fun w hS => (ev_loadAll (cs := [.int .i64 (d.room), Lv]) Try.underlying45 rfl sz45 rfl (hS.blk 0 rfl))) ?_
  refine RA.only (i := 1) (by kernel_rfl) rfl rfl rfl (op_call1 Try.func16 rfl rfl rfl ((names_calls _ d _ _ (DkR.ext hD hN.ext0) hfit hn).mono ?_))
  rintro v2 w2 ⟨ho_, he_⟩
  have hN_ := hN.pushOwn (l := names d.fs) ho_ he_
  clear ho_ he_
  clear hN
  have hN : Now w none_ w2 [_, _] := hN_
  clear hN_
  refine ⟨(hN.sub [1] (by decide) rfl), ?_⟩
  refine RA.only (i := 3) (by kernel_rfl) rfl rfl rfl (op_call1 Try.func42 rfl rfl rfl ((refNames_calls d _ hs _ _ (hL.o.now hN) (FEls.nowN hel hN) hfit hn).mono ?_))
  rintro v3 w3 ⟨ho_, he_⟩
  have hN_ := hN.pushOwn (l := names d.fs) ho_ he_
  clear ho_ he_
  clear hN
  have hN : Now w none_ w3 [_, _, _] := hN_
  clear hN_
  refine ⟨(hN.sub [2] (by decide) rfl), ?_⟩
  refine RA.only (i := 4) (by kernel_rfl) rfl rfl rfl (op_call2 Try.func19 rfl rfl rfl rfl ((sameNames_true (hN.sl 1 rfl) (hN.sl 0 rfl) rfl).mono ?_))
  rintro _ w4 ⟨rfl, he_⟩
  replace hN := hN.ext he_
  clear he_
  refine ⟨(hN.sub [2] (by decide) rfl), ?_⟩
  refine RA.take (i := 5) rfl rfl (by kernel_rfl) (by kernel_rfl) (by kernel_rfl) (by intro _ _ _ h; exact h) rfl (hN.sub [2] (by decide) rfl) (fun w hS => (ev_not rfl)) ?_
  refine RA.take (i := 6) rfl rfl (by kernel_rfl) (by kernel_rfl) (by kernel_rfl) (by intro _ _ _ h; exact h) rfl (hN.sub [2] (by decide) rfl) (fun w hS => ev_move) ?_
  refine RA.takeOn (i := 7) rfl rfl rfl (by decide) rfl (by kernel_rfl) (by kernel_rfl) (by kernel_rfl) (by intro _ _ _ h; exact h) rfl (hN.sub [2] (by decide) rfl) (fun w hS => ev_move) ?_
  refine RA.takeOn (i := 9) rfl rfl rfl (by decide) rfl (by kernel_rfl) (by kernel_rfl) (by kernel_rfl) (by intro _ _ _ h; exact h) rfl (hN.sub [2] (by decide) rfl) (fun w hS => (ev_loadAll (cs := [.int .i64 (d.room), Lv]) Try.underlying45 rfl sz45 rfl (hS.blk 0 rfl))) ?_
  refine RA.onlyOn (i := 8) (by kernel_rfl) rfl rfl rfl (by decide) rfl rfl (op_call1 Try.func24 rfl rfl rfl ((size_calls _ d _ _ (DkR.ext hD hN.ext0) hfit hn).mono ?_))
  rintro _ w5 ⟨rfl, he_⟩
  replace hN := hN.ext he_
  clear he_
  refine ⟨(hN.sub [2] (by decide) rfl), ?_⟩
  refine RA.onlyOn (i := 10) (by kernel_rfl) rfl rfl rfl (by decide) rfl rfl (op_call1 Try.func38 rfl rfl rfl ((refSize_calls d _ hs _ _ (hL.o.now hN) (FEls.nowN hel hN) hfit hn).mono ?_))
  rintro _ w6 ⟨rfl, he_⟩
  replace hN := hN.ext he_
  clear he_
  refine ⟨(hN.sub [2] (by decide) rfl), ?_⟩
  refine RA.takeOn (i := 11) rfl rfl rfl (by decide) rfl (by kernel_rfl) (by kernel_rfl) (by kernel_rfl) (by intro _ _ _ h; exact h) rfl (hN.sub [2] (by decide) rfl) (fun w hS => (ev_false (ev_neq rfl rfl) (fun h => h rfl))) ?_
  refine RA.take (i := 12) rfl rfl (by kernel_rfl) (by kernel_rfl) (by kernel_rfl) (by intro _ _ _ h; exact h) rfl (hN.sub [2] (by decide) rfl) (fun w hS => (ev_pickF rfl)) ?_
  refine RA.take (i := 13) rfl rfl (by kernel_rfl) (by kernel_rfl) (by kernel_rfl) (by intro _ _ _ h; exact h) rfl (hN.sub [2] (by decide) rfl) (fun w hS => ev_move) ?_
  refine RA.takeOn (i := 14) rfl rfl rfl (by decide) rfl (by kernel_rfl) (by kernel_rfl) (by kernel_rfl) (by intro _ _ _ h; exact h) rfl (hN.sub [2] (by decide) rfl) (fun w hS => ev_move) ?_
  refine RA.takeOn (i := 16) rfl rfl rfl (by decide) rfl (by kernel_rfl) (by kernel_rfl) (by kernel_rfl) (by intro _ _ _ h; exact h) rfl (hN.sub [2] (by decide) rfl) (fun w hS => (ev_loadAll (cs := [.int .i64 (d.room), Lv]) Try.underlying45 rfl sz45 rfl (hS.blk 0 rfl))) ?_
  refine RA.onlyOn (i := 15) (by kernel_rfl) rfl rfl rfl (by decide) rfl rfl (op_call1 Try.func25 rfl rfl rfl ((loose_calls _ d _ _ (DkR.ext hD hN.ext0) hfit hn).mono ?_))
  rintro _ w7 ⟨rfl, he_⟩
  replace hN := hN.ext he_
  clear he_
  refine ⟨(hN.sub [2] (by decide) rfl), ?_⟩
  refine RA.onlyOn (i := 17) (by kernel_rfl) rfl rfl rfl (by decide) rfl rfl (op_call1 Try.func43 rfl rfl rfl ((refLoose_calls d _ hs _ _ (hL.o.now hN) (FEls.nowN hel hN) hfit hn).mono ?_))
  rintro _ w8 ⟨rfl, he_⟩
  replace hN := hN.ext he_
  clear he_
  refine ⟨(hN.sub [2] (by decide) rfl), ?_⟩
  refine RA.takeOn (i := 18) rfl rfl rfl (by decide) rfl (by kernel_rfl) (by kernel_rfl) (by kernel_rfl) (by intro _ _ _ h; exact h) rfl (hN.sub [2] (by decide) rfl) (fun w hS => (ev_false (ev_neq rfl rfl) (fun h => h rfl))) ?_
  refine RA.take (i := 19) rfl rfl (by kernel_rfl) (by kernel_rfl) (by kernel_rfl) (by intro _ _ _ h; exact h) rfl (hN.sub [2] (by decide) rfl) (fun w hS => (ev_pickF rfl)) ?_
  refine RA.done (by kernel_rfl) ?_
  refine thenN ?_
  refine RW.condF rfl ?_
  refine RW.skip ?_
  refine thenN ?_
  refine RW.seq ?_
  refine RW.seq ?_
  refine RW.region ?_
  refine RL.ev rfl rfl ev_assign ?_
  refine RL.nil ?_
  refine thenN ?_
  refine RW.block ?_
  refine RW.loop (fun k R0 w0' => ∃ i : Nat, R0 0 = .pointer (some ⟨g, 0, none⟩) ∧ R0 3 = .pointer (some ⟨g1, 0, none⟩) ∧ R0 5 = .int .i64 ((i : Int)) ∧ Now w none_ w0' [.own str 9 (v3) (names d.fs), .own str 9 (v2) (names d.fs), .blk g1 [.int .i64 (d.room), Lv] 45] ∧ (i + k = hs.length)) (hs.length) ?_ ?_
  · skip
    exact ⟨0, rfl, rfl, rfl, hN, by omega⟩
  · skip
    clear hN
    rintro k R0 w0' ⟨i, hr0_, hr3_, hr5_, hN, hik⟩
    have hR_ : ∃ R0_, R0 = (upd (upd (upd R0_ 0 _) 3 _) 5 _) := ⟨R0, by rw [upd_self hr0_, upd_self hr3_, upd_self hr5_]⟩
    obtain ⟨R0_, rfl⟩ := hR_
    clear hr0_ hr3_ hr5_
    refine RW.seq ?_
    refine RW.seq ?_
    refine RW.region ?_
    refine RL.ev rfl rfl ev_move ?_
    refine RL.ev rfl rfl (ev_fieldAddr Try.underlying45 rfl sz43 (by decide) rfl) ?_
    refine RL.ev rfl rfl (ev_loadB Try.underlying43 rfl rfl (hN.blk 2 rfl) rfl) ?_
    have hL_9 := (hL.o.now hN).len_le
    refine RL.ev rfl rfl (ev_lenM Try.underlying43 (hL.o.now hN) rfl) ?_
    refine RL.ev rfl rfl (ev_lss rfl rfl) ?_
    refine RL.nil ?_
    refine thenN ?_
    refine RW.condP _ rfl (fun hlt => ?_) (fun hlt => ?_)
    · skip
      refine RW.skip ?_
      refine thenN ?_
      refine RW.seq ?_
      refine RW.block ?_
      refine RW.seq ?_
      refine RW.region ?_
      refine RL.ev rfl rfl ev_move ?_
      refine RL.ev rfl rfl (ev_fieldAddr Try.underlying45 rfl sz43 (by decide) rfl) ?_
      refine RL.ev rfl rfl (ev_loadB Try.underlying43 rfl rfl (hN.blk 2 rfl) rfl) ?_
      refine RL.ev rfl rfl ev_move ?_
      refine RL.ev rfl rfl (ev_indexM Try.underlying43 sz78 fcells_len (by decide) (hL.o.now hN) rfl rfl (by omega) (by omega)) ?_
      have hOb_ := FEls.get hel i (by omega)
      obtain ⟨hp, fp, whsp, hap, hfp, hnp, hAp, hBp, hCp⟩ := hOb_
      refine RL.ev rfl rfl (ev_fieldM (m := i) (b := 0) Try.underlying78 rfl sz9 (by decide) fcells_len (hL.o.now hN) hap rfl rfl) ?_
      have hfm := List.mem_of_getElem? hfp
      have hln := hfit.fileLen2 hfm
      have hlw := hfit.fileWs2 hn hfm
      have hwl := hCp.1
      have hrd : read d hp.1 = (fp.firm ++ fp.ws.flatten, 0) := by rw [hnp]; exact read_mem hfit hfm
      refine RL.ev rfl rfl (ev_loadMF (m := i) (j := 0) (a := hp) Try.underlying9 rfl fcells_len (hL.o.now hN) rfl hap rfl) ?_
      refine RL.op rfl rfl (op_call2 Try.func15 rfl rfl rfl rfl ((read_calls _ d hp.1 _ _ (DkR.ext hD hN.ext0) hfit hn _ rfl).mono ?_))
      rintro _ w10 ⟨v10, rfl, ho_, he_⟩
      have hN_ := hN.pushOwn ho_ he_
      clear ho_ he_
      clear hN
      have hN : Now w none_ w10 [_, _, _, _] := hN_
      clear hN_
      refine RL.ev rfl rfl ev_move ?_
      refine RL.ev rfl rfl (ev_extract rfl rfl) ?_
      refine RL.ev rfl rfl (ev_extract rfl rfl) ?_
      refine RL.ev rfl rfl ev_assign ?_
      refine RL.ev rfl rfl ev_assign ?_
      refine RL.nil ?_
      refine thenN ?_
      refine RW.seq ?_
      refine RW.region ?_
      refine RL.ev rfl rfl ev_move ?_
      refine RL.ev rfl rfl (ev_false (ev_neq rfl rfl) (by rw [hrd]; exact fun h => h rfl)) ?_
      refine RL.ev rfl rfl ev_move ?_
      refine RL.onEv rfl rfl (by decide) rfl rfl ev_move ?_
      refine RL.onEv rfl rfl (by decide) rfl rfl (ev_fieldAddr Try.underlying45 rfl sz43 (by decide) rfl) ?_
      refine RL.onEv rfl rfl (by decide) rfl rfl (ev_loadB Try.underlying43 rfl rfl (hN.blk 3 rfl) rfl) ?_
      refine RL.onEv rfl rfl (by decide) rfl rfl ev_move ?_
      refine RL.onEv rfl rfl (by decide) rfl rfl (ev_indexM Try.underlying43 sz78 fcells_len (by decide) (hL.o.now hN) rfl rfl (by omega) (by omega)) ?_
      refine RL.onEv rfl rfl (by decide) rfl rfl (ev_loadM (m := i) (a := hp) Try.underlying78 rfl sz78 fcells_len (by decide) (hL.o.now hN) rfl hap (cs := [(str hp.1), (vh hp.2.1), (vh hp.2.2)]) rfl) ?_
      refine RL.on rfl rfl (by decide) rfl rfl (op_call1 Try.func40 rfl rfl rfl ((refAll_calls hp _ fp.firm fp.ws _ (hAp.now hN) (hBp.now hN) (hCp.nowN hN) hln hlw).mono ?_))
      rintro v11 w11 ⟨ho_, he_⟩
      have hN_ := hN.pushOwn (l := (fp.firm ++ fp.ws.flatten)) ho_ he_
      clear ho_ he_
      clear hN
      have hN : Now w none_ w11 [_, _, _, _, _] := hN_
      clear hN_
      refine RL.on rfl rfl (by decide) rfl rfl (op_call2 Try.func18 rfl rfl rfl rfl ((same_true (hN.sl 1 rfl) (hN.sl 0 rfl) (by rw [hrd])).mono ?_))
      rintro _ _ ⟨rfl, rfl⟩
      refine RL.onEv rfl rfl (by decide) rfl rfl (ev_not rfl) ?_
      refine RL.ev rfl rfl (ev_pickF rfl) ?_
      refine RL.nil ?_
      refine thenN ?_
      refine RW.condF rfl ?_
      refine RW.skip ?_
      refine blockN ?_
      refine thenN ?_
      refine RW.region ?_
      refine RL.ev rfl rfl ev_move ?_
      refine RL.ev rfl rfl (ev_arith rfl rfl rfl (add64 (by omega) (by omega))) ?_
      refine RL.ev rfl rfl ev_assign ?_
      refine RL.nil ?_
      refine thenN ?_
      exact ⟨k - 1, by omega, i + 1, rfl, rfl, rfl, (hN.sub [2, 3, 4] (by decide) rfl), by omega⟩
    · skip
      refine RW.exit ?_
      refine thenX ?_
      refine thenX ?_
      refine blockHit ?_
      refine thenN ?_
      refine RW.seq ?_
      refine RW.region ?_
      refine RL.ev rfl rfl ev_assign ?_
      refine RL.nil ?_
      refine thenN ?_
      refine RW.ret ?_
      refine retI (RV.tmp rfl) ?_
      exact ⟨rfl, hN.ext0⟩

abbrev KX : List Disk.Op := [⟨1, [97], [], [1, 2]⟩, ⟨2, [97], [], []⟩, ⟨1, [97], [], [3, 4, 5]⟩]
theorem knownRun : run ⟨100, []⟩ KX = (⟨100, [⟨[97], [1, 2], [[3, 4, 5]]⟩]⟩, 3) := by kernel_rfl
theorem knownCrash : crash [2] [⟨[97], [1, 2], [[3, 4, 5]]⟩] = [⟨[97], [1, 2, 3, 4], []⟩] := by kernel_rfl
theorem knownRead : read ⟨100, [⟨[97], [1, 2, 3, 4], []⟩]⟩ [97] = ([1, 2, 3, 4], 0) := by kernel_rfl

set_option maxHeartbeats 4000000 in
set_option maxRecDepth 100000 in
/-- postroad/postroadlaw04.known -/
theorem known_calls (w : World) : Gives Try.prog 11 #[] w fun r w' => r = .bool true ∧ Ext w w' := by
  refine Gives.start Try.func11 rfl (Nat.le_of_ble_eq_true rfl) ?_
  rw [args0]
  have hN := Now.nil w none_
  refine RW.seq ?_
  refine RW.region ?_
  refine RL.ev rfl rfl ev_assign ?_
  refine RL.nil ?_
  refine thenN ?_
  refine RW.seq ?_
  refine RW.region ?_
  refine RL.op rfl rfl (op_call1 Try.func12 rfl rfl rfl ((new_calls (100) _ (by decide) (by decide)).mono ?_))
  rintro _ w1 ⟨g1, B1, rfl, hC_⟩
  have hN_ := hN.call0 hC_
  clear hC_
  clear hN
  have hN : Now w none_ w1 [_] := hN_
  clear hN_
  replace hN : Now w none_ w1 [dskA 64 71 23 g1 (⟨100, []⟩ : Dk) B1] := hN
  refine RL.ev rfl rfl ev_assign ?_
  refine RL.nil ?_
  refine thenN ?_
  refine RW.seq ?_
  refine RW.region ?_
  refine RL.ev rfl rfl ev_move ?_
  refine RL.op rfl rfl (opN_lit (enc := vb) (l := [1, 2]) (xs := [.const (.int .u8 (1)), .const (.int .u8 (2))]) Try.underlying23 sz5 zr5 rfl rfl (fun _ => rfl) rfl (by decide) (by decide) hN ?_)
  intro g2 w2 hN_
  clear hN
  have hN : Now w none_ w2 [_, _] := hN_
  clear hN_
  refine RL.ev rfl rfl (ev_buildL (cs := [.int .i64 (1), str [97], .string ByteArray.empty, .slice (some ⟨g2, 0, none⟩) 2 2]) Try.underlying33 zero33 (places := #[(0, 1), (1, 1), (2, 1), (3, 1)]) (by intro w; kernel_rfl) (pl := [(0, .const (.int .i64 (1))), (1, .const (str [97])), (3, .tmp 8)]) rfl (ps := [(0, .int .i64 (1)), (1, str [97]), (3, .slice (some ⟨g2, 0, none⟩) 2 2)]) rfl (zc := [.int .i64 (0), .string ByteArray.empty, .string ByteArray.empty, .slice none 0 0]) rfl (fill_step (vs := [.int .i64 (1)]) rfl rfl (Nat.le_of_ble_eq_true rfl) (fill_step (vs := [str [97]]) rfl rfl (Nat.le_of_ble_eq_true rfl) (fill_step (vs := [.slice (some ⟨g2, 0, none⟩) 2 2]) (hN.sl 0 rfl).cells1 rfl (Nat.le_of_ble_eq_true rfl) rfl)))) ?_
  refine RL.ev rfl rfl (ev_buildL (cs := [.int .i64 (2), str [97], .string ByteArray.empty, .slice none 0 0]) Try.underlying33 zero33 (places := #[(0, 1), (1, 1), (2, 1), (3, 1)]) (by intro w; kernel_rfl) (pl := [(0, .const (.int .i64 (2))), (1, .const (str [97]))]) rfl (ps := [(0, .int .i64 (2)), (1, str [97])]) rfl (zc := [.int .i64 (0), .string ByteArray.empty, .string ByteArray.empty, .slice none 0 0]) rfl (fill_step (vs := [.int .i64 (2)]) rfl rfl (Nat.le_of_ble_eq_true rfl) (fill_step (vs := [str [97]]) rfl rfl (Nat.le_of_ble_eq_true rfl) rfl))) ?_
  refine RL.op rfl rfl (opN_lit (enc := vb) (l := [3, 4, 5]) (xs := [.const (.int .u8 (3)), .const (.int .u8 (4)), .const (.int .u8 (5))]) Try.underlying23 sz5 zr5 rfl rfl (fun _ => rfl) rfl (by decide) (by decide) hN ?_)
  intro g3 w3 hN_
  clear hN
  have hN : Now w none_ w3 [_, _, _] := hN_
  clear hN_
  refine RL.ev rfl rfl (ev_buildL (cs := [.int .i64 (1), str [97], .string ByteArray.empty, .slice (some ⟨g3, 0, none⟩) 3 3]) Try.underlying33 zero33 (places := #[(0, 1), (1, 1), (2, 1), (3, 1)]) (by intro w; kernel_rfl) (pl := [(0, .const (.int .i64 (1))), (1, .const (str [97])), (3, .tmp 11)]) rfl (ps := [(0, .int .i64 (1)), (1, str [97]), (3, .slice (some ⟨g3, 0, none⟩) 3 3)]) rfl (zc := [.int .i64 (0), .string ByteArray.empty, .string ByteArray.empty, .slice none 0 0]) rfl (fill_step (vs := [.int .i64 (1)]) rfl rfl (Nat.le_of_ble_eq_true rfl) (fill_step (vs := [str [97]]) rfl rfl (Nat.le_of_ble_eq_true rfl) (fill_step (vs := [.slice (some ⟨g3, 0, none⟩) 3 3]) (hN.sl 0 rfl).cells1 rfl (Nat.le_of_ble_eq_true rfl) rfl)))) ?_
  refine RL.op rfl rfl (opN_litM (cf := ocells) (s := 4) (pl := [(0, .tmp 9), (1, .tmp 10), (2, .tmp 12)]) (ps := [(0, .agg #[.int .i64 (1), str [97], .string ByteArray.empty, .slice (some ⟨g2, 0, none⟩) 2 2]), (1, .agg #[.int .i64 (2), str [97], .string ByteArray.empty, .slice none 0 0]), (2, .agg #[.int .i64 (1), str [97], .string ByteArray.empty, .slice (some ⟨g3, 0, none⟩) 3 3])]) (zc := [.int .i64 (0), .string ByteArray.empty, .string ByteArray.empty, .slice none 0 0, .int .i64 (0), .string ByteArray.empty, .string ByteArray.empty, .slice none 0 0, .int .i64 (0), .string ByteArray.empty, .string ByteArray.empty, .slice none 0 0]) (l := [(1, [97], [], (some ⟨g2, 0, none⟩, 2, 2)), (2, [97], [], (none, 0, 0)), (1, [97], [], (some ⟨g3, 0, none⟩, 3, 3))]) Try.underlying22 inf33 (by kernel_rfl) rfl rfl (fill_step (vs := [.int .i64 (1), str [97], .string ByteArray.empty, .slice (some ⟨g2, 0, none⟩) 2 2]) rfl rfl (Nat.le_of_ble_eq_true rfl) (fill_step (vs := [.int .i64 (2), str [97], .string ByteArray.empty, .slice none 0 0]) rfl rfl (Nat.le_of_ble_eq_true rfl) (fill_step (vs := [.int .i64 (1), str [97], .string ByteArray.empty, .slice (some ⟨g3, 0, none⟩) 3 3]) rfl rfl (Nat.le_of_ble_eq_true rfl) rfl))) ocells_len rfl (by decide) (by decide) (by decide) hN ?_)
  intro g4 w4 hN_
  clear hN
  have hN : Now w none_ w4 [_, _, _, _] := hN_
  clear hN_
  refine RL.op rfl rfl (op_call2 Try.func13 rfl rfl rfl rfl ((run_calls g1 (⟨100, []⟩ : Dk) B1 0 _ ([(1, [97], [], (some ⟨g2, 0, none⟩, 2, 2)), (2, [97], [], (none, 0, 0)), (1, [97], [], (some ⟨g3, 0, none⟩, 3, 3))]) KX _ (hN.pickL (M := [_]) [3] (by decide) rfl) (Fits.new (by decide) (by decide)) (by decide) (SmO.ofOwn hN 0 3 rfl rfl (by decide)) (Pair.cons ⟨rfl, rfl, rfl, SlO.ofOwn hN 2 3 rfl rfl (by decide)⟩ (Pair.cons ⟨rfl, rfl, rfl, SlO.nil _ _ _⟩ (Pair.cons ⟨rfl, rfl, rfl, SlO.ofOwn hN 1 3 rfl rfl (by decide)⟩ (Pair.nil _)))) (by decide) _ rfl).mono ?_))
  rintro _ w5 ⟨B5, rfl, hC_⟩
  have hN_ := Now.callA (M := [_]) (N := [_, _, _]) (hN.sub [3, 0, 1, 2] (by decide) rfl) hC_
  clear hC_
  clear hN
  have hN : Now w none_ w5 [_, _, _, _] := hN_
  clear hN_
  replace hN : Now w none_ w5 [dskA 64 71 23 g1 ((run (⟨100, []⟩ : Dk) KX).1) B5, .ownm ocells 4 33 (.slice (some ⟨g4, 0, none⟩) 3 3) ([(1, [97], [], (some ⟨g2, 0, none⟩, 2, 2)), (2, [97], [], (none, 0, 0)), (1, [97], [], (some ⟨g3, 0, none⟩, 3, 3))]), .own vb 5 (.slice (some ⟨g3, 0, none⟩) 3 3) ([3, 4, 5]), .own vb 5 (.slice (some ⟨g2, 0, none⟩) 2 2) ([1, 2])] := hN
  rw [knownRun] at hN
  replace hN : Now w none_ w5 [dskA 64 71 23 g1 (⟨100, [⟨[97], [1, 2], [[3, 4, 5]]⟩]⟩ : Dk) B5, .ownm ocells 4 33 (.slice (some ⟨g4, 0, none⟩) 3 3) ([(1, [97], [], (some ⟨g2, 0, none⟩, 2, 2)), (2, [97], [], (none, 0, 0)), (1, [97], [], (some ⟨g3, 0, none⟩, 3, 3))]), .own vb 5 (.slice (some ⟨g3, 0, none⟩) 3 3) ([3, 4, 5]), .own vb 5 (.slice (some ⟨g2, 0, none⟩) 2 2) ([1, 2])] := hN
  have hfitK : Fits 3 ⟨100, [⟨[97], [1, 2], [[3, 4, 5]]⟩]⟩ := by have h := run_fits KX (Fits.new (room := 100) (by decide) (by decide)); rw [knownRun] at h; exact h
  refine RL.ev rfl rfl ev_assign ?_
  refine RL.nil ?_
  refine thenN ?_
  refine RW.seq ?_
  refine RW.region ?_
  refine RL.ev rfl rfl ev_move ?_
  refine RL.op rfl rfl (opN_lit (enc := vI) (l := [2]) (xs := [.const (.int .i64 (2))]) Try.underlying24 sz3 zr3 rfl rfl (fun _ => rfl) rfl (by decide) (by decide) hN ?_)
  intro g6 w6 hN_
  clear hN
  have hN : Now w none_ w6 [_, _, _, _, _] := hN_
  clear hN_
  refine RL.op rfl rfl (op_call2 Try.func17 rfl rfl rfl rfl ((crash_calls g1 (⟨100, [⟨[97], [1, 2], [[3, 4, 5]]⟩]⟩ : Dk) B5 3 _ ([2]) _ (hN.pickL (M := [_]) [1] (by decide) rfl) hfitK (by decide) (SlO.ofOwn hN 0 1 rfl rfl (by decide))).mono ?_))
  rintro _ w7 ⟨B7, rfl, hC_⟩
  have hN_ := Now.callA (M := [_]) (N := [_, _, _, _]) (hN.sub [1, 0, 2, 3, 4] (by decide) rfl) hC_
  clear hC_
  clear hN
  have hN : Now w none_ w7 [_, _, _, _, _] := hN_
  clear hN_
  replace hN : Now w none_ w7 [dskA 64 71 23 g1 (⟨(⟨100, [⟨[97], [1, 2], [[3, 4, 5]]⟩]⟩ : Dk).room, crash ([2]) (⟨100, [⟨[97], [1, 2], [[3, 4, 5]]⟩]⟩ : Dk).fs⟩ : Dk) B7, .own vI 3 (.slice (some ⟨g6, 0, none⟩) 1 1) ([2]), .ownm ocells 4 33 (.slice (some ⟨g4, 0, none⟩) 3 3) ([(1, [97], [], (some ⟨g2, 0, none⟩, 2, 2)), (2, [97], [], (none, 0, 0)), (1, [97], [], (some ⟨g3, 0, none⟩, 3, 3))]), .own vb 5 (.slice (some ⟨g3, 0, none⟩) 3 3) ([3, 4, 5]), .own vb 5 (.slice (some ⟨g2, 0, none⟩) 2 2) ([1, 2])] := hN
  have hfitC := hfitK.crashed [2]
  rw [knownCrash] at hN hfitC
  replace hN : Now w none_ w7 [dskA 64 71 23 g1 (⟨100, [⟨[97], [1, 2, 3, 4], []⟩]⟩ : Dk) B7, .own vI 3 (.slice (some ⟨g6, 0, none⟩) 1 1) ([2]), .ownm ocells 4 33 (.slice (some ⟨g4, 0, none⟩) 3 3) ([(1, [97], [], (some ⟨g2, 0, none⟩, 2, 2)), (2, [97], [], (none, 0, 0)), (1, [97], [], (some ⟨g3, 0, none⟩, 3, 3))]), .own vb 5 (.slice (some ⟨g3, 0, none⟩) 3 3) ([3, 4, 5]), .own vb 5 (.slice (some ⟨g2, 0, none⟩) 2 2) ([1, 2])] := hN
  refine RL.nil ?_
  refine thenN ?_
  refine RW.seq ?_
  refine RW.region ?_
  refine RL.ev rfl rfl ev_move ?_
  refine RL.op rfl rfl (op_call2 Try.func15 rfl rfl rfl rfl ((read_calls _ (⟨100, [⟨[97], [1, 2, 3, 4], []⟩]⟩ : Dk) ([97]) _ _ (dsk_says (hN.says 0 _ rfl)) hfitC (by decide) _ rfl).mono ?_))
  rintro _ w8 ⟨v8, rfl, ho_, he_⟩
  have hN_ := hN.pushOwn ho_ he_
  clear ho_ he_
  clear hN
  have hN : Now w none_ w8 [_, _, _, _, _, _] := hN_
  clear hN_
  refine RL.ev rfl rfl ev_move ?_
  refine RL.ev rfl rfl (ev_extract rfl rfl) ?_
  refine RL.ev rfl rfl (ev_extract rfl rfl) ?_
  refine RL.ev rfl rfl ev_assign ?_
  refine RL.ev rfl rfl ev_assign ?_
  refine RL.nil ?_
  refine thenN ?_
  refine RW.seq ?_
  refine RW.region ?_
  refine RL.ev rfl rfl ev_assign ?_
  refine RL.nil ?_
  refine thenN ?_
  refine RW.seq ?_
  refine RW.region ?_
  refine RL.ev rfl rfl ev_move ?_
  refine RL.ev rfl rfl (ev_true (ev_eql rfl rfl) (by rw [knownRun]; rfl)) ?_
  refine RL.ev rfl rfl ev_move ?_
  refine RL.onEv rfl rfl (by decide) rfl rfl ev_move ?_
  refine RL.on rfl rfl (by decide) rfl rfl (opN_lit (enc := vb) (l := [1, 2, 3, 4]) (xs := [.const (.int .u8 (1)), .const (.int .u8 (2)), .const (.int .u8 (3)), .const (.int .u8 (4))]) Try.underlying23 sz5 zr5 rfl rfl (fun _ => rfl) rfl (by decide) (by decide) hN ?_)
  intro g9 w9 hN_
  clear hN
  have hN : Now w none_ w9 [_, _, _, _, _, _, _] := hN_
  clear hN_
  refine RL.on rfl rfl (by decide) rfl rfl (op_call2 Try.func18 rfl rfl rfl rfl ((same_true (hN.sl 1 rfl) (hN.sl 0 rfl) (by rw [knownRead])).mono ?_))
  rintro _ _ ⟨rfl, rfl⟩
  refine RL.ev rfl rfl (ev_pickT rfl) ?_
  refine RL.ev rfl rfl ev_move ?_
  refine RL.onEv rfl rfl (by decide) rfl rfl ev_move ?_
  refine RL.onEv rfl rfl (by decide) rfl rfl (ev_true (ev_eql rfl rfl) (by rw [knownRead])) ?_
  refine RL.ev rfl rfl (ev_pickT rfl) ?_
  refine RL.ev rfl rfl ev_move ?_
  refine RL.onEv rfl rfl (by decide) rfl rfl ev_move ?_
  refine RL.onEv rfl rfl (by decide) rfl rfl (ev_buildL (cs := [.int .i64 (0), .string ByteArray.empty, .string ByteArray.empty, .slice none 0 0]) Try.underlying33 zero33 (places := #[(0, 1), (1, 1), (2, 1), (3, 1)]) (by intro w; kernel_rfl) (pl := []) rfl (ps := []) rfl (zc := [.int .i64 (0), .string ByteArray.empty, .string ByteArray.empty, .slice none 0 0]) rfl rfl) ?_
  refine RL.on rfl rfl (by decide) rfl rfl (op_call2 Try.func14 rfl rfl rfl rfl ((do_nil ⟨0, [], [], []⟩ nilH _ (Sl.nil _ _)).mono ?_))
  rintro _ w11 ⟨rfl, he_⟩
  replace hN := hN.ext he_
  clear he_
  refine RL.onEv rfl rfl (by decide) rfl rfl (ev_true (ev_eql rfl rfl) rfl) ?_
  refine RL.ev rfl rfl (ev_pickT rfl) ?_
  refine RL.ev rfl rfl ev_assign ?_
  refine RL.nil ?_
  refine thenN ?_
  refine RW.ret ?_
  refine retI (RV.tmp rfl) ?_
  exact ⟨rfl, hN.ext0⟩

end Go.Proofs.Ytlblpiapeieofaa
