import Derived.Test.YtihchogjmgbipaaWireW4
set_option linter.unusedVariables false
set_option linter.unusedSimpArgs false
namespace Go.Proofs.Ytihchogjmgbipaa
open Go.RowKit Go.Rl

open Go.Codec
set_option maxHeartbeats 4000000 in
set_option maxRecDepth 100000 in
/-- postroad/postroadref02.TakeText -/
theorem refTakeText_calls (b : Nat) (v : Value) (s : St) (most : Int) (w : World) (hB : SlB vb b w v s.1) (hbw : b ≤ w.heap.size) (hm0 : -9223372036854775808 ≤ most) (hm1 : most ≤ 9223372036854775807) : Gives Try.prog 48 #[TV v s.2, vi most] w fun r w' => ∃ x, r = .tuple #[TV x (textR s most).1.2, str (textR s most).2] ∧ SlB vb b w' x (textR s most).1.1 ∧ Ext w w' := by
  refine Gives.start Try.func48 rfl (Nat.le_of_ble_eq_true rfl) ?_
  rw [args2]
  have hN := Now.nil w none_
  have htm := text_many s most
  refine RW.seq ?_
  refine RW.region ?_
  refine RL.op rfl rfl (opN_box (cs := [v, .int .i64 (s.2)]) rfl rfl hN ?_)
  intro g1 w1 hN_
  clear hN
  have hN : Now w none_ w1 [_] := hN_
  clear hN_
  refine RL.op rfl rfl (opN_alloc (cs := [.slice none 0 0, .int .i64 (0)]) zero73 rfl hN ?_)
  intro g2 w2 hN_
  clear hN
  have hN : Now w none_ w2 [_, _] := hN_
  clear hN_
  refine RL.ev rfl rfl ev_assign ?_
  refine RL.nil ?_
  refine thenN ?_
  refine RW.seq ?_
  refine RW.region ?_
  refine RL.ev rfl rfl (ev_loadAll (cs := [v, .int .i64 (s.2)]) Try.underlying73 rfl sz73 rfl (hN.blk 1 rfl)) ?_
  refine RL.ev rfl rfl ev_move ?_
  refine RL.op rfl rfl (op_call3 Try.func58 rfl rfl rfl rfl rfl ((refMany_calls _ _ s (most) 1 _ (hB.ext hN.ext0) (Nat.le_trans hbw hN.size) (by decide) (by omega) (by omega)).mono ?_))
  rintro _ w3 ⟨x3, rfl, ox3, he_⟩
  replace hN := hN.ext he_
  replace ox3 := ox3.back hN.ext0 hbw
  clear he_
  refine RL.ev rfl rfl ev_move ?_
  refine RL.ev rfl rfl (ev_extract rfl rfl) ?_
  refine RL.ev rfl rfl (ev_extract rfl rfl) ?_
  refine RL.op rfl rfl (opN_alloc (cs := [.slice none 0 0, .int .i64 (0)]) zero73 rfl hN ?_)
  intro g4 w4 hN_
  clear hN
  have hN : Now w none_ w4 [_, _, _] := hN_
  clear hN_
  refine RL.op rfl rfl (opN_storeAll (vs := [x3, .int .i64 ((manyR s (most) 1).1.2)]) sz73 rfl rfl rfl (by intro u hu; simp only [List.mem_cons, List.not_mem_nil, or_false] at hu; rcases hu with rfl | rfl <;> first | rfl | exact (ox3.1.ext hN.ext0).one1) hN 0 rfl rfl ?_)
  intro w5 hN_
  clear hN
  have hN : Now w none_ w5 [_, _, _] := hN_
  clear hN_
  refine RL.ev rfl rfl ev_assign ?_
  refine RL.nil ?_
  refine thenN ?_
  refine RW.seq ?_
  refine RW.seq ?_
  refine RW.region ?_
  refine RL.ev rfl rfl ev_move ?_
  refine RL.ev rfl rfl (ev_lss rfl rfl) ?_
  refine RL.nil ?_
  refine thenN ?_
  refine RW.condP _ rfl (fun hlt => ?_) (fun hlt => ?_)
  · skip
    refine RW.seq ?_
    refine RW.region ?_
    refine RL.ev rfl rfl (ev_loadAll (cs := [x3, .int .i64 ((manyR s (most) 1).1.2)]) Try.underlying73 rfl sz73 rfl (hN.blk 0 rfl)) ?_
    refine RL.op rfl rfl (opN_storeAll (vs := [x3, .int .i64 ((manyR s (most) 1).1.2)]) sz73 rfl rfl rfl (by intro u hu; simp only [List.mem_cons, List.not_mem_nil, or_false] at hu; rcases hu with rfl | rfl <;> first | rfl | exact (ox3.1.ext hN.ext0).one1) hN 1 rfl rfl ?_)
    intro w6 hN_
    clear hN
    have hN : Now w none_ w6 [_, _, _] := hN_
    clear hN_
    refine RL.ev rfl rfl ev_assign ?_
    refine RL.nil ?_
    refine thenN ?_
    refine RW.ret ?_
    refine thenR ?_
    refine retI (RV.cellTmp rfl rfl (run_cell (hN.blk 1 rfl) Try.underlying73 rfl sz73)) ?_
    have h2 : textR s most = ((manyR s most 1).1, []) := by
      rcases htm with h | h
      · exact h.2
      · omega
    rw [h2]
    exact ⟨_, rfl, ox3.ext hN.ext0, hN.ext0⟩
  · skip
    refine RW.skip ?_
    refine thenN ?_
    refine RW.seq ?_
    have hge : 0 ≤ (manyR s most 1).2 ∧ (manyR s most 1).2 ≤ (manyR s most 1).1.1.length ∧ textR s most = (((manyR s most 1).1.1.drop (manyR s most 1).2.toNat, 0), (manyR s most 1).1.1.take (manyR s most 1).2.toNat) := htm.resolve_left (fun h => hlt h.1)
    obtain ⟨hg0, hg1, hgt⟩ := hge
    refine RW.draw rfl (fun u => Now w none_ u [.blk g4 [x3, .int .i64 ((manyR s (most) 1).1.2)] 73, .blk g1 [v, .int .i64 (s.2)] 73]) ?_
    replace hN := hN.ext (Ext.drew w5)
    refine RA.take (i := 0) rfl rfl (by kernel_rfl) (by kernel_rfl) (by kernel_rfl) (by intro _ _ _ h; exact h) rfl (hN.sub [0, 2] (by decide) rfl) (fun w hS => (ev_fieldAddr Try.underlying73 rfl sz23 (by decide) rfl)) ?_
    refine RA.take (i := 1) rfl rfl (by kernel_rfl) (by kernel_rfl) (by kernel_rfl) (by intro _ _ _ h; exact h) rfl (hN.sub [0, 2] (by decide) rfl) (fun w hS => (ev_loadB Try.underlying23 rfl rfl (hS.blk 0 rfl) rfl)) ?_
    refine RA.take (i := 2) rfl rfl (by kernel_rfl) (by kernel_rfl) (by kernel_rfl) (by intro _ _ _ h; exact h) rfl (hN.sub [0, 2] (by decide) rfl) (fun w hS => ev_move) ?_
    refine RA.take (i := 3) rfl rfl (by kernel_rfl) (by kernel_rfl) (by kernel_rfl) (by intro _ _ _ h; exact h) rfl (hN.sub [0, 2] (by decide) rfl) (fun w hS => (ev_cutFrom Try.underlying23 sz5 (ox3.1.ext hS.ext0) rfl rfl (by omega) (by omega))) ?_
    refine RA.take (i := 4) rfl rfl (by kernel_rfl) (by kernel_rfl) (by kernel_rfl) (by intro _ _ _ h; exact h) rfl (hN.sub [0, 2] (by decide) rfl) (fun w hS => (ev_buildL (cs := [(cutV x3 ((manyR s (most) 1).2).toNat (manyR s (most) 1).1.1.length), .int .i64 (0)]) Try.underlying73 zero73 (places := #[(0, 1), (1, 1)]) (by intro w; kernel_rfl) (pl := [(0, .tmp 20)]) rfl (ps := [(0, (cutV x3 ((manyR s (most) 1).2).toNat (manyR s (most) 1).1.1.length))]) rfl (zc := [.slice none 0 0, .int .i64 (0)]) rfl (fill_step (vs := [(cutV x3 ((manyR s (most) 1).2).toNat (manyR s (most) 1).1.1.length)]) ((ox3.1.ext hS.ext0).cutFrom (by omega)).cells1 rfl (Nat.le_of_ble_eq_true rfl) rfl))) ?_
    refine RA.take (i := 5) rfl rfl (by kernel_rfl) (by kernel_rfl) (by kernel_rfl) (by intro _ _ _ h; exact h) rfl (hN.sub [0, 2] (by decide) rfl) (fun w hS => (ev_fieldAddr Try.underlying73 rfl sz23 (by decide) rfl)) ?_
    refine RA.take (i := 6) rfl rfl (by kernel_rfl) (by kernel_rfl) (by kernel_rfl) (by intro _ _ _ h; exact h) rfl (hN.sub [0, 2] (by decide) rfl) (fun w hS => (ev_loadB Try.underlying23 rfl rfl (hS.blk 0 rfl) rfl)) ?_
    refine RA.take (i := 7) rfl rfl (by kernel_rfl) (by kernel_rfl) (by kernel_rfl) (by intro _ _ _ h; exact h) rfl (hN.sub [0, 2] (by decide) rfl) (fun w hS => ev_move) ?_
    refine RA.take (i := 8) rfl rfl (by kernel_rfl) (by kernel_rfl) (by kernel_rfl) (by intro _ _ _ h; exact h) rfl (hN.sub [0, 2] (by decide) rfl) (fun w hS => (ev_cutTo Try.underlying23 sz5 (ox3.1.ext hS.ext0) rfl rfl (by omega) (by omega))) ?_
    refine RA.take (i := 9) rfl rfl (by kernel_rfl) (by kernel_rfl) (by kernel_rfl) (by intro _ _ _ h; exact h) rfl (hN.sub [0, 2] (by decide) rfl) (fun w hS => (ev_toStr Try.underlying23 Try.underlying5 Try.underlying9 ((ox3.1.ext hS.ext0).cutTo (by omega)) rfl)) ?_
    refine RA.only (i := 10) (by kernel_rfl) rfl rfl rfl (opN_storeAll (vs := [(cutV x3 ((manyR s (most) 1).2).toNat (manyR s (most) 1).1.1.length), .int .i64 (0)]) sz73 rfl rfl rfl (by intro u hu; simp only [List.mem_cons, List.not_mem_nil, or_false] at hu; rcases hu with rfl | rfl <;> first | rfl | exact ((ox3.1.ext hN.ext0).cutFrom (by omega)).one1) hN 1 rfl rfl ?_)
    intro w7 hN_
    clear hN
    have hN : Now w none_ w7 [_, _, _] := hN_
    clear hN_
    refine ⟨(hN.sub [0, 2] (by decide) rfl), ?_⟩
    refine RA.take (i := 11) rfl rfl (by kernel_rfl) (by kernel_rfl) (by kernel_rfl) (by intro _ _ _ h; exact h) rfl (hN.sub [0, 2] (by decide) rfl) (fun w hS => ev_assign) ?_
    refine RA.done (by kernel_rfl) ?_
    refine thenN ?_
    refine RW.ret ?_
    refine retI (RV.cellTmp rfl rfl (run_cell (hN.blk 1 rfl) Try.underlying73 rfl sz73)) ?_
    rw [hgt]
    exact ⟨_, rfl, (ox3.cutFrom (by omega)).ext hN.ext0, hN.ext0⟩

set_option maxHeartbeats 4000000 in
set_option maxRecDepth 100000 in
/-- postroad/postroadref19.Read -/
theorem refRead_calls (v : Value) (l : List UInt8) (w : World) (hv : Sl vb w v l) (hl : l.length ≤ 1048576) : Gives Try.prog 24 #[v] w fun r w' => ∃ x e, r = .tuple #[x, vi e] ∧ ReqV w' x (readR l).1 ∧ e = (readR l).2 ∧ Ext w w' := by
  refine Gives.start Try.func24 rfl (Nat.le_of_ble_eq_true rfl) ?_
  rw [args1]
  have hN := Now.nil w none_
  have hB := hv.below
  refine RW.seq ?_
  refine RW.region ?_
  refine RL.op rfl rfl (opN_alloc (cs := [.int .i64 (0), .string ByteArray.empty, .int .i64 (0), .int .i64 (0), .int .i64 (0), .slice none 0 0]) zero38 rfl hN ?_)
  intro g1 w1 hN_
  clear hN
  have hN : Now w none_ w1 [_] := hN_
  clear hN_
  refine RL.ev rfl rfl ev_assign ?_
  refine RL.nil ?_
  refine thenN ?_
  refine RW.seq ?_
  refine RW.seq ?_
  refine RW.region ?_
  refine RL.ev rfl rfl ev_move ?_
  have hL_2 := (hv.ext hN.ext0).len_le
  refine RL.ev rfl rfl (ev_lenS Try.underlying23 (hv.ext hN.ext0) rfl) ?_
  refine RL.ev rfl rfl (ev_gtr rfl rfl) ?_
  refine RL.nil ?_
  refine thenN ?_
  refine RW.condPF _ rfl (by omega) ?_
  refine RW.skip ?_
  refine thenN ?_
  refine RW.seq ?_
  refine RW.seq ?_
  refine RW.region ?_
  refine RL.ev rfl rfl ev_move ?_
  refine RL.ev rfl rfl (ev_lenS Try.underlying23 (hv.ext hN.ext0) rfl) ?_
  refine RL.ev rfl rfl (ev_eql rfl rfl) ?_
  refine RL.nil ?_
  refine thenN ?_
  refine RW.condP _ rfl (fun h0 => ?_) (fun h0 => ?_)
  · skip
    refine RW.seq ?_
    refine RW.region ?_
    refine RL.ev rfl rfl (ev_buildL (cs := [.int .i64 (0), .string ByteArray.empty, .int .i64 (0), .int .i64 (0), .int .i64 (0), .slice none 0 0]) Try.underlying38 zero38 (places := #[(0, 1), (1, 1), (2, 1), (3, 1), (4, 1), (5, 1)]) (by intro w; kernel_rfl) (pl := []) rfl (ps := []) rfl (zc := [.int .i64 (0), .string ByteArray.empty, .int .i64 (0), .int .i64 (0), .int .i64 (0), .slice none 0 0]) rfl rfl) ?_
    refine RL.op rfl rfl (opN_storeAll (vs := [.int .i64 (0), .string ByteArray.empty, .int .i64 (0), .int .i64 (0), .int .i64 (0), .slice none 0 0]) sz38 rfl rfl rfl (by intro u hu; simp only [List.mem_cons, List.not_mem_nil, or_false] at hu; rcases hu with rfl | rfl | rfl | rfl | rfl | rfl <;> first | rfl) hN 0 rfl rfl ?_)
    intro w3 hN_
    clear hN
    have hN : Now w none_ w3 [_] := hN_
    clear hN_
    refine RL.ev rfl rfl ev_assign ?_
    refine RL.nil ?_
    refine thenN ?_
    refine RW.ret ?_
    refine thenR ?_
    refine retI (RV.cellTmp rfl rfl (run_cell (hN.blk 0 rfl) Try.underlying38 rfl sz38)) ?_
    have hq : readR l = (Req.zero, 10) := by rw [readR_nil h0]
    refine ⟨.agg #[.int .i64 (0), .string ByteArray.empty, .int .i64 (0), .int .i64 (0), .int .i64 (0), .slice none 0 0], 10, rfl, ?_, ?_, hN.ext0⟩
    · rw [hq]; exact ReqV.zero _
    · rw [hq]
  · skip
    refine RW.skip ?_
    refine thenN ?_
    refine RW.seq ?_
    refine RW.region ?_
    refine RL.ev rfl rfl ev_move ?_
    refine RL.ev rfl rfl (ev_index Try.underlying23 sz5 (hv.ext hN.ext0) rfl rfl (by omega) (by omega)) ?_
    obtain ⟨ac, hac⟩ : ∃ a_, (l)[0]? = some a_ := ⟨_, List.getElem?_eq_getElem (by omega)⟩
    have hlt_ac := UInt8.toNat_lt ac
    refine RL.ev rfl rfl (ev_loadG (m := 0) (a := ac) Try.underlying5 rfl (hv.ext hN.ext0) rfl hac) ?_
    refine RL.ev rfl rfl (ev_conv Try.underlying5 Try.underlying3 rfl (wr_i64 (by omega) (by omega))) ?_
    refine RL.ev rfl rfl (ev_buildL (cs := [.int .i64 ((ac.toNat : Int)), .string ByteArray.empty, .int .i64 (0), .int .i64 (0), .int .i64 (0), .slice none 0 0]) Try.underlying38 zero38 (places := #[(0, 1), (1, 1), (2, 1), (3, 1), (4, 1), (5, 1)]) (by intro w; kernel_rfl) (pl := [(0, .tmp 28)]) rfl (ps := [(0, .int .i64 ((ac.toNat : Int)))]) rfl (zc := [.int .i64 (0), .string ByteArray.empty, .int .i64 (0), .int .i64 (0), .int .i64 (0), .slice none 0 0]) rfl (fill_step (vs := [.int .i64 ((ac.toNat : Int))]) rfl rfl (Nat.le_of_ble_eq_true rfl) rfl)) ?_
    refine RL.op rfl rfl (opN_alloc (cs := [.int .i64 (0), .string ByteArray.empty, .int .i64 (0), .int .i64 (0), .int .i64 (0), .slice none 0 0]) zero38 rfl hN ?_)
    intro g4 w4 hN_
    clear hN
    have hN : Now w none_ w4 [_, _] := hN_
    clear hN_
    refine RL.op rfl rfl (opN_storeAll (vs := [.int .i64 ((ac.toNat : Int)), .string ByteArray.empty, .int .i64 (0), .int .i64 (0), .int .i64 (0), .slice none 0 0]) sz38 rfl rfl rfl (by intro u hu; simp only [List.mem_cons, List.not_mem_nil, or_false] at hu; rcases hu with rfl | rfl | rfl | rfl | rfl | rfl <;> first | rfl) hN 0 rfl rfl ?_)
    intro w5 hN_
    clear hN
    have hN : Now w none_ w5 [_, _] := hN_
    clear hN_
    refine RL.nil ?_
    refine thenN ?_
    refine RW.seq ?_
    refine RW.seq ?_
    refine RW.region ?_
    refine RL.ev rfl rfl (ev_fieldAddr Try.underlying38 rfl sz3 (by decide) rfl) ?_
    refine RL.ev rfl rfl (ev_loadB Try.underlying3 rfl rfl (hN.blk 0 rfl) rfl) ?_
    refine RL.ev rfl rfl (ev_lss rfl rfl) ?_
    refine RL.ev rfl rfl ev_move ?_
    by_cases hg6_3 : (ac.toNat : Int) < 1
    · skip
      rw [decide_eq_true hg6_3]
      refine RL.off rfl rfl (by decide) rfl rfl ?_
      refine RL.off rfl rfl (by decide) rfl rfl ?_
      refine RL.off rfl rfl (by decide) rfl rfl ?_
      refine RL.ev rfl rfl (ev_pickT rfl) ?_
      refine RL.nil ?_
      refine thenN ?_
      refine RW.condT rfl ?_
      refine RW.seq ?_
      refine RW.region ?_
      refine RL.ev rfl rfl (ev_buildL (cs := [.int .i64 (0), .string ByteArray.empty, .int .i64 (0), .int .i64 (0), .int .i64 (0), .slice none 0 0]) Try.underlying38 zero38 (places := #[(0, 1), (1, 1), (2, 1), (3, 1), (4, 1), (5, 1)]) (by intro w; kernel_rfl) (pl := []) rfl (ps := []) rfl (zc := [.int .i64 (0), .string ByteArray.empty, .int .i64 (0), .int .i64 (0), .int .i64 (0), .slice none 0 0]) rfl rfl) ?_
      refine RL.op rfl rfl (opN_storeAll (vs := [.int .i64 (0), .string ByteArray.empty, .int .i64 (0), .int .i64 (0), .int .i64 (0), .slice none 0 0]) sz38 rfl rfl rfl (by intro u hu; simp only [List.mem_cons, List.not_mem_nil, or_false] at hu; rcases hu with rfl | rfl | rfl | rfl | rfl | rfl <;> first | rfl) hN 1 rfl rfl ?_)
      intro w6 hN_
      clear hN
      have hN : Now w none_ w6 [_, _] := hN_
      clear hN_
      refine RL.ev rfl rfl ev_assign ?_
      refine RL.nil ?_
      refine thenN ?_
      refine RW.ret ?_
      refine thenR ?_
      refine retI (RV.cellTmp rfl rfl (run_cell (hN.blk 1 rfl) Try.underlying38 rfl sz38)) ?_
      have hq : readR l = (Req.zero, 13) := by rw [readR_at hac, if_pos (by omega)]
      refine ⟨.agg #[.int .i64 (0), .string ByteArray.empty, .int .i64 (0), .int .i64 (0), .int .i64 (0), .slice none 0 0], 13, rfl, ?_, ?_, hN.ext0⟩
      · rw [hq]; exact ReqV.zero _
      · rw [hq]
    · skip
      rw [decide_eq_false hg6_3]
      refine RL.onEv rfl rfl (by decide) rfl rfl (ev_fieldAddr Try.underlying38 rfl sz3 (by decide) rfl) ?_
      refine RL.onEv rfl rfl (by decide) rfl rfl (ev_loadB Try.underlying3 rfl rfl (hN.blk 0 rfl) rfl) ?_
      refine RL.onEv rfl rfl (by decide) rfl rfl (ev_gtr rfl rfl) ?_
      refine RL.ev rfl rfl (ev_pickF rfl) ?_
      refine RL.nil ?_
      refine thenN ?_
      refine RW.condP _ rfl (fun hbad8 => ?_) (fun hbad8 => ?_)
      · skip
        refine RW.seq ?_
        refine RW.region ?_
        refine RL.ev rfl rfl (ev_buildL (cs := [.int .i64 (0), .string ByteArray.empty, .int .i64 (0), .int .i64 (0), .int .i64 (0), .slice none 0 0]) Try.underlying38 zero38 (places := #[(0, 1), (1, 1), (2, 1), (3, 1), (4, 1), (5, 1)]) (by intro w; kernel_rfl) (pl := []) rfl (ps := []) rfl (zc := [.int .i64 (0), .string ByteArray.empty, .int .i64 (0), .int .i64 (0), .int .i64 (0), .slice none 0 0]) rfl rfl) ?_
        refine RL.op rfl rfl (opN_storeAll (vs := [.int .i64 (0), .string ByteArray.empty, .int .i64 (0), .int .i64 (0), .int .i64 (0), .slice none 0 0]) sz38 rfl rfl rfl (by intro u hu; simp only [List.mem_cons, List.not_mem_nil, or_false] at hu; rcases hu with rfl | rfl | rfl | rfl | rfl | rfl <;> first | rfl) hN 1 rfl rfl ?_)
        intro w7 hN_
        clear hN
        have hN : Now w none_ w7 [_, _] := hN_
        clear hN_
        refine RL.ev rfl rfl ev_assign ?_
        refine RL.nil ?_
        refine thenN ?_
        refine RW.ret ?_
        refine thenR ?_
        refine retI (RV.cellTmp rfl rfl (run_cell (hN.blk 1 rfl) Try.underlying38 rfl sz38)) ?_
        have hq : readR l = (Req.zero, 13) := by rw [readR_at hac, if_pos (by omega)]
        refine ⟨.agg #[.int .i64 (0), .string ByteArray.empty, .int .i64 (0), .int .i64 (0), .int .i64 (0), .slice none 0 0], 13, rfl, ?_, ?_, hN.ext0⟩
        · rw [hq]; exact ReqV.zero _
        · rw [hq]
      · skip
        refine RW.skip ?_
        refine thenN ?_
        refine RW.seq ?_
        refine RW.region ?_
        refine RL.ev rfl rfl ev_move ?_
        refine RL.ev rfl rfl (ev_cutFrom Try.underlying23 sz5 (hv.ext hN.ext0) rfl rfl (by omega) (by omega)) ?_
        refine RL.ev rfl rfl (ev_buildL (cs := [(cutV v 1 l.length), .int .i64 (0)]) Try.underlying73 zero73 (places := #[(0, 1), (1, 1)]) (by intro w; kernel_rfl) (pl := [(0, .tmp 40)]) rfl (ps := [(0, (cutV v 1 l.length))]) rfl (zc := [.slice none 0 0, .int .i64 (0)]) rfl (fill_step (vs := [(cutV v 1 l.length)]) ((hv.ext hN.ext0).cutFrom (by omega)).cells1 rfl (Nat.le_of_ble_eq_true rfl) rfl)) ?_
        refine RL.op rfl rfl (opN_alloc (cs := [.slice none 0 0, .int .i64 (0)]) zero73 rfl hN ?_)
        intro g8 w8 hN_
        clear hN
        have hN : Now w none_ w8 [_, _, _] := hN_
        clear hN_
        refine RL.op rfl rfl (opN_storeAll (vs := [(cutV v 1 l.length), .int .i64 (0)]) sz73 rfl rfl rfl (by intro u hu; simp only [List.mem_cons, List.not_mem_nil, or_false] at hu; rcases hu with rfl | rfl <;> first | rfl | exact ((hv.ext hN.ext0).cutFrom (by omega)).one1) hN 0 rfl rfl ?_)
        intro w9 hN_
        clear hN
        have hN : Now w none_ w9 [_, _, _] := hN_
        clear hN_
        refine RL.nil ?_
        refine thenN ?_
        refine RW.seq ?_
        refine RW.seq ?_
        rcases (show (ac.toNat : Int) = 1 ∨ (ac.toNat : Int) = 2 ∨ (ac.toNat : Int) = 5 ∨ (ac.toNat : Int) = 6 ∨ (ac.toNat : Int) = 7 ∨ ((ac.toNat : Int) = 3 ∨ (ac.toNat : Int) = 4) ∨ (ac.toNat : Int) = 8 by omega) with hk | hk | hk | hk | hk | hk | hk
        · skip
          refine RW.region ?_
          refine RL.ev rfl rfl (ev_fieldAddr Try.underlying38 rfl sz3 (by decide) rfl) ?_
          refine RL.ev rfl rfl (ev_loadB Try.underlying3 rfl rfl (hN.blk 1 rfl) rfl) ?_
          refine RL.ev rfl rfl (ev_eql rfl rfl) ?_
          refine RL.nil ?_
          refine thenN ?_
          refine RW.condPT _ rfl (by omega) ?_
          refine RW.seq ?_
          refine RW.region ?_
          refine RL.ev rfl rfl (ev_loadAll (cs := [(cutV v 1 l.length), .int .i64 (0)]) Try.underlying73 rfl sz73 rfl (hN.blk 0 rfl)) ?_
          refine RL.op rfl rfl (op_call2 Try.func48 rfl rfl rfl rfl ((refTakeText_calls _ _ ((l.drop 1), 0) (1048576) _ ((hB.cutFrom (by omega)).ext hN.ext0) hN.size (by omega) (by omega)).mono ?_))
          rintro _ w10 ⟨x10, rfl, ox10, he_⟩
          replace hN := hN.ext he_
          replace ox10 := ox10.back hN.ext0 (Nat.le_refl _)
          clear he_
          refine RL.ev rfl rfl ev_move ?_
          refine RL.ev rfl rfl (ev_extract rfl rfl) ?_
          refine RL.ev rfl rfl (ev_extract rfl rfl) ?_
          refine RL.op rfl rfl (opN_alloc (cs := [.slice none 0 0, .int .i64 (0)]) zero73 rfl hN ?_)
          intro g11 w11 hN_
          clear hN
          have hN : Now w none_ w11 [_, _, _, _] := hN_
          clear hN_
          refine RL.op rfl rfl (opN_storeAll (vs := [x10, .int .i64 ((textR ((l.drop 1), 0) (1048576)).1.2)]) sz73 rfl rfl rfl (by intro u hu; simp only [List.mem_cons, List.not_mem_nil, or_false] at hu; rcases hu with rfl | rfl <;> first | rfl | exact (ox10.1.ext hN.ext0).one1) hN 0 rfl rfl ?_)
          intro w12 hN_
          clear hN
          have hN : Now w none_ w12 [_, _, _, _] := hN_
          clear hN_
          refine RL.ev rfl rfl ev_assign ?_
          refine RL.nil ?_
          refine thenN ?_
          refine RW.seq ?_
          refine RW.region ?_
          refine RL.ev rfl rfl ev_move ?_
          refine RL.ev rfl rfl (ev_fieldAddr Try.underlying38 rfl sz9 (by decide) rfl) ?_
          refine RL.op rfl rfl (opN_store sz9 rfl rfl rfl rfl hN 2 rfl (Nat.le_of_ble_eq_true rfl) ?_)
          intro w13 hN_
          clear hN
          have hN : Now w none_ w13 [_, _, _, _] := hN_
          clear hN_
          refine RL.nil ?_
          refine thenN ?_
          refine RW.region ?_
          refine RL.ev rfl rfl (ev_loadAll (cs := [x10, .int .i64 ((textR ((l.drop 1), 0) (1048576)).1.2)]) Try.underlying73 rfl sz73 rfl (hN.blk 0 rfl)) ?_
          refine RL.op rfl rfl (opN_storeAll (vs := [x10, .int .i64 ((textR ((l.drop 1), 0) (1048576)).1.2)]) sz73 rfl rfl rfl (by intro u hu; simp only [List.mem_cons, List.not_mem_nil, or_false] at hu; rcases hu with rfl | rfl <;> first | rfl | exact (ox10.1.ext hN.ext0).one1) hN 1 rfl rfl ?_)
          intro w14 hN_
          clear hN
          have hN : Now w none_ w14 [_, _, _, _] := hN_
          clear hN_
          refine RL.nil ?_
          refine thenN ?_
          refine RW.seq ?_
          refine RW.seq ?_
          refine RW.region ?_
          refine RL.ev rfl rfl (ev_fieldAddr Try.underlying38 rfl sz3 (by decide) rfl) ?_
          refine RL.ev rfl rfl (ev_loadB Try.underlying3 rfl rfl (hN.blk 2 rfl) rfl) ?_
          refine RL.ev rfl rfl (ev_eql rfl rfl) ?_
          refine RL.nil ?_
          refine thenN ?_
          refine RW.condPF _ rfl (by omega) ?_
          refine RW.skip ?_
          refine thenN ?_
          refine RW.seq ?_
          refine RW.seq ?_
          refine RW.region ?_
          refine RL.ev rfl rfl (ev_fieldAddr Try.underlying38 rfl sz3 (by decide) rfl) ?_
          refine RL.ev rfl rfl (ev_loadB Try.underlying3 rfl rfl (hN.blk 2 rfl) rfl) ?_
          refine RL.ev rfl rfl (ev_false (ev_geq rfl rfl) (by omega)) ?_
          refine RL.ev rfl rfl ev_move ?_
          refine RL.off rfl rfl (by decide) rfl rfl ?_
          refine RL.off rfl rfl (by decide) rfl rfl ?_
          refine RL.off rfl rfl (by decide) rfl rfl ?_
          refine RL.ev rfl rfl (ev_pickF rfl) ?_
          refine RL.nil ?_
          refine thenN ?_
          refine RW.condF rfl ?_
          refine RW.skip ?_
          refine thenN ?_
          refine RW.seq ?_
          refine RW.seq ?_
          refine RW.region ?_
          refine RL.ev rfl rfl (ev_fieldAddr Try.underlying38 rfl sz3 (by decide) rfl) ?_
          refine RL.ev rfl rfl (ev_loadB Try.underlying3 rfl rfl (hN.blk 2 rfl) rfl) ?_
          refine RL.ev rfl rfl (ev_false (ev_eql rfl rfl) (by omega)) ?_
          refine RL.ev rfl rfl ev_move ?_
          refine RL.onEv rfl rfl (by decide) rfl rfl (ev_fieldAddr Try.underlying38 rfl sz3 (by decide) rfl) ?_
          refine RL.onEv rfl rfl (by decide) rfl rfl (ev_loadB Try.underlying3 rfl rfl (hN.blk 2 rfl) rfl) ?_
          refine RL.onEv rfl rfl (by decide) rfl rfl (ev_false (ev_eql rfl rfl) (by omega)) ?_
          refine RL.ev rfl rfl (ev_pickF rfl) ?_
          refine RL.nil ?_
          refine thenN ?_
          refine RW.condF rfl ?_
          refine RW.skip ?_
          refine thenN ?_
          refine RW.seq ?_
          refine RW.seq ?_
          refine RW.region ?_
          refine RL.ev rfl rfl (ev_fieldAddr Try.underlying38 rfl sz3 (by decide) rfl) ?_
          refine RL.ev rfl rfl (ev_loadB Try.underlying3 rfl rfl (hN.blk 2 rfl) rfl) ?_
          refine RL.ev rfl rfl (ev_eql rfl rfl) ?_
          refine RL.nil ?_
          refine thenN ?_
          refine RW.condPF _ rfl (by omega) ?_
          refine RW.skip ?_
          refine thenN ?_
          refine RW.seq ?_
          refine RW.region ?_
          refine RL.ev rfl rfl (ev_loadAll (cs := [x10, .int .i64 ((textR ((l.drop 1), 0) (1048576)).1.2)]) Try.underlying73 rfl sz73 rfl (hN.blk 1 rfl)) ?_
          refine RL.op rfl rfl (op_call1 Try.func39 rfl rfl rfl ((refEnd_calls _ (textR ((l.drop 1), 0) (1048576)).1 _ (ox10.1.ext hN.ext0)).mono ?_))
          rintro _ w15 ⟨rfl, he_⟩
          replace hN := hN.ext he_
          clear he_
          refine RL.ev rfl rfl ev_assign ?_
          refine RL.nil ?_
          refine thenN ?_
          refine RW.seq ?_
          refine RW.seq ?_
          refine RW.region ?_
          refine RL.ev rfl rfl ev_move ?_
          refine RL.ev rfl rfl (ev_neq rfl rfl) ?_
          refine RL.nil ?_
          refine thenN ?_
          refine RW.condP _ rfl (fun hbad => ?_) (fun hbad => ?_)
          · skip
            refine RW.seq ?_
            refine RW.region ?_
            refine RL.ev rfl rfl (ev_buildL (cs := [.int .i64 (0), .string ByteArray.empty, .int .i64 (0), .int .i64 (0), .int .i64 (0), .slice none 0 0]) Try.underlying38 zero38 (places := #[(0, 1), (1, 1), (2, 1), (3, 1), (4, 1), (5, 1)]) (by intro w; kernel_rfl) (pl := []) rfl (ps := []) rfl (zc := [.int .i64 (0), .string ByteArray.empty, .int .i64 (0), .int .i64 (0), .int .i64 (0), .slice none 0 0]) rfl rfl) ?_
            refine RL.ev rfl rfl ev_move ?_
            refine RL.op rfl rfl (opN_storeAll (vs := [.int .i64 (0), .string ByteArray.empty, .int .i64 (0), .int .i64 (0), .int .i64 (0), .slice none 0 0]) sz38 rfl rfl rfl (by intro u hu; simp only [List.mem_cons, List.not_mem_nil, or_false] at hu; rcases hu with rfl | rfl | rfl | rfl | rfl | rfl <;> first | rfl) hN 3 rfl rfl ?_)
            intro w16 hN_
            clear hN
            have hN : Now w none_ w16 [_, _, _, _] := hN_
            clear hN_
            refine RL.ev rfl rfl ev_assign ?_
            refine RL.nil ?_
            refine thenN ?_
            refine RW.ret ?_
            refine thenR ?_
            refine retI (RV.cellTmp rfl rfl (run_cell (hN.blk 3 rfl) Try.underlying38 rfl sz38)) ?_
            have hq : readR l = (Req.zero, (endR (textR ((l.drop 1), 0) (1048576)).1)) := by rw [readR_at hac, if_neg (by omega), readK_1 hk, finR_bad hbad]
            refine ⟨.agg #[.int .i64 (0), .string ByteArray.empty, .int .i64 (0), .int .i64 (0), .int .i64 (0), .slice none 0 0], (endR (textR ((l.drop 1), 0) (1048576)).1), rfl, ?_, ?_, hN.ext0⟩
            · rw [hq]; exact ReqV.zero _
            · rw [hq]
          · skip
            refine RW.skip ?_
            refine thenN ?_
            refine RW.seq ?_
            refine RW.region ?_
            refine RL.ev rfl rfl (ev_loadAll (cs := [.int .i64 ((ac.toNat : Int)), (str (textR ((l.drop 1), 0) (1048576)).2), .int .i64 (0), .int .i64 (0), .int .i64 (0), .slice none 0 0]) Try.underlying38 rfl sz38 rfl (hN.blk 2 rfl)) ?_
            refine RL.op rfl rfl (opN_storeAll (vs := [.int .i64 ((ac.toNat : Int)), (str (textR ((l.drop 1), 0) (1048576)).2), .int .i64 (0), .int .i64 (0), .int .i64 (0), .slice none 0 0]) sz38 rfl rfl rfl (by intro u hu; simp only [List.mem_cons, List.not_mem_nil, or_false] at hu; rcases hu with rfl | rfl | rfl | rfl | rfl | rfl <;> first | rfl) hN 3 rfl rfl ?_)
            intro w17 hN_
            clear hN
            have hN : Now w none_ w17 [_, _, _, _] := hN_
            clear hN_
            refine RL.ev rfl rfl ev_assign ?_
            refine RL.nil ?_
            refine thenN ?_
            refine RW.ret ?_
            refine retI (RV.cellTmp rfl rfl (run_cell (hN.blk 3 rfl) Try.underlying38 rfl sz38)) ?_
            have hq : readR l = (⟨(ac.toNat : Int), (textR ((l.drop 1), 0) (1048576)).2, 0, 0, 0, []⟩, 0) := by rw [readR_at hac, if_neg (by omega), readK_1 hk, finR_ok hbad]
            refine ⟨.agg #[.int .i64 ((ac.toNat : Int)), (str (textR ((l.drop 1), 0) (1048576)).2), .int .i64 (0), .int .i64 (0), .int .i64 (0), .slice none 0 0], 0, rfl, ?_, ?_, hN.ext0⟩
            · rw [hq]; exact ⟨_, rfl, (Sl.nil _ _)⟩
            · rw [hq]
        · skip
          refine RW.region ?_
          refine RL.ev rfl rfl (ev_fieldAddr Try.underlying38 rfl sz3 (by decide) rfl) ?_
          refine RL.ev rfl rfl (ev_loadB Try.underlying3 rfl rfl (hN.blk 1 rfl) rfl) ?_
          refine RL.ev rfl rfl (ev_eql rfl rfl) ?_
          refine RL.nil ?_
          refine thenN ?_
          refine RW.condPF _ rfl (by omega) ?_
          refine RW.skip ?_
          refine thenN ?_
          refine RW.seq ?_
          refine RW.seq ?_
          refine RW.region ?_
          refine RL.ev rfl rfl (ev_fieldAddr Try.underlying38 rfl sz3 (by decide) rfl) ?_
          refine RL.ev rfl rfl (ev_loadB Try.underlying3 rfl rfl (hN.blk 1 rfl) rfl) ?_
          refine RL.ev rfl rfl (ev_eql rfl rfl) ?_
          refine RL.nil ?_
          refine thenN ?_
          refine RW.condPT _ rfl (by omega) ?_
          refine RW.seq ?_
          refine RW.region ?_
          refine RL.ev rfl rfl (ev_loadAll (cs := [(cutV v 1 l.length), .int .i64 (0)]) Try.underlying73 rfl sz73 rfl (hN.blk 0 rfl)) ?_
          refine RL.op rfl rfl (op_call2 Try.func37 rfl rfl rfl rfl ((refNum_at (s := ((l.drop 1), 0)) ((hB.cutFrom (by omega)).ext hN.ext0) hN.size (show clip 8 = 8 from rfl) (eta (numR ((l.drop 1), 0) 8))).mono ?_))
          rintro _ w18 ⟨x18, rfl, ox18, he_⟩
          replace hN := hN.ext he_
          replace ox18 := ox18.back hN.ext0 (Nat.le_refl _)
          clear he_
          refine RL.ev rfl rfl ev_move ?_
          refine RL.ev rfl rfl (ev_extract rfl rfl) ?_
          refine RL.ev rfl rfl (ev_extract rfl rfl) ?_
          refine RL.op rfl rfl (opN_alloc (cs := [.slice none 0 0, .int .i64 (0)]) zero73 rfl hN ?_)
          intro g19 w19 hN_
          clear hN
          have hN : Now w none_ w19 [_, _, _, _] := hN_
          clear hN_
          refine RL.op rfl rfl (opN_storeAll (vs := [x18, .int .i64 ((numR ((l.drop 1), 0) 8).1.2)]) sz73 rfl rfl rfl (by intro u hu; simp only [List.mem_cons, List.not_mem_nil, or_false] at hu; rcases hu with rfl | rfl <;> first | rfl | exact (ox18.1.ext hN.ext0).one1) hN 0 rfl rfl ?_)
          intro w20 hN_
          clear hN
          have hN : Now w none_ w20 [_, _, _, _] := hN_
          clear hN_
          refine RL.ev rfl rfl ev_assign ?_
          refine RL.nil ?_
          refine thenN ?_
          refine RW.seq ?_
          refine RW.region ?_
          refine RL.ev rfl rfl ev_move ?_
          refine RL.ev rfl rfl (ev_conv Try.underlying39 Try.underlying3 rfl (wrap_i64n _ (numR_lt _ _ (by decide)))) ?_
          refine RL.ev rfl rfl (ev_fieldAddr Try.underlying38 rfl sz3 (by decide) rfl) ?_
          refine RL.op rfl rfl (opN_store sz3 rfl rfl rfl rfl hN 2 rfl (Nat.le_of_ble_eq_true rfl) ?_)
          intro w21 hN_
          clear hN
          have hN : Now w none_ w21 [_, _, _, _] := hN_
          clear hN_
          refine RL.nil ?_
          refine thenN ?_
          refine RW.region ?_
          refine RL.ev rfl rfl (ev_loadAll (cs := [x18, .int .i64 ((numR ((l.drop 1), 0) 8).1.2)]) Try.underlying73 rfl sz73 rfl (hN.blk 0 rfl)) ?_
          refine RL.op rfl rfl (opN_storeAll (vs := [x18, .int .i64 ((numR ((l.drop 1), 0) 8).1.2)]) sz73 rfl rfl rfl (by intro u hu; simp only [List.mem_cons, List.not_mem_nil, or_false] at hu; rcases hu with rfl | rfl <;> first | rfl | exact (ox18.1.ext hN.ext0).one1) hN 1 rfl rfl ?_)
          intro w22 hN_
          clear hN
          have hN : Now w none_ w22 [_, _, _, _] := hN_
          clear hN_
          refine RL.nil ?_
          refine thenN ?_
          refine RW.seq ?_
          refine RW.seq ?_
          refine RW.region ?_
          refine RL.ev rfl rfl (ev_fieldAddr Try.underlying38 rfl sz3 (by decide) rfl) ?_
          refine RL.ev rfl rfl (ev_loadB Try.underlying3 rfl rfl (hN.blk 2 rfl) rfl) ?_
          refine RL.ev rfl rfl (ev_false (ev_geq rfl rfl) (by omega)) ?_
          refine RL.ev rfl rfl ev_move ?_
          refine RL.off rfl rfl (by decide) rfl rfl ?_
          refine RL.off rfl rfl (by decide) rfl rfl ?_
          refine RL.off rfl rfl (by decide) rfl rfl ?_
          refine RL.ev rfl rfl (ev_pickF rfl) ?_
          refine RL.nil ?_
          refine thenN ?_
          refine RW.condF rfl ?_
          refine RW.skip ?_
          refine thenN ?_
          refine RW.seq ?_
          refine RW.seq ?_
          refine RW.region ?_
          refine RL.ev rfl rfl (ev_fieldAddr Try.underlying38 rfl sz3 (by decide) rfl) ?_
          refine RL.ev rfl rfl (ev_loadB Try.underlying3 rfl rfl (hN.blk 2 rfl) rfl) ?_
          refine RL.ev rfl rfl (ev_false (ev_eql rfl rfl) (by omega)) ?_
          refine RL.ev rfl rfl ev_move ?_
          refine RL.onEv rfl rfl (by decide) rfl rfl (ev_fieldAddr Try.underlying38 rfl sz3 (by decide) rfl) ?_
          refine RL.onEv rfl rfl (by decide) rfl rfl (ev_loadB Try.underlying3 rfl rfl (hN.blk 2 rfl) rfl) ?_
          refine RL.onEv rfl rfl (by decide) rfl rfl (ev_false (ev_eql rfl rfl) (by omega)) ?_
          refine RL.ev rfl rfl (ev_pickF rfl) ?_
          refine RL.nil ?_
          refine thenN ?_
          refine RW.condF rfl ?_
          refine RW.skip ?_
          refine thenN ?_
          refine RW.seq ?_
          refine RW.seq ?_
          refine RW.region ?_
          refine RL.ev rfl rfl (ev_fieldAddr Try.underlying38 rfl sz3 (by decide) rfl) ?_
          refine RL.ev rfl rfl (ev_loadB Try.underlying3 rfl rfl (hN.blk 2 rfl) rfl) ?_
          refine RL.ev rfl rfl (ev_eql rfl rfl) ?_
          refine RL.nil ?_
          refine thenN ?_
          refine RW.condPF _ rfl (by omega) ?_
          refine RW.skip ?_
          refine thenN ?_
          refine RW.seq ?_
          refine RW.region ?_
          refine RL.ev rfl rfl (ev_loadAll (cs := [x18, .int .i64 ((numR ((l.drop 1), 0) 8).1.2)]) Try.underlying73 rfl sz73 rfl (hN.blk 1 rfl)) ?_
          refine RL.op rfl rfl (op_call1 Try.func39 rfl rfl rfl ((refEnd_calls _ (numR ((l.drop 1), 0) 8).1 _ (ox18.1.ext hN.ext0)).mono ?_))
          rintro _ w23 ⟨rfl, he_⟩
          replace hN := hN.ext he_
          clear he_
          refine RL.ev rfl rfl ev_assign ?_
          refine RL.nil ?_
          refine thenN ?_
          refine RW.seq ?_
          refine RW.seq ?_
          refine RW.region ?_
          refine RL.ev rfl rfl ev_move ?_
          refine RL.ev rfl rfl (ev_neq rfl rfl) ?_
          refine RL.nil ?_
          refine thenN ?_
          refine RW.condP _ rfl (fun hbad => ?_) (fun hbad => ?_)
          · skip
            refine RW.seq ?_
            refine RW.region ?_
            refine RL.ev rfl rfl (ev_buildL (cs := [.int .i64 (0), .string ByteArray.empty, .int .i64 (0), .int .i64 (0), .int .i64 (0), .slice none 0 0]) Try.underlying38 zero38 (places := #[(0, 1), (1, 1), (2, 1), (3, 1), (4, 1), (5, 1)]) (by intro w; kernel_rfl) (pl := []) rfl (ps := []) rfl (zc := [.int .i64 (0), .string ByteArray.empty, .int .i64 (0), .int .i64 (0), .int .i64 (0), .slice none 0 0]) rfl rfl) ?_
            refine RL.ev rfl rfl ev_move ?_
            refine RL.op rfl rfl (opN_storeAll (vs := [.int .i64 (0), .string ByteArray.empty, .int .i64 (0), .int .i64 (0), .int .i64 (0), .slice none 0 0]) sz38 rfl rfl rfl (by intro u hu; simp only [List.mem_cons, List.not_mem_nil, or_false] at hu; rcases hu with rfl | rfl | rfl | rfl | rfl | rfl <;> first | rfl) hN 3 rfl rfl ?_)
            intro w24 hN_
            clear hN
            have hN : Now w none_ w24 [_, _, _, _] := hN_
            clear hN_
            refine RL.ev rfl rfl ev_assign ?_
            refine RL.nil ?_
            refine thenN ?_
            refine RW.ret ?_
            refine thenR ?_
            refine retI (RV.cellTmp rfl rfl (run_cell (hN.blk 3 rfl) Try.underlying38 rfl sz38)) ?_
            have hq : readR l = (Req.zero, (endR (numR ((l.drop 1), 0) 8).1)) := by rw [readR_at hac, if_neg (by omega), readK_2 hk, finR_bad hbad]
            refine ⟨.agg #[.int .i64 (0), .string ByteArray.empty, .int .i64 (0), .int .i64 (0), .int .i64 (0), .slice none 0 0], (endR (numR ((l.drop 1), 0) 8).1), rfl, ?_, ?_, hN.ext0⟩
            · rw [hq]; exact ReqV.zero _
            · rw [hq]
          · skip
            refine RW.skip ?_
            refine thenN ?_
            refine RW.seq ?_
            refine RW.region ?_
            refine RL.ev rfl rfl (ev_loadAll (cs := [.int .i64 ((ac.toNat : Int)), .string ByteArray.empty, .int .i64 (toI ((numR ((l.drop 1), 0) 8).2)), .int .i64 (0), .int .i64 (0), .slice none 0 0]) Try.underlying38 rfl sz38 rfl (hN.blk 2 rfl)) ?_
            refine RL.op rfl rfl (opN_storeAll (vs := [.int .i64 ((ac.toNat : Int)), .string ByteArray.empty, .int .i64 (toI ((numR ((l.drop 1), 0) 8).2)), .int .i64 (0), .int .i64 (0), .slice none 0 0]) sz38 rfl rfl rfl (by intro u hu; simp only [List.mem_cons, List.not_mem_nil, or_false] at hu; rcases hu with rfl | rfl | rfl | rfl | rfl | rfl <;> first | rfl) hN 3 rfl rfl ?_)
            intro w25 hN_
            clear hN
            have hN : Now w none_ w25 [_, _, _, _] := hN_
            clear hN_
            refine RL.ev rfl rfl ev_assign ?_
            refine RL.nil ?_
            refine thenN ?_
            refine RW.ret ?_
            refine retI (RV.cellTmp rfl rfl (run_cell (hN.blk 3 rfl) Try.underlying38 rfl sz38)) ?_
            have hq : readR l = (⟨(ac.toNat : Int), [], toI ((numR ((l.drop 1), 0) 8).2), 0, 0, []⟩, 0) := by rw [readR_at hac, if_neg (by omega), readK_2 hk, finR_ok hbad]
            refine ⟨.agg #[.int .i64 ((ac.toNat : Int)), .string ByteArray.empty, .int .i64 (toI ((numR ((l.drop 1), 0) 8).2)), .int .i64 (0), .int .i64 (0), .slice none 0 0], 0, rfl, ?_, ?_, hN.ext0⟩
            · rw [hq]; exact ⟨_, rfl, (Sl.nil _ _)⟩
            · rw [hq]
        · skip
          refine RW.region ?_
          refine RL.ev rfl rfl (ev_fieldAddr Try.underlying38 rfl sz3 (by decide) rfl) ?_
          refine RL.ev rfl rfl (ev_loadB Try.underlying3 rfl rfl (hN.blk 1 rfl) rfl) ?_
          refine RL.ev rfl rfl (ev_eql rfl rfl) ?_
          refine RL.nil ?_
          refine thenN ?_
          refine RW.condPF _ rfl (by omega) ?_
          refine RW.skip ?_
          refine thenN ?_
          refine RW.seq ?_
          refine RW.seq ?_
          refine RW.region ?_
          refine RL.ev rfl rfl (ev_fieldAddr Try.underlying38 rfl sz3 (by decide) rfl) ?_
          refine RL.ev rfl rfl (ev_loadB Try.underlying3 rfl rfl (hN.blk 1 rfl) rfl) ?_
          refine RL.ev rfl rfl (ev_eql rfl rfl) ?_
          refine RL.nil ?_
          refine thenN ?_
          refine RW.condPF _ rfl (by omega) ?_
          refine RW.skip ?_
          refine thenN ?_
          refine RW.seq ?_
          refine RW.seq ?_
          refine RW.region ?_
          refine RL.ev rfl rfl (ev_fieldAddr Try.underlying38 rfl sz3 (by decide) rfl) ?_
          refine RL.ev rfl rfl (ev_loadB Try.underlying3 rfl rfl (hN.blk 1 rfl) rfl) ?_
          refine RL.ev rfl rfl (ev_true (ev_geq rfl rfl) (by omega)) ?_
          refine RL.ev rfl rfl ev_move ?_
          refine RL.onEv rfl rfl (by decide) rfl rfl (ev_fieldAddr Try.underlying38 rfl sz3 (by decide) rfl) ?_
          refine RL.onEv rfl rfl (by decide) rfl rfl (ev_loadB Try.underlying3 rfl rfl (hN.blk 1 rfl) rfl) ?_
          refine RL.onEv rfl rfl (by decide) rfl rfl (ev_true (ev_leq rfl rfl) (by omega)) ?_
          refine RL.ev rfl rfl (ev_pickT rfl) ?_
          refine RL.nil ?_
          refine thenN ?_
          refine RW.condT rfl ?_
          refine RW.seq ?_
          refine RW.region ?_
          refine RL.ev rfl rfl (ev_loadAll (cs := [(cutV v 1 l.length), .int .i64 (0)]) Try.underlying73 rfl sz73 rfl (hN.blk 0 rfl)) ?_
          refine RL.op rfl rfl (op_call2 Try.func37 rfl rfl rfl rfl ((refNum_at (s := ((l.drop 1), 0)) ((hB.cutFrom (by omega)).ext hN.ext0) hN.size (show clip 8 = 8 from rfl) (eta (numR ((l.drop 1), 0) 8))).mono ?_))
          rintro _ w26 ⟨x26, rfl, ox26, he_⟩
          replace hN := hN.ext he_
          replace ox26 := ox26.back hN.ext0 (Nat.le_refl _)
          clear he_
          refine RL.ev rfl rfl ev_move ?_
          refine RL.ev rfl rfl (ev_extract rfl rfl) ?_
          refine RL.ev rfl rfl (ev_extract rfl rfl) ?_
          refine RL.op rfl rfl (opN_alloc (cs := [.slice none 0 0, .int .i64 (0)]) zero73 rfl hN ?_)
          intro g27 w27 hN_
          clear hN
          have hN : Now w none_ w27 [_, _, _, _] := hN_
          clear hN_
          refine RL.op rfl rfl (opN_storeAll (vs := [x26, .int .i64 ((numR ((l.drop 1), 0) 8).1.2)]) sz73 rfl rfl rfl (by intro u hu; simp only [List.mem_cons, List.not_mem_nil, or_false] at hu; rcases hu with rfl | rfl <;> first | rfl | exact (ox26.1.ext hN.ext0).one1) hN 0 rfl rfl ?_)
          intro w28 hN_
          clear hN
          have hN : Now w none_ w28 [_, _, _, _] := hN_
          clear hN_
          refine RL.ev rfl rfl ev_assign ?_
          refine RL.nil ?_
          refine thenN ?_
          refine RW.seq ?_
          refine RW.region ?_
          refine RL.ev rfl rfl ev_move ?_
          refine RL.ev rfl rfl (ev_conv Try.underlying39 Try.underlying3 rfl (wrap_i64n _ (numR_lt _ _ (by decide)))) ?_
          refine RL.ev rfl rfl (ev_fieldAddr Try.underlying38 rfl sz3 (by decide) rfl) ?_
          refine RL.op rfl rfl (opN_store sz3 rfl rfl rfl rfl hN 2 rfl (Nat.le_of_ble_eq_true rfl) ?_)
          intro w29 hN_
          clear hN
          have hN : Now w none_ w29 [_, _, _, _] := hN_
          clear hN_
          refine RL.nil ?_
          refine thenN ?_
          refine RW.region ?_
          refine RL.ev rfl rfl (ev_loadAll (cs := [x26, .int .i64 ((numR ((l.drop 1), 0) 8).1.2)]) Try.underlying73 rfl sz73 rfl (hN.blk 0 rfl)) ?_
          refine RL.op rfl rfl (opN_storeAll (vs := [x26, .int .i64 ((numR ((l.drop 1), 0) 8).1.2)]) sz73 rfl rfl rfl (by intro u hu; simp only [List.mem_cons, List.not_mem_nil, or_false] at hu; rcases hu with rfl | rfl <;> first | rfl | exact (ox26.1.ext hN.ext0).one1) hN 1 rfl rfl ?_)
          intro w30 hN_
          clear hN
          have hN : Now w none_ w30 [_, _, _, _] := hN_
          clear hN_
          refine RL.nil ?_
          refine thenN ?_
          refine RW.seq ?_
          refine RW.seq ?_
          refine RW.region ?_
          refine RL.ev rfl rfl (ev_fieldAddr Try.underlying38 rfl sz3 (by decide) rfl) ?_
          refine RL.ev rfl rfl (ev_loadB Try.underlying3 rfl rfl (hN.blk 2 rfl) rfl) ?_
          refine RL.ev rfl rfl (ev_true (ev_eql rfl rfl) (by omega)) ?_
          refine RL.ev rfl rfl ev_move ?_
          refine RL.off rfl rfl (by decide) rfl rfl ?_
          refine RL.off rfl rfl (by decide) rfl rfl ?_
          refine RL.off rfl rfl (by decide) rfl rfl ?_
          refine RL.ev rfl rfl (ev_pickT rfl) ?_
          refine RL.nil ?_
          refine thenN ?_
          refine RW.condT rfl ?_
          refine RW.seq ?_
          refine RW.region ?_
          refine RL.ev rfl rfl (ev_loadAll (cs := [x26, .int .i64 ((numR ((l.drop 1), 0) 8).1.2)]) Try.underlying73 rfl sz73 rfl (hN.blk 1 rfl)) ?_
          refine RL.op rfl rfl (op_call2 Try.func37 rfl rfl rfl rfl ((refNum_at (s := (numR ((l.drop 1), 0) 8).1) (ox26.ext hN.ext0) hN.size (show clip 8 = 8 from rfl) (eta (numR (numR ((l.drop 1), 0) 8).1 8))).mono ?_))
          rintro _ w31 ⟨x31, rfl, ox31, he_⟩
          replace hN := hN.ext he_
          replace ox31 := ox31.back hN.ext0 (Nat.le_refl _)
          clear he_
          refine RL.ev rfl rfl ev_move ?_
          refine RL.ev rfl rfl (ev_extract rfl rfl) ?_
          refine RL.ev rfl rfl (ev_extract rfl rfl) ?_
          refine RL.op rfl rfl (opN_alloc (cs := [.slice none 0 0, .int .i64 (0)]) zero73 rfl hN ?_)
          intro g32 w32 hN_
          clear hN
          have hN : Now w none_ w32 [_, _, _, _, _] := hN_
          clear hN_
          refine RL.op rfl rfl (opN_storeAll (vs := [x31, .int .i64 ((numR (numR ((l.drop 1), 0) 8).1 8).1.2)]) sz73 rfl rfl rfl (by intro u hu; simp only [List.mem_cons, List.not_mem_nil, or_false] at hu; rcases hu with rfl | rfl <;> first | rfl | exact (ox31.1.ext hN.ext0).one1) hN 0 rfl rfl ?_)
          intro w33 hN_
          clear hN
          have hN : Now w none_ w33 [_, _, _, _, _] := hN_
          clear hN_
          refine RL.ev rfl rfl ev_assign ?_
          refine RL.nil ?_
          refine thenN ?_
          refine RW.seq ?_
          refine RW.region ?_
          refine RL.ev rfl rfl ev_move ?_
          refine RL.ev rfl rfl (ev_conv Try.underlying39 Try.underlying3 rfl (wrap_i64n _ (numR_lt _ _ (by decide)))) ?_
          refine RL.ev rfl rfl (ev_fieldAddr Try.underlying38 rfl sz3 (by decide) rfl) ?_
          refine RL.op rfl rfl (opN_store sz3 rfl rfl rfl rfl hN 3 rfl (Nat.le_of_ble_eq_true rfl) ?_)
          intro w34 hN_
          clear hN
          have hN : Now w none_ w34 [_, _, _, _, _] := hN_
          clear hN_
          refine RL.nil ?_
          refine thenN ?_
          refine RW.region ?_
          refine RL.ev rfl rfl (ev_loadAll (cs := [x31, .int .i64 ((numR (numR ((l.drop 1), 0) 8).1 8).1.2)]) Try.underlying73 rfl sz73 rfl (hN.blk 0 rfl)) ?_
          refine RL.op rfl rfl (opN_storeAll (vs := [x31, .int .i64 ((numR (numR ((l.drop 1), 0) 8).1 8).1.2)]) sz73 rfl rfl rfl (by intro u hu; simp only [List.mem_cons, List.not_mem_nil, or_false] at hu; rcases hu with rfl | rfl <;> first | rfl | exact (ox31.1.ext hN.ext0).one1) hN 2 rfl rfl ?_)
          intro w35 hN_
          clear hN
          have hN : Now w none_ w35 [_, _, _, _, _] := hN_
          clear hN_
          refine RL.nil ?_
          refine thenN ?_
          refine RW.seq ?_
          refine RW.seq ?_
          refine RW.region ?_
          refine RL.ev rfl rfl (ev_fieldAddr Try.underlying38 rfl sz3 (by decide) rfl) ?_
          refine RL.ev rfl rfl (ev_loadB Try.underlying3 rfl rfl (hN.blk 3 rfl) rfl) ?_
          refine RL.ev rfl rfl (ev_eql rfl rfl) ?_
          refine RL.nil ?_
          refine thenN ?_
          refine RW.condPF _ rfl (by omega) ?_
          refine RW.skip ?_
          refine thenN ?_
          refine RW.seq ?_
          refine RW.region ?_
          refine RL.ev rfl rfl (ev_loadAll (cs := [x31, .int .i64 ((numR (numR ((l.drop 1), 0) 8).1 8).1.2)]) Try.underlying73 rfl sz73 rfl (hN.blk 2 rfl)) ?_
          refine RL.op rfl rfl (op_call1 Try.func39 rfl rfl rfl ((refEnd_calls _ (numR (numR ((l.drop 1), 0) 8).1 8).1 _ (ox31.1.ext hN.ext0)).mono ?_))
          rintro _ w36 ⟨rfl, he_⟩
          replace hN := hN.ext he_
          clear he_
          refine RL.ev rfl rfl ev_assign ?_
          refine RL.nil ?_
          refine thenN ?_
          refine RW.seq ?_
          refine RW.seq ?_
          refine RW.region ?_
          refine RL.ev rfl rfl ev_move ?_
          refine RL.ev rfl rfl (ev_neq rfl rfl) ?_
          refine RL.nil ?_
          refine thenN ?_
          refine RW.condP _ rfl (fun hbad => ?_) (fun hbad => ?_)
          · skip
            refine RW.seq ?_
            refine RW.region ?_
            refine RL.ev rfl rfl (ev_buildL (cs := [.int .i64 (0), .string ByteArray.empty, .int .i64 (0), .int .i64 (0), .int .i64 (0), .slice none 0 0]) Try.underlying38 zero38 (places := #[(0, 1), (1, 1), (2, 1), (3, 1), (4, 1), (5, 1)]) (by intro w; kernel_rfl) (pl := []) rfl (ps := []) rfl (zc := [.int .i64 (0), .string ByteArray.empty, .int .i64 (0), .int .i64 (0), .int .i64 (0), .slice none 0 0]) rfl rfl) ?_
            refine RL.ev rfl rfl ev_move ?_
            refine RL.op rfl rfl (opN_storeAll (vs := [.int .i64 (0), .string ByteArray.empty, .int .i64 (0), .int .i64 (0), .int .i64 (0), .slice none 0 0]) sz38 rfl rfl rfl (by intro u hu; simp only [List.mem_cons, List.not_mem_nil, or_false] at hu; rcases hu with rfl | rfl | rfl | rfl | rfl | rfl <;> first | rfl) hN 4 rfl rfl ?_)
            intro w37 hN_
            clear hN
            have hN : Now w none_ w37 [_, _, _, _, _] := hN_
            clear hN_
            refine RL.ev rfl rfl ev_assign ?_
            refine RL.nil ?_
            refine thenN ?_
            refine RW.ret ?_
            refine thenR ?_
            refine retI (RV.cellTmp rfl rfl (run_cell (hN.blk 4 rfl) Try.underlying38 rfl sz38)) ?_
            have hq : readR l = (Req.zero, (endR (numR (numR ((l.drop 1), 0) 8).1 8).1)) := by rw [readR_at hac, if_neg (by omega), readK_5 (.inl hk), finR_bad hbad]
            refine ⟨.agg #[.int .i64 (0), .string ByteArray.empty, .int .i64 (0), .int .i64 (0), .int .i64 (0), .slice none 0 0], (endR (numR (numR ((l.drop 1), 0) 8).1 8).1), rfl, ?_, ?_, hN.ext0⟩
            · rw [hq]; exact ReqV.zero _
            · rw [hq]
          · skip
            refine RW.skip ?_
            refine thenN ?_
            refine RW.seq ?_
            refine RW.region ?_
            refine RL.ev rfl rfl (ev_loadAll (cs := [.int .i64 ((ac.toNat : Int)), .string ByteArray.empty, .int .i64 (0), .int .i64 (toI ((numR ((l.drop 1), 0) 8).2)), .int .i64 (toI ((numR (numR ((l.drop 1), 0) 8).1 8).2)), .slice none 0 0]) Try.underlying38 rfl sz38 rfl (hN.blk 3 rfl)) ?_
            refine RL.op rfl rfl (opN_storeAll (vs := [.int .i64 ((ac.toNat : Int)), .string ByteArray.empty, .int .i64 (0), .int .i64 (toI ((numR ((l.drop 1), 0) 8).2)), .int .i64 (toI ((numR (numR ((l.drop 1), 0) 8).1 8).2)), .slice none 0 0]) sz38 rfl rfl rfl (by intro u hu; simp only [List.mem_cons, List.not_mem_nil, or_false] at hu; rcases hu with rfl | rfl | rfl | rfl | rfl | rfl <;> first | rfl) hN 4 rfl rfl ?_)
            intro w38 hN_
            clear hN
            have hN : Now w none_ w38 [_, _, _, _, _] := hN_
            clear hN_
            refine RL.ev rfl rfl ev_assign ?_
            refine RL.nil ?_
            refine thenN ?_
            refine RW.ret ?_
            refine retI (RV.cellTmp rfl rfl (run_cell (hN.blk 4 rfl) Try.underlying38 rfl sz38)) ?_
            have hq : readR l = (⟨(ac.toNat : Int), [], 0, toI ((numR ((l.drop 1), 0) 8).2), toI ((numR (numR ((l.drop 1), 0) 8).1 8).2), []⟩, 0) := by rw [readR_at hac, if_neg (by omega), readK_5 (.inl hk), finR_ok hbad]
            refine ⟨.agg #[.int .i64 ((ac.toNat : Int)), .string ByteArray.empty, .int .i64 (0), .int .i64 (toI ((numR ((l.drop 1), 0) 8).2)), .int .i64 (toI ((numR (numR ((l.drop 1), 0) 8).1 8).2)), .slice none 0 0], 0, rfl, ?_, ?_, hN.ext0⟩
            · rw [hq]; exact ⟨_, rfl, (Sl.nil _ _)⟩
            · rw [hq]
        · skip
          refine RW.region ?_
          refine RL.ev rfl rfl (ev_fieldAddr Try.underlying38 rfl sz3 (by decide) rfl) ?_
          refine RL.ev rfl rfl (ev_loadB Try.underlying3 rfl rfl (hN.blk 1 rfl) rfl) ?_
          refine RL.ev rfl rfl (ev_eql rfl rfl) ?_
          refine RL.nil ?_
          refine thenN ?_
          refine RW.condPF _ rfl (by omega) ?_
          refine RW.skip ?_
          refine thenN ?_
          refine RW.seq ?_
          refine RW.seq ?_
          refine RW.region ?_
          refine RL.ev rfl rfl (ev_fieldAddr Try.underlying38 rfl sz3 (by decide) rfl) ?_
          refine RL.ev rfl rfl (ev_loadB Try.underlying3 rfl rfl (hN.blk 1 rfl) rfl) ?_
          refine RL.ev rfl rfl (ev_eql rfl rfl) ?_
          refine RL.nil ?_
          refine thenN ?_
          refine RW.condPF _ rfl (by omega) ?_
          refine RW.skip ?_
          refine thenN ?_
          refine RW.seq ?_
          refine RW.seq ?_
          refine RW.region ?_
          refine RL.ev rfl rfl (ev_fieldAddr Try.underlying38 rfl sz3 (by decide) rfl) ?_
          refine RL.ev rfl rfl (ev_loadB Try.underlying3 rfl rfl (hN.blk 1 rfl) rfl) ?_
          refine RL.ev rfl rfl (ev_true (ev_geq rfl rfl) (by omega)) ?_
          refine RL.ev rfl rfl ev_move ?_
          refine RL.onEv rfl rfl (by decide) rfl rfl (ev_fieldAddr Try.underlying38 rfl sz3 (by decide) rfl) ?_
          refine RL.onEv rfl rfl (by decide) rfl rfl (ev_loadB Try.underlying3 rfl rfl (hN.blk 1 rfl) rfl) ?_
          refine RL.onEv rfl rfl (by decide) rfl rfl (ev_true (ev_leq rfl rfl) (by omega)) ?_
          refine RL.ev rfl rfl (ev_pickT rfl) ?_
          refine RL.nil ?_
          refine thenN ?_
          refine RW.condT rfl ?_
          refine RW.seq ?_
          refine RW.region ?_
          refine RL.ev rfl rfl (ev_loadAll (cs := [(cutV v 1 l.length), .int .i64 (0)]) Try.underlying73 rfl sz73 rfl (hN.blk 0 rfl)) ?_
          refine RL.op rfl rfl (op_call2 Try.func37 rfl rfl rfl rfl ((refNum_at (s := ((l.drop 1), 0)) ((hB.cutFrom (by omega)).ext hN.ext0) hN.size (show clip 8 = 8 from rfl) (eta (numR ((l.drop 1), 0) 8))).mono ?_))
          rintro _ w39 ⟨x39, rfl, ox39, he_⟩
          replace hN := hN.ext he_
          replace ox39 := ox39.back hN.ext0 (Nat.le_refl _)
          clear he_
          refine RL.ev rfl rfl ev_move ?_
          refine RL.ev rfl rfl (ev_extract rfl rfl) ?_
          refine RL.ev rfl rfl (ev_extract rfl rfl) ?_
          refine RL.op rfl rfl (opN_alloc (cs := [.slice none 0 0, .int .i64 (0)]) zero73 rfl hN ?_)
          intro g40 w40 hN_
          clear hN
          have hN : Now w none_ w40 [_, _, _, _] := hN_
          clear hN_
          refine RL.op rfl rfl (opN_storeAll (vs := [x39, .int .i64 ((numR ((l.drop 1), 0) 8).1.2)]) sz73 rfl rfl rfl (by intro u hu; simp only [List.mem_cons, List.not_mem_nil, or_false] at hu; rcases hu with rfl | rfl <;> first | rfl | exact (ox39.1.ext hN.ext0).one1) hN 0 rfl rfl ?_)
          intro w41 hN_
          clear hN
          have hN : Now w none_ w41 [_, _, _, _] := hN_
          clear hN_
          refine RL.ev rfl rfl ev_assign ?_
          refine RL.nil ?_
          refine thenN ?_
          refine RW.seq ?_
          refine RW.region ?_
          refine RL.ev rfl rfl ev_move ?_
          refine RL.ev rfl rfl (ev_conv Try.underlying39 Try.underlying3 rfl (wrap_i64n _ (numR_lt _ _ (by decide)))) ?_
          refine RL.ev rfl rfl (ev_fieldAddr Try.underlying38 rfl sz3 (by decide) rfl) ?_
          refine RL.op rfl rfl (opN_store sz3 rfl rfl rfl rfl hN 2 rfl (Nat.le_of_ble_eq_true rfl) ?_)
          intro w42 hN_
          clear hN
          have hN : Now w none_ w42 [_, _, _, _] := hN_
          clear hN_
          refine RL.nil ?_
          refine thenN ?_
          refine RW.region ?_
          refine RL.ev rfl rfl (ev_loadAll (cs := [x39, .int .i64 ((numR ((l.drop 1), 0) 8).1.2)]) Try.underlying73 rfl sz73 rfl (hN.blk 0 rfl)) ?_
          refine RL.op rfl rfl (opN_storeAll (vs := [x39, .int .i64 ((numR ((l.drop 1), 0) 8).1.2)]) sz73 rfl rfl rfl (by intro u hu; simp only [List.mem_cons, List.not_mem_nil, or_false] at hu; rcases hu with rfl | rfl <;> first | rfl | exact (ox39.1.ext hN.ext0).one1) hN 1 rfl rfl ?_)
          intro w43 hN_
          clear hN
          have hN : Now w none_ w43 [_, _, _, _] := hN_
          clear hN_
          refine RL.nil ?_
          refine thenN ?_
          refine RW.seq ?_
          refine RW.seq ?_
          refine RW.region ?_
          refine RL.ev rfl rfl (ev_fieldAddr Try.underlying38 rfl sz3 (by decide) rfl) ?_
          refine RL.ev rfl rfl (ev_loadB Try.underlying3 rfl rfl (hN.blk 2 rfl) rfl) ?_
          refine RL.ev rfl rfl (ev_false (ev_eql rfl rfl) (by omega)) ?_
          refine RL.ev rfl rfl ev_move ?_
          refine RL.onEv rfl rfl (by decide) rfl rfl (ev_fieldAddr Try.underlying38 rfl sz3 (by decide) rfl) ?_
          refine RL.onEv rfl rfl (by decide) rfl rfl (ev_loadB Try.underlying3 rfl rfl (hN.blk 2 rfl) rfl) ?_
          refine RL.onEv rfl rfl (by decide) rfl rfl (ev_true (ev_eql rfl rfl) (by omega)) ?_
          refine RL.ev rfl rfl (ev_pickF rfl) ?_
          refine RL.nil ?_
          refine thenN ?_
          refine RW.condT rfl ?_
          refine RW.seq ?_
          refine RW.region ?_
          refine RL.ev rfl rfl (ev_loadAll (cs := [x39, .int .i64 ((numR ((l.drop 1), 0) 8).1.2)]) Try.underlying73 rfl sz73 rfl (hN.blk 1 rfl)) ?_
          refine RL.op rfl rfl (op_call2 Try.func37 rfl rfl rfl rfl ((refNum_at (s := (numR ((l.drop 1), 0) 8).1) (ox39.ext hN.ext0) hN.size (show clip 8 = 8 from rfl) (eta (numR (numR ((l.drop 1), 0) 8).1 8))).mono ?_))
          rintro _ w44 ⟨x44, rfl, ox44, he_⟩
          replace hN := hN.ext he_
          replace ox44 := ox44.back hN.ext0 (Nat.le_refl _)
          clear he_
          refine RL.ev rfl rfl ev_move ?_
          refine RL.ev rfl rfl (ev_extract rfl rfl) ?_
          refine RL.ev rfl rfl (ev_extract rfl rfl) ?_
          refine RL.op rfl rfl (opN_alloc (cs := [.slice none 0 0, .int .i64 (0)]) zero73 rfl hN ?_)
          intro g45 w45 hN_
          clear hN
          have hN : Now w none_ w45 [_, _, _, _, _] := hN_
          clear hN_
          refine RL.op rfl rfl (opN_storeAll (vs := [x44, .int .i64 ((numR (numR ((l.drop 1), 0) 8).1 8).1.2)]) sz73 rfl rfl rfl (by intro u hu; simp only [List.mem_cons, List.not_mem_nil, or_false] at hu; rcases hu with rfl | rfl <;> first | rfl | exact (ox44.1.ext hN.ext0).one1) hN 0 rfl rfl ?_)
          intro w46 hN_
          clear hN
          have hN : Now w none_ w46 [_, _, _, _, _] := hN_
          clear hN_
          refine RL.ev rfl rfl ev_assign ?_
          refine RL.nil ?_
          refine thenN ?_
          refine RW.seq ?_
          refine RW.region ?_
          refine RL.ev rfl rfl ev_move ?_
          refine RL.ev rfl rfl (ev_conv Try.underlying39 Try.underlying3 rfl (wrap_i64n _ (numR_lt _ _ (by decide)))) ?_
          refine RL.ev rfl rfl (ev_fieldAddr Try.underlying38 rfl sz3 (by decide) rfl) ?_
          refine RL.op rfl rfl (opN_store sz3 rfl rfl rfl rfl hN 3 rfl (Nat.le_of_ble_eq_true rfl) ?_)
          intro w47 hN_
          clear hN
          have hN : Now w none_ w47 [_, _, _, _, _] := hN_
          clear hN_
          refine RL.nil ?_
          refine thenN ?_
          refine RW.region ?_
          refine RL.ev rfl rfl (ev_loadAll (cs := [x44, .int .i64 ((numR (numR ((l.drop 1), 0) 8).1 8).1.2)]) Try.underlying73 rfl sz73 rfl (hN.blk 0 rfl)) ?_
          refine RL.op rfl rfl (opN_storeAll (vs := [x44, .int .i64 ((numR (numR ((l.drop 1), 0) 8).1 8).1.2)]) sz73 rfl rfl rfl (by intro u hu; simp only [List.mem_cons, List.not_mem_nil, or_false] at hu; rcases hu with rfl | rfl <;> first | rfl | exact (ox44.1.ext hN.ext0).one1) hN 2 rfl rfl ?_)
          intro w48 hN_
          clear hN
          have hN : Now w none_ w48 [_, _, _, _, _] := hN_
          clear hN_
          refine RL.nil ?_
          refine thenN ?_
          refine RW.seq ?_
          refine RW.seq ?_
          refine RW.region ?_
          refine RL.ev rfl rfl (ev_fieldAddr Try.underlying38 rfl sz3 (by decide) rfl) ?_
          refine RL.ev rfl rfl (ev_loadB Try.underlying3 rfl rfl (hN.blk 3 rfl) rfl) ?_
          refine RL.ev rfl rfl (ev_eql rfl rfl) ?_
          refine RL.nil ?_
          refine thenN ?_
          refine RW.condPF _ rfl (by omega) ?_
          refine RW.skip ?_
          refine thenN ?_
          refine RW.seq ?_
          refine RW.region ?_
          refine RL.ev rfl rfl (ev_loadAll (cs := [x44, .int .i64 ((numR (numR ((l.drop 1), 0) 8).1 8).1.2)]) Try.underlying73 rfl sz73 rfl (hN.blk 2 rfl)) ?_
          refine RL.op rfl rfl (op_call1 Try.func39 rfl rfl rfl ((refEnd_calls _ (numR (numR ((l.drop 1), 0) 8).1 8).1 _ (ox44.1.ext hN.ext0)).mono ?_))
          rintro _ w49 ⟨rfl, he_⟩
          replace hN := hN.ext he_
          clear he_
          refine RL.ev rfl rfl ev_assign ?_
          refine RL.nil ?_
          refine thenN ?_
          refine RW.seq ?_
          refine RW.seq ?_
          refine RW.region ?_
          refine RL.ev rfl rfl ev_move ?_
          refine RL.ev rfl rfl (ev_neq rfl rfl) ?_
          refine RL.nil ?_
          refine thenN ?_
          refine RW.condP _ rfl (fun hbad => ?_) (fun hbad => ?_)
          · skip
            refine RW.seq ?_
            refine RW.region ?_
            refine RL.ev rfl rfl (ev_buildL (cs := [.int .i64 (0), .string ByteArray.empty, .int .i64 (0), .int .i64 (0), .int .i64 (0), .slice none 0 0]) Try.underlying38 zero38 (places := #[(0, 1), (1, 1), (2, 1), (3, 1), (4, 1), (5, 1)]) (by intro w; kernel_rfl) (pl := []) rfl (ps := []) rfl (zc := [.int .i64 (0), .string ByteArray.empty, .int .i64 (0), .int .i64 (0), .int .i64 (0), .slice none 0 0]) rfl rfl) ?_
            refine RL.ev rfl rfl ev_move ?_
            refine RL.op rfl rfl (opN_storeAll (vs := [.int .i64 (0), .string ByteArray.empty, .int .i64 (0), .int .i64 (0), .int .i64 (0), .slice none 0 0]) sz38 rfl rfl rfl (by intro u hu; simp only [List.mem_cons, List.not_mem_nil, or_false] at hu; rcases hu with rfl | rfl | rfl | rfl | rfl | rfl <;> first | rfl) hN 4 rfl rfl ?_)
            intro w50 hN_
            clear hN
            have hN : Now w none_ w50 [_, _, _, _, _] := hN_
            clear hN_
            refine RL.ev rfl rfl ev_assign ?_
            refine RL.nil ?_
            refine thenN ?_
            refine RW.ret ?_
            refine thenR ?_
            refine retI (RV.cellTmp rfl rfl (run_cell (hN.blk 4 rfl) Try.underlying38 rfl sz38)) ?_
            have hq : readR l = (Req.zero, (endR (numR (numR ((l.drop 1), 0) 8).1 8).1)) := by rw [readR_at hac, if_neg (by omega), readK_5 (.inr hk), finR_bad hbad]
            refine ⟨.agg #[.int .i64 (0), .string ByteArray.empty, .int .i64 (0), .int .i64 (0), .int .i64 (0), .slice none 0 0], (endR (numR (numR ((l.drop 1), 0) 8).1 8).1), rfl, ?_, ?_, hN.ext0⟩
            · rw [hq]; exact ReqV.zero _
            · rw [hq]
          · skip
            refine RW.skip ?_
            refine thenN ?_
            refine RW.seq ?_
            refine RW.region ?_
            refine RL.ev rfl rfl (ev_loadAll (cs := [.int .i64 ((ac.toNat : Int)), .string ByteArray.empty, .int .i64 (0), .int .i64 (toI ((numR ((l.drop 1), 0) 8).2)), .int .i64 (toI ((numR (numR ((l.drop 1), 0) 8).1 8).2)), .slice none 0 0]) Try.underlying38 rfl sz38 rfl (hN.blk 3 rfl)) ?_
            refine RL.op rfl rfl (opN_storeAll (vs := [.int .i64 ((ac.toNat : Int)), .string ByteArray.empty, .int .i64 (0), .int .i64 (toI ((numR ((l.drop 1), 0) 8).2)), .int .i64 (toI ((numR (numR ((l.drop 1), 0) 8).1 8).2)), .slice none 0 0]) sz38 rfl rfl rfl (by intro u hu; simp only [List.mem_cons, List.not_mem_nil, or_false] at hu; rcases hu with rfl | rfl | rfl | rfl | rfl | rfl <;> first | rfl) hN 4 rfl rfl ?_)
            intro w51 hN_
            clear hN
            have hN : Now w none_ w51 [_, _, _, _, _] := hN_
            clear hN_
            refine RL.ev rfl rfl ev_assign ?_
            refine RL.nil ?_
            refine thenN ?_
            refine RW.ret ?_
            refine retI (RV.cellTmp rfl rfl (run_cell (hN.blk 4 rfl) Try.underlying38 rfl sz38)) ?_
            have hq : readR l = (⟨(ac.toNat : Int), [], 0, toI ((numR ((l.drop 1), 0) 8).2), toI ((numR (numR ((l.drop 1), 0) 8).1 8).2), []⟩, 0) := by rw [readR_at hac, if_neg (by omega), readK_5 (.inr hk), finR_ok hbad]
            refine ⟨.agg #[.int .i64 ((ac.toNat : Int)), .string ByteArray.empty, .int .i64 (0), .int .i64 (toI ((numR ((l.drop 1), 0) 8).2)), .int .i64 (toI ((numR (numR ((l.drop 1), 0) 8).1 8).2)), .slice none 0 0], 0, rfl, ?_, ?_, hN.ext0⟩
            · rw [hq]; exact ⟨_, rfl, (Sl.nil _ _)⟩
            · rw [hq]
        · skip
          refine RW.region ?_
          refine RL.ev rfl rfl (ev_fieldAddr Try.underlying38 rfl sz3 (by decide) rfl) ?_
          refine RL.ev rfl rfl (ev_loadB Try.underlying3 rfl rfl (hN.blk 1 rfl) rfl) ?_
          refine RL.ev rfl rfl (ev_eql rfl rfl) ?_
          refine RL.nil ?_
          refine thenN ?_
          refine RW.condPF _ rfl (by omega) ?_
          refine RW.skip ?_
          refine thenN ?_
          refine RW.seq ?_
          refine RW.seq ?_
          refine RW.region ?_
          refine RL.ev rfl rfl (ev_fieldAddr Try.underlying38 rfl sz3 (by decide) rfl) ?_
          refine RL.ev rfl rfl (ev_loadB Try.underlying3 rfl rfl (hN.blk 1 rfl) rfl) ?_
          refine RL.ev rfl rfl (ev_eql rfl rfl) ?_
          refine RL.nil ?_
          refine thenN ?_
          refine RW.condPF _ rfl (by omega) ?_
          refine RW.skip ?_
          refine thenN ?_
          refine RW.seq ?_
          refine RW.seq ?_
          refine RW.region ?_
          refine RL.ev rfl rfl (ev_fieldAddr Try.underlying38 rfl sz3 (by decide) rfl) ?_
          refine RL.ev rfl rfl (ev_loadB Try.underlying3 rfl rfl (hN.blk 1 rfl) rfl) ?_
          refine RL.ev rfl rfl (ev_true (ev_geq rfl rfl) (by omega)) ?_
          refine RL.ev rfl rfl ev_move ?_
          refine RL.onEv rfl rfl (by decide) rfl rfl (ev_fieldAddr Try.underlying38 rfl sz3 (by decide) rfl) ?_
          refine RL.onEv rfl rfl (by decide) rfl rfl (ev_loadB Try.underlying3 rfl rfl (hN.blk 1 rfl) rfl) ?_
          refine RL.onEv rfl rfl (by decide) rfl rfl (ev_true (ev_leq rfl rfl) (by omega)) ?_
          refine RL.ev rfl rfl (ev_pickT rfl) ?_
          refine RL.nil ?_
          refine thenN ?_
          refine RW.condT rfl ?_
          refine RW.seq ?_
          refine RW.region ?_
          refine RL.ev rfl rfl (ev_loadAll (cs := [(cutV v 1 l.length), .int .i64 (0)]) Try.underlying73 rfl sz73 rfl (hN.blk 0 rfl)) ?_
          refine RL.op rfl rfl (op_call2 Try.func37 rfl rfl rfl rfl ((refNum_at (s := ((l.drop 1), 0)) ((hB.cutFrom (by omega)).ext hN.ext0) hN.size (show clip 8 = 8 from rfl) (eta (numR ((l.drop 1), 0) 8))).mono ?_))
          rintro _ w52 ⟨x52, rfl, ox52, he_⟩
          replace hN := hN.ext he_
          replace ox52 := ox52.back hN.ext0 (Nat.le_refl _)
          clear he_
          refine RL.ev rfl rfl ev_move ?_
          refine RL.ev rfl rfl (ev_extract rfl rfl) ?_
          refine RL.ev rfl rfl (ev_extract rfl rfl) ?_
          refine RL.op rfl rfl (opN_alloc (cs := [.slice none 0 0, .int .i64 (0)]) zero73 rfl hN ?_)
          intro g53 w53 hN_
          clear hN
          have hN : Now w none_ w53 [_, _, _, _] := hN_
          clear hN_
          refine RL.op rfl rfl (opN_storeAll (vs := [x52, .int .i64 ((numR ((l.drop 1), 0) 8).1.2)]) sz73 rfl rfl rfl (by intro u hu; simp only [List.mem_cons, List.not_mem_nil, or_false] at hu; rcases hu with rfl | rfl <;> first | rfl | exact (ox52.1.ext hN.ext0).one1) hN 0 rfl rfl ?_)
          intro w54 hN_
          clear hN
          have hN : Now w none_ w54 [_, _, _, _] := hN_
          clear hN_
          refine RL.ev rfl rfl ev_assign ?_
          refine RL.nil ?_
          refine thenN ?_
          refine RW.seq ?_
          refine RW.region ?_
          refine RL.ev rfl rfl ev_move ?_
          refine RL.ev rfl rfl (ev_conv Try.underlying39 Try.underlying3 rfl (wrap_i64n _ (numR_lt _ _ (by decide)))) ?_
          refine RL.ev rfl rfl (ev_fieldAddr Try.underlying38 rfl sz3 (by decide) rfl) ?_
          refine RL.op rfl rfl (opN_store sz3 rfl rfl rfl rfl hN 2 rfl (Nat.le_of_ble_eq_true rfl) ?_)
          intro w55 hN_
          clear hN
          have hN : Now w none_ w55 [_, _, _, _] := hN_
          clear hN_
          refine RL.nil ?_
          refine thenN ?_
          refine RW.region ?_
          refine RL.ev rfl rfl (ev_loadAll (cs := [x52, .int .i64 ((numR ((l.drop 1), 0) 8).1.2)]) Try.underlying73 rfl sz73 rfl (hN.blk 0 rfl)) ?_
          refine RL.op rfl rfl (opN_storeAll (vs := [x52, .int .i64 ((numR ((l.drop 1), 0) 8).1.2)]) sz73 rfl rfl rfl (by intro u hu; simp only [List.mem_cons, List.not_mem_nil, or_false] at hu; rcases hu with rfl | rfl <;> first | rfl | exact (ox52.1.ext hN.ext0).one1) hN 1 rfl rfl ?_)
          intro w56 hN_
          clear hN
          have hN : Now w none_ w56 [_, _, _, _] := hN_
          clear hN_
          refine RL.nil ?_
          refine thenN ?_
          refine RW.seq ?_
          refine RW.seq ?_
          refine RW.region ?_
          refine RL.ev rfl rfl (ev_fieldAddr Try.underlying38 rfl sz3 (by decide) rfl) ?_
          refine RL.ev rfl rfl (ev_loadB Try.underlying3 rfl rfl (hN.blk 2 rfl) rfl) ?_
          refine RL.ev rfl rfl (ev_false (ev_eql rfl rfl) (by omega)) ?_
          refine RL.ev rfl rfl ev_move ?_
          refine RL.onEv rfl rfl (by decide) rfl rfl (ev_fieldAddr Try.underlying38 rfl sz3 (by decide) rfl) ?_
          refine RL.onEv rfl rfl (by decide) rfl rfl (ev_loadB Try.underlying3 rfl rfl (hN.blk 2 rfl) rfl) ?_
          refine RL.onEv rfl rfl (by decide) rfl rfl (ev_false (ev_eql rfl rfl) (by omega)) ?_
          refine RL.ev rfl rfl (ev_pickF rfl) ?_
          refine RL.nil ?_
          refine thenN ?_
          refine RW.condF rfl ?_
          refine RW.skip ?_
          refine thenN ?_
          refine RW.seq ?_
          refine RW.seq ?_
          refine RW.region ?_
          refine RL.ev rfl rfl (ev_fieldAddr Try.underlying38 rfl sz3 (by decide) rfl) ?_
          refine RL.ev rfl rfl (ev_loadB Try.underlying3 rfl rfl (hN.blk 2 rfl) rfl) ?_
          refine RL.ev rfl rfl (ev_eql rfl rfl) ?_
          refine RL.nil ?_
          refine thenN ?_
          refine RW.condPT _ rfl (by omega) ?_
          refine RW.seq ?_
          refine RW.region ?_
          refine RL.ev rfl rfl (ev_loadAll (cs := [x52, .int .i64 ((numR ((l.drop 1), 0) 8).1.2)]) Try.underlying73 rfl sz73 rfl (hN.blk 1 rfl)) ?_
          refine RL.op rfl rfl (op_call2 Try.func38 rfl rfl rfl rfl ((refTakeInts_calls _ _ (numR ((l.drop 1), 0) 8).1 (1000) _ (ox52.ext hN.ext0) hN.size (by omega) (by omega)).mono ?_))
          rintro _ w57 ⟨x57, y57, rfl, ox57, oy_, he_⟩
          have hN_ := hN.pushOwn oy_ he_
          replace ox57 := ox57.back hN_.ext0 (Nat.le_refl _)
          clear oy_ he_
          clear hN
          have hN : Now w none_ w57 [_, _, _, _, _] := hN_
          clear hN_
          refine RL.ev rfl rfl ev_move ?_
          refine RL.ev rfl rfl (ev_extract rfl rfl) ?_
          refine RL.ev rfl rfl (ev_extract rfl rfl) ?_
          refine RL.op rfl rfl (opN_alloc (cs := [.slice none 0 0, .int .i64 (0)]) zero73 rfl hN ?_)
          intro g58 w58 hN_
          clear hN
          have hN : Now w none_ w58 [_, _, _, _, _, _] := hN_
          clear hN_
          refine RL.op rfl rfl (opN_storeAll (vs := [x57, .int .i64 ((intsR (numR ((l.drop 1), 0) 8).1 (1000)).1.2)]) sz73 rfl rfl rfl (by intro u hu; simp only [List.mem_cons, List.not_mem_nil, or_false] at hu; rcases hu with rfl | rfl <;> first | rfl | exact (ox57.1.ext hN.ext0).one1) hN 0 rfl rfl ?_)
          intro w59 hN_
          clear hN
          have hN : Now w none_ w59 [_, _, _, _, _, _] := hN_
          clear hN_
          refine RL.ev rfl rfl ev_assign ?_
          refine RL.nil ?_
          refine thenN ?_
          refine RW.seq ?_
          refine RW.region ?_
          refine RL.ev rfl rfl ev_move ?_
          refine RL.ev rfl rfl (ev_fieldAddr Try.underlying38 rfl sz36 (by decide) rfl) ?_
          refine RL.op rfl rfl (opN_store sz36 rfl rfl (hN.sl 1 rfl).cells1 (hN.sl 1 rfl).one1 hN 4 rfl (Nat.le_of_ble_eq_true rfl) ?_)
          intro w60 hN_
          clear hN
          have hN : Now w none_ w60 [_, _, _, _, _, _] := hN_
          clear hN_
          refine RL.nil ?_
          refine thenN ?_
          refine RW.region ?_
          refine RL.ev rfl rfl (ev_loadAll (cs := [x57, .int .i64 ((intsR (numR ((l.drop 1), 0) 8).1 (1000)).1.2)]) Try.underlying73 rfl sz73 rfl (hN.blk 0 rfl)) ?_
          refine RL.op rfl rfl (opN_storeAll (vs := [x57, .int .i64 ((intsR (numR ((l.drop 1), 0) 8).1 (1000)).1.2)]) sz73 rfl rfl rfl (by intro u hu; simp only [List.mem_cons, List.not_mem_nil, or_false] at hu; rcases hu with rfl | rfl <;> first | rfl | exact (ox57.1.ext hN.ext0).one1) hN 3 rfl rfl ?_)
          intro w61 hN_
          clear hN
          have hN : Now w none_ w61 [_, _, _, _, _, _] := hN_
          clear hN_
          refine RL.nil ?_
          refine thenN ?_
          refine RW.seq ?_
          refine RW.region ?_
          refine RL.ev rfl rfl (ev_loadAll (cs := [x57, .int .i64 ((intsR (numR ((l.drop 1), 0) 8).1 (1000)).1.2)]) Try.underlying73 rfl sz73 rfl (hN.blk 3 rfl)) ?_
          refine RL.op rfl rfl (op_call1 Try.func39 rfl rfl rfl ((refEnd_calls _ (intsR (numR ((l.drop 1), 0) 8).1 (1000)).1 _ (ox57.1.ext hN.ext0)).mono ?_))
          rintro _ w62 ⟨rfl, he_⟩
          replace hN := hN.ext he_
          clear he_
          refine RL.ev rfl rfl ev_assign ?_
          refine RL.nil ?_
          refine thenN ?_
          refine RW.seq ?_
          refine RW.seq ?_
          refine RW.region ?_
          refine RL.ev rfl rfl ev_move ?_
          refine RL.ev rfl rfl (ev_neq rfl rfl) ?_
          refine RL.nil ?_
          refine thenN ?_
          refine RW.condP _ rfl (fun hbad => ?_) (fun hbad => ?_)
          · skip
            refine RW.seq ?_
            refine RW.region ?_
            refine RL.ev rfl rfl (ev_buildL (cs := [.int .i64 (0), .string ByteArray.empty, .int .i64 (0), .int .i64 (0), .int .i64 (0), .slice none 0 0]) Try.underlying38 zero38 (places := #[(0, 1), (1, 1), (2, 1), (3, 1), (4, 1), (5, 1)]) (by intro w; kernel_rfl) (pl := []) rfl (ps := []) rfl (zc := [.int .i64 (0), .string ByteArray.empty, .int .i64 (0), .int .i64 (0), .int .i64 (0), .slice none 0 0]) rfl rfl) ?_
            refine RL.ev rfl rfl ev_move ?_
            refine RL.op rfl rfl (opN_storeAll (vs := [.int .i64 (0), .string ByteArray.empty, .int .i64 (0), .int .i64 (0), .int .i64 (0), .slice none 0 0]) sz38 rfl rfl rfl (by intro u hu; simp only [List.mem_cons, List.not_mem_nil, or_false] at hu; rcases hu with rfl | rfl | rfl | rfl | rfl | rfl <;> first | rfl) hN 5 rfl rfl ?_)
            intro w63 hN_
            clear hN
            have hN : Now w none_ w63 [_, _, _, _, _, _] := hN_
            clear hN_
            refine RL.ev rfl rfl ev_assign ?_
            refine RL.nil ?_
            refine thenN ?_
            refine RW.ret ?_
            refine thenR ?_
            refine retI (RV.cellTmp rfl rfl (run_cell (hN.blk 5 rfl) Try.underlying38 rfl sz38)) ?_
            have hq : readR l = (Req.zero, (endR (intsR (numR ((l.drop 1), 0) 8).1 (1000)).1)) := by rw [readR_at hac, if_neg (by omega), readK_7 hk, finR_bad hbad]
            refine ⟨.agg #[.int .i64 (0), .string ByteArray.empty, .int .i64 (0), .int .i64 (0), .int .i64 (0), .slice none 0 0], (endR (intsR (numR ((l.drop 1), 0) 8).1 (1000)).1), rfl, ?_, ?_, hN.ext0⟩
            · rw [hq]; exact ReqV.zero _
            · rw [hq]
          · skip
            refine RW.skip ?_
            refine thenN ?_
            refine RW.seq ?_
            refine RW.region ?_
            refine RL.ev rfl rfl (ev_loadAll (cs := [.int .i64 ((ac.toNat : Int)), .string ByteArray.empty, .int .i64 (0), .int .i64 (toI ((numR ((l.drop 1), 0) 8).2)), .int .i64 (0), y57]) Try.underlying38 rfl sz38 rfl (hN.blk 4 rfl)) ?_
            refine RL.op rfl rfl (opN_storeAll (vs := [.int .i64 ((ac.toNat : Int)), .string ByteArray.empty, .int .i64 (0), .int .i64 (toI ((numR ((l.drop 1), 0) 8).2)), .int .i64 (0), y57]) sz38 rfl rfl rfl (by intro u hu; simp only [List.mem_cons, List.not_mem_nil, or_false] at hu; rcases hu with rfl | rfl | rfl | rfl | rfl | rfl <;> first | rfl | exact (hN.sl 1 rfl).one1) hN 5 rfl rfl ?_)
            intro w64 hN_
            clear hN
            have hN : Now w none_ w64 [_, _, _, _, _, _] := hN_
            clear hN_
            refine RL.ev rfl rfl ev_assign ?_
            refine RL.nil ?_
            refine thenN ?_
            refine RW.ret ?_
            refine retI (RV.cellTmp rfl rfl (run_cell (hN.blk 5 rfl) Try.underlying38 rfl sz38)) ?_
            have hq : readR l = (⟨(ac.toNat : Int), [], 0, toI ((numR ((l.drop 1), 0) 8).2), 0, (intsR (numR ((l.drop 1), 0) 8).1 (1000)).2⟩, 0) := by rw [readR_at hac, if_neg (by omega), readK_7 hk, finR_ok hbad]
            refine ⟨.agg #[.int .i64 ((ac.toNat : Int)), .string ByteArray.empty, .int .i64 (0), .int .i64 (toI ((numR ((l.drop 1), 0) 8).2)), .int .i64 (0), y57], 0, rfl, ?_, ?_, hN.ext0⟩
            · rw [hq]; exact ⟨_, rfl, (hN.sl 1 rfl)⟩
            · rw [hq]
        · skip
          refine RW.region ?_
          refine RL.ev rfl rfl (ev_fieldAddr Try.underlying38 rfl sz3 (by decide) rfl) ?_
          refine RL.ev rfl rfl (ev_loadB Try.underlying3 rfl rfl (hN.blk 1 rfl) rfl) ?_
          refine RL.ev rfl rfl (ev_eql rfl rfl) ?_
          refine RL.nil ?_
          refine thenN ?_
          refine RW.condPF _ rfl (by omega) ?_
          refine RW.skip ?_
          refine thenN ?_
          refine RW.seq ?_
          refine RW.seq ?_
          refine RW.region ?_
          refine RL.ev rfl rfl (ev_fieldAddr Try.underlying38 rfl sz3 (by decide) rfl) ?_
          refine RL.ev rfl rfl (ev_loadB Try.underlying3 rfl rfl (hN.blk 1 rfl) rfl) ?_
          refine RL.ev rfl rfl (ev_eql rfl rfl) ?_
          refine RL.nil ?_
          refine thenN ?_
          refine RW.condPF _ rfl (by omega) ?_
          refine RW.skip ?_
          refine thenN ?_
          refine RW.seq ?_
          refine RW.seq ?_
          refine RW.region ?_
          refine RL.ev rfl rfl (ev_fieldAddr Try.underlying38 rfl sz3 (by decide) rfl) ?_
          refine RL.ev rfl rfl (ev_loadB Try.underlying3 rfl rfl (hN.blk 1 rfl) rfl) ?_
          refine RL.ev rfl rfl (ev_false (ev_geq rfl rfl) (by omega)) ?_
          refine RL.ev rfl rfl ev_move ?_
          refine RL.off rfl rfl (by decide) rfl rfl ?_
          refine RL.off rfl rfl (by decide) rfl rfl ?_
          refine RL.off rfl rfl (by decide) rfl rfl ?_
          refine RL.ev rfl rfl (ev_pickF rfl) ?_
          refine RL.nil ?_
          refine thenN ?_
          refine RW.condF rfl ?_
          refine RW.skip ?_
          refine thenN ?_
          refine RW.seq ?_
          refine RW.seq ?_
          refine RW.region ?_
          refine RL.ev rfl rfl (ev_fieldAddr Try.underlying38 rfl sz3 (by decide) rfl) ?_
          refine RL.ev rfl rfl (ev_loadB Try.underlying3 rfl rfl (hN.blk 1 rfl) rfl) ?_
          refine RL.ev rfl rfl (ev_false (ev_eql rfl rfl) (by omega)) ?_
          refine RL.ev rfl rfl ev_move ?_
          refine RL.onEv rfl rfl (by decide) rfl rfl (ev_fieldAddr Try.underlying38 rfl sz3 (by decide) rfl) ?_
          refine RL.onEv rfl rfl (by decide) rfl rfl (ev_loadB Try.underlying3 rfl rfl (hN.blk 1 rfl) rfl) ?_
          refine RL.onEv rfl rfl (by decide) rfl rfl (ev_false (ev_eql rfl rfl) (by omega)) ?_
          refine RL.ev rfl rfl (ev_pickF rfl) ?_
          refine RL.nil ?_
          refine thenN ?_
          refine RW.condF rfl ?_
          refine RW.skip ?_
          refine thenN ?_
          refine RW.seq ?_
          refine RW.seq ?_
          refine RW.region ?_
          refine RL.ev rfl rfl (ev_fieldAddr Try.underlying38 rfl sz3 (by decide) rfl) ?_
          refine RL.ev rfl rfl (ev_loadB Try.underlying3 rfl rfl (hN.blk 1 rfl) rfl) ?_
          refine RL.ev rfl rfl (ev_eql rfl rfl) ?_
          refine RL.nil ?_
          refine thenN ?_
          refine RW.condPF _ rfl (by omega) ?_
          refine RW.skip ?_
          refine thenN ?_
          refine RW.seq ?_
          refine RW.region ?_
          refine RL.ev rfl rfl (ev_loadAll (cs := [(cutV v 1 l.length), .int .i64 (0)]) Try.underlying73 rfl sz73 rfl (hN.blk 0 rfl)) ?_
          refine RL.op rfl rfl (op_call1 Try.func39 rfl rfl rfl ((refEnd_calls _ ((l.drop 1), 0) _ ((hv.ext hN.ext0).cutFrom (by omega))).mono ?_))
          rintro _ w65 ⟨rfl, he_⟩
          replace hN := hN.ext he_
          clear he_
          refine RL.ev rfl rfl ev_assign ?_
          refine RL.nil ?_
          refine thenN ?_
          refine RW.seq ?_
          refine RW.seq ?_
          refine RW.region ?_
          refine RL.ev rfl rfl ev_move ?_
          refine RL.ev rfl rfl (ev_neq rfl rfl) ?_
          refine RL.nil ?_
          refine thenN ?_
          refine RW.condP _ rfl (fun hbad => ?_) (fun hbad => ?_)
          · skip
            refine RW.seq ?_
            refine RW.region ?_
            refine RL.ev rfl rfl (ev_buildL (cs := [.int .i64 (0), .string ByteArray.empty, .int .i64 (0), .int .i64 (0), .int .i64 (0), .slice none 0 0]) Try.underlying38 zero38 (places := #[(0, 1), (1, 1), (2, 1), (3, 1), (4, 1), (5, 1)]) (by intro w; kernel_rfl) (pl := []) rfl (ps := []) rfl (zc := [.int .i64 (0), .string ByteArray.empty, .int .i64 (0), .int .i64 (0), .int .i64 (0), .slice none 0 0]) rfl rfl) ?_
            refine RL.ev rfl rfl ev_move ?_
            refine RL.op rfl rfl (opN_storeAll (vs := [.int .i64 (0), .string ByteArray.empty, .int .i64 (0), .int .i64 (0), .int .i64 (0), .slice none 0 0]) sz38 rfl rfl rfl (by intro u hu; simp only [List.mem_cons, List.not_mem_nil, or_false] at hu; rcases hu with rfl | rfl | rfl | rfl | rfl | rfl <;> first | rfl) hN 2 rfl rfl ?_)
            intro w66 hN_
            clear hN
            have hN : Now w none_ w66 [_, _, _] := hN_
            clear hN_
            refine RL.ev rfl rfl ev_assign ?_
            refine RL.nil ?_
            refine thenN ?_
            refine RW.ret ?_
            refine thenR ?_
            refine retI (RV.cellTmp rfl rfl (run_cell (hN.blk 2 rfl) Try.underlying38 rfl sz38)) ?_
            have hq : readR l = (Req.zero, (endR ((l.drop 1), 0))) := by rw [readR_at hac, if_neg (by omega), readK_3 (by omega), finR_bad hbad]
            refine ⟨.agg #[.int .i64 (0), .string ByteArray.empty, .int .i64 (0), .int .i64 (0), .int .i64 (0), .slice none 0 0], (endR ((l.drop 1), 0)), rfl, ?_, ?_, hN.ext0⟩
            · rw [hq]; exact ReqV.zero _
            · rw [hq]
          · skip
            refine RW.skip ?_
            refine thenN ?_
            refine RW.seq ?_
            refine RW.region ?_
            refine RL.ev rfl rfl (ev_loadAll (cs := [.int .i64 ((ac.toNat : Int)), .string ByteArray.empty, .int .i64 (0), .int .i64 (0), .int .i64 (0), .slice none 0 0]) Try.underlying38 rfl sz38 rfl (hN.blk 1 rfl)) ?_
            refine RL.op rfl rfl (opN_storeAll (vs := [.int .i64 ((ac.toNat : Int)), .string ByteArray.empty, .int .i64 (0), .int .i64 (0), .int .i64 (0), .slice none 0 0]) sz38 rfl rfl rfl (by intro u hu; simp only [List.mem_cons, List.not_mem_nil, or_false] at hu; rcases hu with rfl | rfl | rfl | rfl | rfl | rfl <;> first | rfl) hN 2 rfl rfl ?_)
            intro w67 hN_
            clear hN
            have hN : Now w none_ w67 [_, _, _] := hN_
            clear hN_
            refine RL.ev rfl rfl ev_assign ?_
            refine RL.nil ?_
            refine thenN ?_
            refine RW.ret ?_
            refine retI (RV.cellTmp rfl rfl (run_cell (hN.blk 2 rfl) Try.underlying38 rfl sz38)) ?_
            have hq : readR l = (⟨(ac.toNat : Int), [], 0, 0, 0, []⟩, 0) := by rw [readR_at hac, if_neg (by omega), readK_3 (by omega), finR_ok hbad]
            refine ⟨.agg #[.int .i64 ((ac.toNat : Int)), .string ByteArray.empty, .int .i64 (0), .int .i64 (0), .int .i64 (0), .slice none 0 0], 0, rfl, ?_, ?_, hN.ext0⟩
            · rw [hq]; exact ⟨_, rfl, (Sl.nil _ _)⟩
            · rw [hq]
        · skip
          refine RW.region ?_
          refine RL.ev rfl rfl (ev_fieldAddr Try.underlying38 rfl sz3 (by decide) rfl) ?_
          refine RL.ev rfl rfl (ev_loadB Try.underlying3 rfl rfl (hN.blk 1 rfl) rfl) ?_
          refine RL.ev rfl rfl (ev_eql rfl rfl) ?_
          refine RL.nil ?_
          refine thenN ?_
          refine RW.condPF _ rfl (by omega) ?_
          refine RW.skip ?_
          refine thenN ?_
          refine RW.seq ?_
          refine RW.seq ?_
          refine RW.region ?_
          refine RL.ev rfl rfl (ev_fieldAddr Try.underlying38 rfl sz3 (by decide) rfl) ?_
          refine RL.ev rfl rfl (ev_loadB Try.underlying3 rfl rfl (hN.blk 1 rfl) rfl) ?_
          refine RL.ev rfl rfl (ev_eql rfl rfl) ?_
          refine RL.nil ?_
          refine thenN ?_
          refine RW.condPF _ rfl (by omega) ?_
          refine RW.skip ?_
          refine thenN ?_
          refine RW.seq ?_
          refine RW.seq ?_
          refine RW.region ?_
          refine RL.ev rfl rfl (ev_fieldAddr Try.underlying38 rfl sz3 (by decide) rfl) ?_
          refine RL.ev rfl rfl (ev_loadB Try.underlying3 rfl rfl (hN.blk 1 rfl) rfl) ?_
          refine RL.ev rfl rfl (ev_true (ev_geq rfl rfl) (by omega)) ?_
          refine RL.ev rfl rfl ev_move ?_
          refine RL.onEv rfl rfl (by decide) rfl rfl (ev_fieldAddr Try.underlying38 rfl sz3 (by decide) rfl) ?_
          refine RL.onEv rfl rfl (by decide) rfl rfl (ev_loadB Try.underlying3 rfl rfl (hN.blk 1 rfl) rfl) ?_
          refine RL.onEv rfl rfl (by decide) rfl rfl (ev_false (ev_leq rfl rfl) (by omega)) ?_
          refine RL.ev rfl rfl (ev_pickT rfl) ?_
          refine RL.nil ?_
          refine thenN ?_
          refine RW.condF rfl ?_
          refine RW.skip ?_
          refine thenN ?_
          refine RW.seq ?_
          refine RW.seq ?_
          refine RW.region ?_
          refine RL.ev rfl rfl (ev_fieldAddr Try.underlying38 rfl sz3 (by decide) rfl) ?_
          refine RL.ev rfl rfl (ev_loadB Try.underlying3 rfl rfl (hN.blk 1 rfl) rfl) ?_
          refine RL.ev rfl rfl (ev_false (ev_eql rfl rfl) (by omega)) ?_
          refine RL.ev rfl rfl ev_move ?_
          refine RL.onEv rfl rfl (by decide) rfl rfl (ev_fieldAddr Try.underlying38 rfl sz3 (by decide) rfl) ?_
          refine RL.onEv rfl rfl (by decide) rfl rfl (ev_loadB Try.underlying3 rfl rfl (hN.blk 1 rfl) rfl) ?_
          refine RL.onEv rfl rfl (by decide) rfl rfl (ev_false (ev_eql rfl rfl) (by omega)) ?_
          refine RL.ev rfl rfl (ev_pickF rfl) ?_
          refine RL.nil ?_
          refine thenN ?_
          refine RW.condF rfl ?_
          refine RW.skip ?_
          refine thenN ?_
          refine RW.seq ?_
          refine RW.seq ?_
          refine RW.region ?_
          refine RL.ev rfl rfl (ev_fieldAddr Try.underlying38 rfl sz3 (by decide) rfl) ?_
          refine RL.ev rfl rfl (ev_loadB Try.underlying3 rfl rfl (hN.blk 1 rfl) rfl) ?_
          refine RL.ev rfl rfl (ev_eql rfl rfl) ?_
          refine RL.nil ?_
          refine thenN ?_
          refine RW.condPF _ rfl (by omega) ?_
          refine RW.skip ?_
          refine thenN ?_
          refine RW.seq ?_
          refine RW.region ?_
          refine RL.ev rfl rfl (ev_loadAll (cs := [(cutV v 1 l.length), .int .i64 (0)]) Try.underlying73 rfl sz73 rfl (hN.blk 0 rfl)) ?_
          refine RL.op rfl rfl (op_call1 Try.func39 rfl rfl rfl ((refEnd_calls _ ((l.drop 1), 0) _ ((hv.ext hN.ext0).cutFrom (by omega))).mono ?_))
          rintro _ w68 ⟨rfl, he_⟩
          replace hN := hN.ext he_
          clear he_
          refine RL.ev rfl rfl ev_assign ?_
          refine RL.nil ?_
          refine thenN ?_
          refine RW.seq ?_
          refine RW.seq ?_
          refine RW.region ?_
          refine RL.ev rfl rfl ev_move ?_
          refine RL.ev rfl rfl (ev_neq rfl rfl) ?_
          refine RL.nil ?_
          refine thenN ?_
          refine RW.condP _ rfl (fun hbad => ?_) (fun hbad => ?_)
          · skip
            refine RW.seq ?_
            refine RW.region ?_
            refine RL.ev rfl rfl (ev_buildL (cs := [.int .i64 (0), .string ByteArray.empty, .int .i64 (0), .int .i64 (0), .int .i64 (0), .slice none 0 0]) Try.underlying38 zero38 (places := #[(0, 1), (1, 1), (2, 1), (3, 1), (4, 1), (5, 1)]) (by intro w; kernel_rfl) (pl := []) rfl (ps := []) rfl (zc := [.int .i64 (0), .string ByteArray.empty, .int .i64 (0), .int .i64 (0), .int .i64 (0), .slice none 0 0]) rfl rfl) ?_
            refine RL.ev rfl rfl ev_move ?_
            refine RL.op rfl rfl (opN_storeAll (vs := [.int .i64 (0), .string ByteArray.empty, .int .i64 (0), .int .i64 (0), .int .i64 (0), .slice none 0 0]) sz38 rfl rfl rfl (by intro u hu; simp only [List.mem_cons, List.not_mem_nil, or_false] at hu; rcases hu with rfl | rfl | rfl | rfl | rfl | rfl <;> first | rfl) hN 2 rfl rfl ?_)
            intro w69 hN_
            clear hN
            have hN : Now w none_ w69 [_, _, _] := hN_
            clear hN_
            refine RL.ev rfl rfl ev_assign ?_
            refine RL.nil ?_
            refine thenN ?_
            refine RW.ret ?_
            refine thenR ?_
            refine retI (RV.cellTmp rfl rfl (run_cell (hN.blk 2 rfl) Try.underlying38 rfl sz38)) ?_
            have hq : readR l = (Req.zero, (endR ((l.drop 1), 0))) := by rw [readR_at hac, if_neg (by omega), readK_3 (by omega), finR_bad hbad]
            refine ⟨.agg #[.int .i64 (0), .string ByteArray.empty, .int .i64 (0), .int .i64 (0), .int .i64 (0), .slice none 0 0], (endR ((l.drop 1), 0)), rfl, ?_, ?_, hN.ext0⟩
            · rw [hq]; exact ReqV.zero _
            · rw [hq]
          · skip
            refine RW.skip ?_
            refine thenN ?_
            refine RW.seq ?_
            refine RW.region ?_
            refine RL.ev rfl rfl (ev_loadAll (cs := [.int .i64 ((ac.toNat : Int)), .string ByteArray.empty, .int .i64 (0), .int .i64 (0), .int .i64 (0), .slice none 0 0]) Try.underlying38 rfl sz38 rfl (hN.blk 1 rfl)) ?_
            refine RL.op rfl rfl (opN_storeAll (vs := [.int .i64 ((ac.toNat : Int)), .string ByteArray.empty, .int .i64 (0), .int .i64 (0), .int .i64 (0), .slice none 0 0]) sz38 rfl rfl rfl (by intro u hu; simp only [List.mem_cons, List.not_mem_nil, or_false] at hu; rcases hu with rfl | rfl | rfl | rfl | rfl | rfl <;> first | rfl) hN 2 rfl rfl ?_)
            intro w70 hN_
            clear hN
            have hN : Now w none_ w70 [_, _, _] := hN_
            clear hN_
            refine RL.ev rfl rfl ev_assign ?_
            refine RL.nil ?_
            refine thenN ?_
            refine RW.ret ?_
            refine retI (RV.cellTmp rfl rfl (run_cell (hN.blk 2 rfl) Try.underlying38 rfl sz38)) ?_
            have hq : readR l = (⟨(ac.toNat : Int), [], 0, 0, 0, []⟩, 0) := by rw [readR_at hac, if_neg (by omega), readK_3 (by omega), finR_ok hbad]
            refine ⟨.agg #[.int .i64 ((ac.toNat : Int)), .string ByteArray.empty, .int .i64 (0), .int .i64 (0), .int .i64 (0), .slice none 0 0], 0, rfl, ?_, ?_, hN.ext0⟩
            · rw [hq]; exact ⟨_, rfl, (Sl.nil _ _)⟩
            · rw [hq]

end Go.Proofs.Ytihchogjmgbipaa
