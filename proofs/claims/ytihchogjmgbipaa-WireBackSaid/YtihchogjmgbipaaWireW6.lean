import Derived.Test.YtihchogjmgbipaaWireW5
set_option linter.unusedVariables false
set_option linter.unusedSimpArgs false
namespace Go.Proofs.Ytihchogjmgbipaa
open Go.RowKit Go.Rl

open Go.Codec
theorem reqOpen {w : World} {v : Value} {q : Req} (h : ReqV w v q) : ∃ x, v = .agg #[.int .i64 q.kind, str q.text, .int .i64 q.k, .int .i64 q.s, .int .i64 q.t, x] ∧ Sl vi w x q.ts := h

set_option maxHeartbeats 4000000 in
set_option maxRecDepth 100000 in
/-- postroad/postroadref19.SameRequest -/
theorem sameReq_calls (a b : Value) (q : Req) (w : World) (ha : ReqV w a q) (hb : ReqV w b q) : Gives Try.prog 17 #[a, b] w fun r w' => r = .bool true ∧ Ext w w' := by
  obtain ⟨x, e_, hx⟩ := ha
  subst e_
  obtain ⟨y, e_, hy⟩ := hb
  subst e_
  refine Gives.start Try.func17 rfl (Nat.le_of_ble_eq_true rfl) ?_
  rw [args2]
  have hN := Now.nil w none_
  refine RW.seq ?_
  refine RW.region ?_
  refine RL.op rfl rfl (opN_box (cs := [.int .i64 (q.kind), (str q.text), .int .i64 (q.k), .int .i64 (q.s), .int .i64 (q.t), x]) rfl rfl hN ?_)
  intro g1 w1 hN_
  clear hN
  have hN : Now w none_ w1 [_] := hN_
  clear hN_
  refine RL.op rfl rfl (opN_box (cs := [.int .i64 (q.kind), (str q.text), .int .i64 (q.k), .int .i64 (q.s), .int .i64 (q.t), y]) rfl rfl hN ?_)
  intro g2 w2 hN_
  clear hN
  have hN : Now w none_ w2 [_, _] := hN_
  clear hN_
  refine RL.ev rfl rfl ev_assign ?_
  refine RL.nil ?_
  refine thenN ?_
  refine RW.seq ?_
  refine RW.region ?_
  refine RL.ev rfl rfl (ev_fieldAddr Try.underlying38 rfl sz3 (by decide) rfl) ?_
  refine RL.ev rfl rfl (ev_loadB Try.underlying3 rfl rfl (hN.blk 1 rfl) rfl) ?_
  refine RL.ev rfl rfl (ev_fieldAddr Try.underlying38 rfl sz3 (by decide) rfl) ?_
  refine RL.ev rfl rfl (ev_loadB Try.underlying3 rfl rfl (hN.blk 0 rfl) rfl) ?_
  refine RL.ev rfl rfl (ev_true (ev_eql rfl rfl) rfl) ?_
  refine RL.ev rfl rfl ev_move ?_
  refine RL.onEv rfl rfl (by decide) rfl rfl (ev_fieldAddr Try.underlying38 rfl sz9 (by decide) rfl) ?_
  refine RL.onEv rfl rfl (by decide) rfl rfl (ev_loadB Try.underlying9 rfl rfl (hN.blk 1 rfl) rfl) ?_
  refine RL.onEv rfl rfl (by decide) rfl rfl (ev_fieldAddr Try.underlying38 rfl sz9 (by decide) rfl) ?_
  refine RL.onEv rfl rfl (by decide) rfl rfl (ev_loadB Try.underlying9 rfl rfl (hN.blk 0 rfl) rfl) ?_
  refine RL.onEv rfl rfl (by decide) rfl rfl (ev_true (ev_strEq rfl rfl) rfl) ?_
  refine RL.ev rfl rfl (ev_pickT rfl) ?_
  refine RL.ev rfl rfl ev_move ?_
  refine RL.onEv rfl rfl (by decide) rfl rfl (ev_fieldAddr Try.underlying38 rfl sz3 (by decide) rfl) ?_
  refine RL.onEv rfl rfl (by decide) rfl rfl (ev_loadB Try.underlying3 rfl rfl (hN.blk 1 rfl) rfl) ?_
  refine RL.onEv rfl rfl (by decide) rfl rfl (ev_fieldAddr Try.underlying38 rfl sz3 (by decide) rfl) ?_
  refine RL.onEv rfl rfl (by decide) rfl rfl (ev_loadB Try.underlying3 rfl rfl (hN.blk 0 rfl) rfl) ?_
  refine RL.onEv rfl rfl (by decide) rfl rfl (ev_true (ev_eql rfl rfl) rfl) ?_
  refine RL.ev rfl rfl (ev_pickT rfl) ?_
  refine RL.ev rfl rfl ev_move ?_
  refine RL.onEv rfl rfl (by decide) rfl rfl (ev_fieldAddr Try.underlying38 rfl sz3 (by decide) rfl) ?_
  refine RL.onEv rfl rfl (by decide) rfl rfl (ev_loadB Try.underlying3 rfl rfl (hN.blk 1 rfl) rfl) ?_
  refine RL.onEv rfl rfl (by decide) rfl rfl (ev_fieldAddr Try.underlying38 rfl sz3 (by decide) rfl) ?_
  refine RL.onEv rfl rfl (by decide) rfl rfl (ev_loadB Try.underlying3 rfl rfl (hN.blk 0 rfl) rfl) ?_
  refine RL.onEv rfl rfl (by decide) rfl rfl (ev_true (ev_eql rfl rfl) rfl) ?_
  refine RL.ev rfl rfl (ev_pickT rfl) ?_
  refine RL.ev rfl rfl ev_move ?_
  refine RL.onEv rfl rfl (by decide) rfl rfl (ev_fieldAddr Try.underlying38 rfl sz3 (by decide) rfl) ?_
  refine RL.onEv rfl rfl (by decide) rfl rfl (ev_loadB Try.underlying3 rfl rfl (hN.blk 1 rfl) rfl) ?_
  refine RL.onEv rfl rfl (by decide) rfl rfl (ev_fieldAddr Try.underlying38 rfl sz3 (by decide) rfl) ?_
  refine RL.onEv rfl rfl (by decide) rfl rfl (ev_loadB Try.underlying3 rfl rfl (hN.blk 0 rfl) rfl) ?_
  refine RL.onEv rfl rfl (by decide) rfl rfl (ev_true (ev_eql rfl rfl) rfl) ?_
  refine RL.ev rfl rfl (ev_pickT rfl) ?_
  refine RL.ev rfl rfl ev_move ?_
  refine RL.onEv rfl rfl (by decide) rfl rfl (ev_fieldAddr Try.underlying38 rfl sz36 (by decide) rfl) ?_
  refine RL.onEv rfl rfl (by decide) rfl rfl (ev_loadB Try.underlying36 rfl rfl (hN.blk 1 rfl) rfl) ?_
  refine RL.onEv rfl rfl (by decide) rfl rfl (ev_fieldAddr Try.underlying38 rfl sz36 (by decide) rfl) ?_
  refine RL.onEv rfl rfl (by decide) rfl rfl (ev_loadB Try.underlying36 rfl rfl (hN.blk 0 rfl) rfl) ?_
  refine RL.on rfl rfl (by decide) rfl rfl (op_call2 Try.func31 rfl rfl rfl rfl ((sameInts_true (hx.ext hN.ext0) (hy.ext hN.ext0) rfl).mono ?_))
  rintro _ w3 ⟨rfl, he_⟩
  replace hN := hN.ext he_
  clear he_
  refine RL.ev rfl rfl (ev_pickT rfl) ?_
  refine RL.ev rfl rfl ev_assign ?_
  refine RL.nil ?_
  refine thenN ?_
  refine RW.ret ?_
  refine retI (RV.tmp rfl) ?_
  exact ⟨rfl, hN.ext0⟩

set_option maxHeartbeats 4000000 in
set_option maxRecDepth 100000 in
/-- postroad/postroadlaw19.known -/
theorem known_calls (w : World) : Gives Try.prog 10 #[] w fun r w' => r = .bool true ∧ Ext w w' := by
  refine Gives.start Try.func10 rfl (Nat.le_of_ble_eq_true rfl) ?_
  rw [args0]
  have hN := Now.nil w none_
  refine RW.seq ?_
  refine RW.region ?_
  refine RL.ev rfl rfl ev_assign ?_
  refine RL.nil ?_
  refine thenN ?_
  refine RW.seq ?_
  refine RW.region ?_
  refine RL.ev rfl rfl (ev_buildL (cs := [.int .i64 (5), .string ByteArray.empty, .int .i64 (0), .int .i64 (1), .int .i64 (2), .slice none 0 0]) Try.underlying38 zero38 (places := #[(0, 1), (1, 1), (2, 1), (3, 1), (4, 1), (5, 1)]) (by intro w; kernel_rfl) (pl := [(0, .const (.int .i64 (5))), (3, .const (.int .i64 (1))), (4, .const (.int .i64 (2)))]) rfl (ps := [(0, .int .i64 (5)), (3, .int .i64 (1)), (4, .int .i64 (2))]) rfl (zc := [.int .i64 (0), .string ByteArray.empty, .int .i64 (0), .int .i64 (0), .int .i64 (0), .slice none 0 0]) rfl (fill_step (vs := [.int .i64 (5)]) rfl rfl (Nat.le_of_ble_eq_true rfl) (fill_step (vs := [.int .i64 (1)]) rfl rfl (Nat.le_of_ble_eq_true rfl) (fill_step (vs := [.int .i64 (2)]) rfl rfl (Nat.le_of_ble_eq_true rfl) rfl)))) ?_
  refine RL.op rfl rfl (op_call1 Try.func25 rfl rfl rfl ((ask_calls _ (⟨5, [], 0, 1, 2, []⟩) _ ⟨.slice none 0 0, rfl, (Sl.nil _ _)⟩ (by first | omega | (simp; done) | (simp; omega)) (by first | omega | (simp; done) | (simp; omega))).mono ?_))
  rintro v1 w1 ⟨ho_, he_⟩
  have hN_ := hN.pushOwn (l := askB (⟨5, [], 0, 1, 2, []⟩)) ho_ he_
  clear ho_ he_
  clear hN
  have hN : Now w none_ w1 [_] := hN_
  clear hN_
  replace hN := hN.relist 0 rfl (show _ = [5, 1, 0, 0, 0, 0, 0, 0, 0, 2, 0, 0, 0, 0, 0, 0, 0] from by decide +kernel)
  replace hN : Now w none_ w1 [_] := hN
  refine RL.ev rfl rfl ev_assign ?_
  refine RL.nil ?_
  refine thenN ?_
  refine RW.seq ?_
  refine RW.region ?_
  refine RL.ev rfl rfl ev_move ?_
  have hL_2 := (hN.sl 0 rfl).len_le
  refine RL.ev rfl rfl (ev_lenS Try.underlying23 (hN.sl 0 rfl) rfl) ?_
  refine RL.ev rfl rfl (ev_true (ev_eql rfl rfl) rfl) ?_
  refine RL.ev rfl rfl ev_move ?_
  refine RL.onEv rfl rfl (by decide) rfl rfl ev_move ?_
  refine RL.onEv rfl rfl (by decide) rfl rfl (ev_index Try.underlying23 sz5 (hN.sl 0 rfl) rfl rfl (by decide) (by decide)) ?_
  refine RL.onEv rfl rfl (by decide) rfl rfl (ev_loadG (m := 0) (a := 5) Try.underlying5 rfl (hN.sl 0 rfl) rfl rfl) ?_
  refine RL.onEv rfl rfl (by decide) rfl rfl (ev_true (ev_eql rfl rfl) rfl) ?_
  refine RL.ev rfl rfl (ev_pickT rfl) ?_
  refine RL.ev rfl rfl ev_move ?_
  refine RL.onEv rfl rfl (by decide) rfl rfl ev_move ?_
  refine RL.onEv rfl rfl (by decide) rfl rfl (ev_index Try.underlying23 sz5 (hN.sl 0 rfl) rfl rfl (by decide) (by decide)) ?_
  refine RL.onEv rfl rfl (by decide) rfl rfl (ev_loadG (m := 1) (a := 1) Try.underlying5 rfl (hN.sl 0 rfl) rfl rfl) ?_
  refine RL.onEv rfl rfl (by decide) rfl rfl (ev_true (ev_eql rfl rfl) rfl) ?_
  refine RL.ev rfl rfl (ev_pickT rfl) ?_
  refine RL.ev rfl rfl ev_move ?_
  refine RL.onEv rfl rfl (by decide) rfl rfl ev_move ?_
  refine RL.onEv rfl rfl (by decide) rfl rfl (ev_index Try.underlying23 sz5 (hN.sl 0 rfl) rfl rfl (by decide) (by decide)) ?_
  refine RL.onEv rfl rfl (by decide) rfl rfl (ev_loadG (m := 9) (a := 2) Try.underlying5 rfl (hN.sl 0 rfl) rfl rfl) ?_
  refine RL.onEv rfl rfl (by decide) rfl rfl (ev_true (ev_eql rfl rfl) rfl) ?_
  refine RL.ev rfl rfl (ev_pickT rfl) ?_
  refine RL.ev rfl rfl ev_assign ?_
  refine RL.nil ?_
  refine thenN ?_
  refine RW.ret ?_
  refine retI (RV.tmp rfl) ?_
  exact ⟨rfl, hN.ext0⟩

set_option maxHeartbeats 4000000 in
set_option maxRecDepth 100000 in
/-- postroad/postroadlaw19.WireTells -/
theorem wireTells_calls (v b : Value) (r : Resp) (l : List UInt8) (w : World) (hr : RespV w v r) (hb : Sl vb w b l) (hp : r.print < 18446744073709551616) : Gives Try.prog 5 #[v, b] w fun r w' => r = .bool true ∧ Ext w w' := by
  have hOb_ := respOpen hr
  obtain ⟨x, y, e_, hx, hy⟩ := hOb_
  subst e_
  refine Gives.start Try.func5 rfl (Nat.le_of_ble_eq_true rfl) ?_
  rw [args2]
  have hN := Now.nil w none_
  refine RW.seq ?_
  refine RW.region ?_
  refine RL.op rfl rfl (opN_box (cs := [.int .i64 (r.err), .int .i64 (r.line), .int .i64 (r.d), x, y, .int .i64 (r.n), .int .i64 (r.m), .int .i64 (r.k), .int .u64 ((r.print : Int))]) rfl rfl hN ?_)
  intro g1 w1 hN_
  clear hN
  have hN : Now w none_ w1 [_] := hN_
  clear hN_
  refine RL.ev rfl rfl ev_assign ?_
  refine RL.nil ?_
  refine thenN ?_
  refine RW.seq ?_
  refine RW.seq ?_
  refine RW.region ?_
  refine RL.ev rfl rfl (ev_fieldAddr Try.underlying41 rfl sz36 (by decide) rfl) ?_
  refine RL.ev rfl rfl (ev_loadB Try.underlying36 rfl rfl (hN.blk 0 rfl) rfl) ?_
  have hL_2 := (hx.ext hN.ext0).len_le
  refine RL.ev rfl rfl (ev_lenS Try.underlying36 (hx.ext hN.ext0) rfl) ?_
  refine RL.ev rfl rfl (ev_gtr rfl rfl) ?_
  refine RL.ev rfl rfl ev_move ?_
  by_cases hg1_4 : 100 < (r.ds.length : Int)
  · skip
    rw [decide_eq_true hg1_4]
    refine RL.off rfl rfl (by decide) rfl rfl ?_
    refine RL.off rfl rfl (by decide) rfl rfl ?_
    refine RL.off rfl rfl (by decide) rfl rfl ?_
    refine RL.off rfl rfl (by decide) rfl rfl ?_
    refine RL.ev rfl rfl (ev_pickT rfl) ?_
    refine RL.ev rfl rfl ev_move ?_
    refine RL.off rfl rfl (by decide) rfl rfl ?_
    refine RL.off rfl rfl (by decide) rfl rfl ?_
    refine RL.off rfl rfl (by decide) rfl rfl ?_
    refine RL.ev rfl rfl (ev_pickT rfl) ?_
    refine RL.nil ?_
    refine thenN ?_
    refine RW.condT rfl ?_
    refine RW.seq ?_
    refine RW.region ?_
    refine RL.op rfl rfl (op_call0 Try.func10 rfl rfl ((known_calls _).mono ?_))
    rintro _ w3 ⟨rfl, he_⟩
    replace hN := hN.ext he_
    clear he_
    refine RL.ev rfl rfl ev_assign ?_
    refine RL.nil ?_
    refine thenN ?_
    refine RW.ret ?_
    refine thenR ?_
    refine retI (RV.tmp rfl) ?_
    exact ⟨rfl, hN.ext0⟩
  · skip
    rw [decide_eq_false hg1_4]
    refine RL.onEv rfl rfl (by decide) rfl rfl (ev_fieldAddr Try.underlying41 rfl sz36 (by decide) rfl) ?_
    refine RL.onEv rfl rfl (by decide) rfl rfl (ev_loadB Try.underlying36 rfl rfl (hN.blk 0 rfl) rfl) ?_
    have hL_4 := (hy.ext hN.ext0).len_le
    refine RL.onEv rfl rfl (by decide) rfl rfl (ev_lenS Try.underlying36 (hy.ext hN.ext0) rfl) ?_
    refine RL.onEv rfl rfl (by decide) rfl rfl (ev_gtr rfl rfl) ?_
    refine RL.ev rfl rfl (ev_pickF rfl) ?_
    refine RL.ev rfl rfl ev_move ?_
    by_cases hg1_10 : 100 < (r.arcs.length : Int)
    · skip
      rw [decide_eq_true hg1_10]
      refine RL.off rfl rfl (by decide) rfl rfl ?_
      refine RL.off rfl rfl (by decide) rfl rfl ?_
      refine RL.off rfl rfl (by decide) rfl rfl ?_
      refine RL.ev rfl rfl (ev_pickT rfl) ?_
      refine RL.nil ?_
      refine thenN ?_
      refine RW.condT rfl ?_
      refine RW.seq ?_
      refine RW.region ?_
      refine RL.op rfl rfl (op_call0 Try.func10 rfl rfl ((known_calls _).mono ?_))
      rintro _ w5 ⟨rfl, he_⟩
      replace hN := hN.ext he_
      clear he_
      refine RL.ev rfl rfl ev_assign ?_
      refine RL.nil ?_
      refine thenN ?_
      refine RW.ret ?_
      refine thenR ?_
      refine retI (RV.tmp rfl) ?_
      exact ⟨rfl, hN.ext0⟩
    · skip
      rw [decide_eq_false hg1_10]
      refine RL.onEv rfl rfl (by decide) rfl rfl ev_move ?_
      have hL_6 := (hb.ext hN.ext0).len_le
      refine RL.onEv rfl rfl (by decide) rfl rfl (ev_lenS Try.underlying23 (hb.ext hN.ext0) rfl) ?_
      refine RL.onEv rfl rfl (by decide) rfl rfl (ev_gtr rfl rfl) ?_
      refine RL.ev rfl rfl (ev_pickF rfl) ?_
      refine RL.nil ?_
      refine thenN ?_
      refine RW.condP _ rfl (fun hc23 => ?_) (fun hc23 => ?_)
      · skip
        refine RW.seq ?_
        refine RW.region ?_
        refine RL.op rfl rfl (op_call0 Try.func10 rfl rfl ((known_calls _).mono ?_))
        rintro _ w7 ⟨rfl, he_⟩
        replace hN := hN.ext he_
        clear he_
        refine RL.ev rfl rfl ev_assign ?_
        refine RL.nil ?_
        refine thenN ?_
        refine RW.ret ?_
        refine thenR ?_
        refine retI (RV.tmp rfl) ?_
        exact ⟨rfl, hN.ext0⟩
      · skip
        refine RW.skip ?_
        refine thenN ?_
        refine RW.seq ?_
        refine RW.region ?_
        refine RL.ev rfl rfl ev_move ?_
        refine RL.op rfl rfl (op_call1 Try.func18 rfl rfl rfl ((hear_calls _ l _ (hb.ext hN.ext0) (by (try simp only [List.length_append, List.length_take, List.length_drop, num8_length, putInts_length, putText_length, put_length, List.flatten_cons, List.flatten_nil, List.length_nil, List.length_cons]); omega)).mono ?_))
        rintro _ w8 ⟨x_, _, rfl, hx_, rfl, he_⟩
        have ho_ := respOpen hx_
        obtain ⟨xs8, ys8, e1_, hx8, hy8⟩ := ho_
        subst e1_
        replace hN := hN.ext he_
        clear he_ hx_
        have hF9 := hN
        clear hN
        have hN := Now.nil w8 none_
        refine RL.ev rfl rfl ev_move ?_
        refine RL.ev rfl rfl (ev_extract rfl rfl) ?_
        refine RL.ev rfl rfl (ev_extract rfl rfl) ?_
        refine RL.op rfl rfl (opN_alloc (cs := [.int .i64 (0), .int .i64 (0), .int .i64 (0), .slice none 0 0, .slice none 0 0, .int .i64 (0), .int .i64 (0), .int .i64 (0), .int .u64 (0)]) zero41 rfl hN ?_)
        intro g10 w10 hN_
        clear hN
        have hN : Now w8 none_ w10 [_] := hN_
        clear hN_
        refine RL.op rfl rfl (opN_storeAll (vs := [.int .i64 ((hearR l).1.err), .int .i64 ((hearR l).1.line), .int .i64 ((hearR l).1.d), xs8, ys8, .int .i64 ((hearR l).1.n), .int .i64 ((hearR l).1.m), .int .i64 ((hearR l).1.k), .int .u64 (((hearR l).1.print : Int))]) sz41 rfl rfl rfl (by intro u hu; simp only [List.mem_cons, List.not_mem_nil, or_false] at hu; rcases hu with rfl | rfl | rfl | rfl | rfl | rfl | rfl | rfl | rfl <;> first | rfl | exact (hx8.ext hN.ext0).one1 | exact (hy8.ext hN.ext0).one1) hN 0 rfl rfl ?_)
        intro w11 hN_
        clear hN
        have hN : Now w8 none_ w11 [_] := hN_
        clear hN_
        refine RL.ev rfl rfl ev_assign ?_
        refine RL.nil ?_
        refine thenN ?_
        refine RW.seq ?_
        refine RW.region ?_
        refine RL.ev rfl rfl ev_move ?_
        refine RL.op rfl rfl (op_call1 Try.func19 rfl rfl rfl ((refHear_calls _ l _ ((hb.ext hF9.ext0).ext hN.ext0) (by (try simp only [List.length_append, List.length_take, List.length_drop, num8_length, putInts_length, putText_length, put_length, List.flatten_cons, List.flatten_nil, List.length_nil, List.length_cons]); omega)).mono ?_))
        rintro _ w12 ⟨x_, _, rfl, hx_, rfl, he_⟩
        have ho_ := respOpen hx_
        obtain ⟨xs12, ys12, e1_, hx12, hy12⟩ := ho_
        subst e1_
        replace hN := hN.ext he_
        clear he_ hx_
        have hF13 := hN
        clear hN
        have hN := Now.nil w12 none_
        refine RL.ev rfl rfl ev_move ?_
        refine RL.ev rfl rfl (ev_extract rfl rfl) ?_
        refine RL.ev rfl rfl (ev_extract rfl rfl) ?_
        refine RL.op rfl rfl (opN_alloc (cs := [.int .i64 (0), .int .i64 (0), .int .i64 (0), .slice none 0 0, .slice none 0 0, .int .i64 (0), .int .i64 (0), .int .i64 (0), .int .u64 (0)]) zero41 rfl hN ?_)
        intro g14 w14 hN_
        clear hN
        have hN : Now w12 none_ w14 [_] := hN_
        clear hN_
        refine RL.op rfl rfl (opN_storeAll (vs := [.int .i64 ((hearR l).1.err), .int .i64 ((hearR l).1.line), .int .i64 ((hearR l).1.d), xs12, ys12, .int .i64 ((hearR l).1.n), .int .i64 ((hearR l).1.m), .int .i64 ((hearR l).1.k), .int .u64 (((hearR l).1.print : Int))]) sz41 rfl rfl rfl (by intro u hu; simp only [List.mem_cons, List.not_mem_nil, or_false] at hu; rcases hu with rfl | rfl | rfl | rfl | rfl | rfl | rfl | rfl | rfl <;> first | rfl | exact (hx12.ext hN.ext0).one1 | exact (hy12.ext hN.ext0).one1) hN 0 rfl rfl ?_)
        intro w15 hN_
        clear hN
        have hN : Now w12 none_ w15 [_] := hN_
        clear hN_
        refine RL.ev rfl rfl ev_assign ?_
        refine RL.nil ?_
        refine thenN ?_
        refine RW.seq ?_
        refine RW.draw rfl (fun u => Now w12 none_ u [.blk g14 [.int .i64 ((hearR l).1.err), .int .i64 ((hearR l).1.line), .int .i64 ((hearR l).1.d), xs12, ys12, .int .i64 ((hearR l).1.n), .int .i64 ((hearR l).1.m), .int .i64 ((hearR l).1.k), .int .u64 (((hearR l).1.print : Int))] 41]) ?_
        replace hN := hN.ext (Ext.drew w15)
        refine RA.take (i := 0) rfl rfl (by kernel_rfl) (by kernel_rfl) (by kernel_rfl) (by intro _ _ _ h; exact h) rfl hN (fun w hS => (ev_loadAll (cs := [.int .i64 (r.err), .int .i64 (r.line), .int .i64 (r.d), x, y, .int .i64 (r.n), .int .i64 (r.m), .int .i64 (r.k), .int .u64 ((r.print : Int))]) Try.underlying41 rfl sz41 rfl (((hF9.blk 0 rfl).ext hF13.ext0).ext hS.ext0))) ?_
        refine RA.take (i := 2) rfl rfl (by kernel_rfl) (by kernel_rfl) (by kernel_rfl) (by intro _ _ _ h; exact h) rfl hN (fun w hS => (ev_loadAll (cs := [.int .i64 (r.err), .int .i64 (r.line), .int .i64 (r.d), x, y, .int .i64 (r.n), .int .i64 (r.m), .int .i64 (r.k), .int .u64 ((r.print : Int))]) Try.underlying41 rfl sz41 rfl (((hF9.blk 0 rfl).ext hF13.ext0).ext hS.ext0))) ?_
        refine RA.only (i := 1) (by kernel_rfl) rfl rfl rfl (op_call1 Try.func20 rfl rfl rfl ((tell_calls _ r _ ⟨x, y, rfl, (((hx.ext hF9.ext0).ext hF13.ext0).ext hN.ext0), (((hy.ext hF9.ext0).ext hF13.ext0).ext hN.ext0)⟩ (by omega) (by omega) (by omega)).mono ?_))
        rintro v16 w16 ⟨ho_, he_⟩
        have hN_ := hN.pushOwn (l := tellB r) ho_ he_
        clear ho_ he_
        clear hN
        have hN : Now w12 none_ w16 [_, _] := hN_
        clear hN_
        refine ⟨(hN.sub [1] (by decide) rfl), ?_⟩
        refine RA.only (i := 3) (by kernel_rfl) rfl rfl rfl (op_call1 Try.func21 rfl rfl rfl ((refTell_calls _ r _ ⟨x, y, rfl, (((hx.ext hF9.ext0).ext hF13.ext0).ext hN.ext0), (((hy.ext hF9.ext0).ext hF13.ext0).ext hN.ext0)⟩ (by omega) (by omega) (by omega)).mono ?_))
        rintro v17 w17 ⟨ho_, he_⟩
        have hN_ := hN.pushOwn (l := tellB r) ho_ he_
        clear ho_ he_
        clear hN
        have hN : Now w12 none_ w17 [_, _, _] := hN_
        clear hN_
        refine ⟨(hN.sub [2] (by decide) rfl), ?_⟩
        refine RA.only (i := 4) (by kernel_rfl) rfl rfl rfl (op_call2 Try.func13 rfl rfl rfl rfl ((same_true (hN.sl 1 rfl) (hN.sl 0 rfl) rfl).mono ?_))
        rintro _ _ ⟨rfl, rfl⟩
        refine ⟨(hN.sub [2] (by decide) rfl), ?_⟩
        refine RA.take (i := 5) rfl rfl (by kernel_rfl) (by kernel_rfl) (by kernel_rfl) (by intro _ _ _ h; exact h) rfl (hN.sub [2] (by decide) rfl) (fun w hS => ev_move) ?_
        refine RA.takeOn (i := 6) rfl rfl rfl (by decide) rfl (by kernel_rfl) (by kernel_rfl) (by kernel_rfl) (by intro _ _ _ h; exact h) rfl (hN.sub [2] (by decide) rfl) (fun w hS => (ev_loadAll (cs := [.int .i64 ((hearR l).1.err), .int .i64 ((hearR l).1.line), .int .i64 ((hearR l).1.d), xs8, ys8, .int .i64 ((hearR l).1.n), .int .i64 ((hearR l).1.m), .int .i64 ((hearR l).1.k), .int .u64 (((hearR l).1.print : Int))]) Try.underlying41 rfl sz41 rfl ((hF13.blk 0 rfl).ext hS.ext0))) ?_
        refine RA.takeOn (i := 7) rfl rfl rfl (by decide) rfl (by kernel_rfl) (by kernel_rfl) (by kernel_rfl) (by intro _ _ _ h; exact h) rfl (hN.sub [2] (by decide) rfl) (fun w hS => (ev_loadAll (cs := [.int .i64 ((hearR l).1.err), .int .i64 ((hearR l).1.line), .int .i64 ((hearR l).1.d), xs12, ys12, .int .i64 ((hearR l).1.n), .int .i64 ((hearR l).1.m), .int .i64 ((hearR l).1.k), .int .u64 (((hearR l).1.print : Int))]) Try.underlying41 rfl sz41 rfl (hS.blk 0 rfl))) ?_
        refine RA.onlyOn (i := 8) (by kernel_rfl) rfl rfl rfl (by decide) rfl rfl (op_call2 Try.func22 rfl rfl rfl rfl ((sameResp_calls _ _ (hearR l).1 _ ⟨xs8, ys8, rfl, ((hx8.ext hF13.ext0).ext hN.ext0), ((hy8.ext hF13.ext0).ext hN.ext0)⟩ ⟨xs12, ys12, rfl, (hx12.ext hN.ext0), (hy12.ext hN.ext0)⟩).mono ?_))
        rintro _ w19 ⟨rfl, he_⟩
        replace hN := hN.ext he_
        clear he_
        refine ⟨(hN.sub [2] (by decide) rfl), ?_⟩
        refine RA.take (i := 9) rfl rfl (by kernel_rfl) (by kernel_rfl) (by kernel_rfl) (by intro _ _ _ h; exact h) rfl (hN.sub [2] (by decide) rfl) (fun w hS => (ev_pickT rfl)) ?_
        refine RA.take (i := 10) rfl rfl (by kernel_rfl) (by kernel_rfl) (by kernel_rfl) (by intro _ _ _ h; exact h) rfl (hN.sub [2] (by decide) rfl) (fun w hS => ev_move) ?_
        refine RA.takeOn (i := 11) rfl rfl rfl (by decide) rfl (by kernel_rfl) (by kernel_rfl) (by kernel_rfl) (by intro _ _ _ h; exact h) rfl (hN.sub [2] (by decide) rfl) (fun w hS => ev_move) ?_
        refine RA.takeOn (i := 12) rfl rfl rfl (by decide) rfl (by kernel_rfl) (by kernel_rfl) (by kernel_rfl) (by intro _ _ _ h; exact h) rfl (hN.sub [2] (by decide) rfl) (fun w hS => ev_move) ?_
        refine RA.takeOn (i := 13) rfl rfl rfl (by decide) rfl (by kernel_rfl) (by kernel_rfl) (by kernel_rfl) (by intro _ _ _ h; exact h) rfl (hN.sub [2] (by decide) rfl) (fun w hS => (ev_true (ev_eql rfl rfl) rfl)) ?_
        refine RA.take (i := 14) rfl rfl (by kernel_rfl) (by kernel_rfl) (by kernel_rfl) (by intro _ _ _ h; exact h) rfl (hN.sub [2] (by decide) rfl) (fun w hS => (ev_pickT rfl)) ?_
        refine RA.take (i := 15) rfl rfl (by kernel_rfl) (by kernel_rfl) (by kernel_rfl) (by intro _ _ _ h; exact h) rfl (hN.sub [2] (by decide) rfl) (fun w hS => ev_move) ?_
        refine RA.onlyOn (i := 16) (by kernel_rfl) rfl rfl rfl (by decide) rfl rfl (op_call0 Try.func10 rfl rfl ((known_calls _).mono ?_))
        rintro _ w20 ⟨rfl, he_⟩
        replace hN := hN.ext he_
        clear he_
        refine ⟨(hN.sub [2] (by decide) rfl), ?_⟩
        refine RA.take (i := 17) rfl rfl (by kernel_rfl) (by kernel_rfl) (by kernel_rfl) (by intro _ _ _ h; exact h) rfl (hN.sub [2] (by decide) rfl) (fun w hS => (ev_pickT rfl)) ?_
        refine RA.take (i := 18) rfl rfl (by kernel_rfl) (by kernel_rfl) (by kernel_rfl) (by intro _ _ _ h; exact h) rfl (hN.sub [2] (by decide) rfl) (fun w hS => ev_assign) ?_
        refine RA.done (by kernel_rfl) ?_
        refine thenN ?_
        refine RW.ret ?_
        refine retI (RV.tmp rfl) ?_
        exact ⟨rfl, (hF9.ext0.trans (hF13.ext0.trans hN.ext0))⟩

end Go.Proofs.Ytihchogjmgbipaa
