import Derived.Test.YtihchogjmgbipaaWireW6
import Derived.Test.YtihchogjmgbipaaWireW7
import Derived.Test.YtihchogjmgbipaaWirePlain4
set_option linter.unusedVariables false
set_option linter.unusedSimpArgs false
namespace Go.Proofs.Ytihchogjmgbipaa
open Go.RowKit Go.Rl

open Go.Codec
set_option maxHeartbeats 4000000 in
set_option maxRecDepth 100000 in
/-- postroad/postroadlaw19.WireAsks -/
theorem wireAsks_calls (v b : Value) (q : Req) (l : List UInt8) (w : World) (hq : ReqV w v q) (hb : Sl vb w b l) : Gives Try.prog 6 #[v, b] w fun r w' => r = .bool true ∧ Ext w w' := by
  have hOb_ := reqOpen hq
  obtain ⟨x, e_, hx⟩ := hOb_
  subst e_
  refine Gives.start Try.func6 rfl (Nat.le_of_ble_eq_true rfl) ?_
  rw [args2]
  have hN := Now.nil w none_
  refine RW.seq ?_
  refine RW.region ?_
  refine RL.op rfl rfl (opN_box (cs := [.int .i64 (q.kind), (str q.text), .int .i64 (q.k), .int .i64 (q.s), .int .i64 (q.t), x]) rfl rfl hN ?_)
  intro g1 w1 hN_
  clear hN
  have hN : Now w none_ w1 [_] := hN_
  clear hN_
  refine RL.ev rfl rfl ev_assign ?_
  refine RL.nil ?_
  refine thenN ?_
  refine RW.seq ?_
  refine RW.seq ?_
  refine RW.region ?_
  refine RL.ev rfl rfl (ev_fieldAddr Try.underlying38 rfl sz9 (by decide) rfl) ?_
  refine RL.ev rfl rfl (ev_loadB Try.underlying9 rfl rfl (hN.blk 0 rfl) rfl) ?_
  refine RL.ev rfl rfl (ev_lenS' Try.underlying9 rfl) ?_
  refine RL.ev rfl rfl (ev_gtr rfl rfl) ?_
  refine RL.ev rfl rfl ev_move ?_
  by_cases hg1_4 : 1000 < (q.text.length : Int)
  · skip
    rw [decide_eq_true hg1_4]
    refine RL.off rfl rfl (by decide) rfl rfl ?_
    refine RL.off rfl rfl (by decide) rfl rfl ?_
    refine RL.off rfl rfl (by decide) rfl rfl ?_
    refine RL.off rfl rfl (by decide) rfl rfl ?_
    refine RL.ev rfl rfl (ev_pickT rfl) ?_
    refine RL.ev rfl rfl ev_move ?_
    refine RL.off rfl rfl (by decide) rfl rfl ?_
    refine RL.off rfl rfl (by decide) rfl rfl ?_
    refine RL.off rfl rfl (by decide) rfl rfl ?_
    refine RL.ev rfl rfl (ev_pickT rfl) ?_
    refine RL.nil ?_
    refine thenN ?_
    refine RW.condT rfl ?_
    refine RW.seq ?_
    refine RW.region ?_
    refine RL.op rfl rfl (op_call0 Try.func10 rfl rfl ((known_calls _).mono ?_))
    rintro _ w2 ⟨rfl, he_⟩
    replace hN := hN.ext he_
    clear he_
    refine RL.ev rfl rfl ev_assign ?_
    refine RL.nil ?_
    refine thenN ?_
    refine RW.ret ?_
    refine thenR ?_
    refine retI (RV.tmp rfl) ?_
    exact ⟨rfl, hN.ext0⟩
  · skip
    rw [decide_eq_false hg1_4]
    refine RL.onEv rfl rfl (by decide) rfl rfl (ev_fieldAddr Try.underlying38 rfl sz36 (by decide) rfl) ?_
    refine RL.onEv rfl rfl (by decide) rfl rfl (ev_loadB Try.underlying36 rfl rfl (hN.blk 0 rfl) rfl) ?_
    have hL_3 := (hx.ext hN.ext0).len_le
    refine RL.onEv rfl rfl (by decide) rfl rfl (ev_lenS Try.underlying36 (hx.ext hN.ext0) rfl) ?_
    refine RL.onEv rfl rfl (by decide) rfl rfl (ev_gtr rfl rfl) ?_
    refine RL.ev rfl rfl (ev_pickF rfl) ?_
    refine RL.ev rfl rfl ev_move ?_
    by_cases hg1_10 : 100 < (q.ts.length : Int)
    · skip
      rw [decide_eq_true hg1_10]
      refine RL.off rfl rfl (by decide) rfl rfl ?_
      refine RL.off rfl rfl (by decide) rfl rfl ?_
      refine RL.off rfl rfl (by decide) rfl rfl ?_
      refine RL.ev rfl rfl (ev_pickT rfl) ?_
      refine RL.nil ?_
      refine thenN ?_
      refine RW.condT rfl ?_
      refine RW.seq ?_
      refine RW.region ?_
      refine RL.op rfl rfl (op_call0 Try.func10 rfl rfl ((known_calls _).mono ?_))
      rintro _ w4 ⟨rfl, he_⟩
      replace hN := hN.ext he_
      clear he_
      refine RL.ev rfl rfl ev_assign ?_
      refine RL.nil ?_
      refine thenN ?_
      refine RW.ret ?_
      refine thenR ?_
      refine retI (RV.tmp rfl) ?_
      exact ⟨rfl, hN.ext0⟩
    · skip
      rw [decide_eq_false hg1_10]
      refine RL.onEv rfl rfl (by decide) rfl rfl ev_move ?_
      have hL_5 := (hb.ext hN.ext0).len_le
      refine RL.onEv rfl rfl (by decide) rfl rfl (ev_lenS Try.underlying23 (hb.ext hN.ext0) rfl) ?_
      refine RL.onEv rfl rfl (by decide) rfl rfl (ev_gtr rfl rfl) ?_
      refine RL.ev rfl rfl (ev_pickF rfl) ?_
      refine RL.nil ?_
      refine thenN ?_
      refine RW.condP _ rfl (fun hc23 => ?_) (fun hc23 => ?_)
      · skip
        refine RW.seq ?_
        refine RW.region ?_
        refine RL.op rfl rfl (op_call0 Try.func10 rfl rfl ((known_calls _).mono ?_))
        rintro _ w6 ⟨rfl, he_⟩
        replace hN := hN.ext he_
        clear he_
        refine RL.ev rfl rfl ev_assign ?_
        refine RL.nil ?_
        refine thenN ?_
        refine RW.ret ?_
        refine thenR ?_
        refine retI (RV.tmp rfl) ?_
        exact ⟨rfl, hN.ext0⟩
      · skip
        refine RW.skip ?_
        refine thenN ?_
        refine RW.seq ?_
        refine RW.region ?_
        refine RL.ev rfl rfl ev_move ?_
        refine RL.op rfl rfl (op_call1 Try.func23 rfl rfl rfl ((read_calls _ l _ (hb.ext hN.ext0) (by (try simp only [List.length_append, List.length_take, List.length_drop, num8_length, putInts_length, putText_length, put_length, List.flatten_cons, List.flatten_nil, List.length_nil, List.length_cons]); omega)).mono ?_))
        rintro _ w7 ⟨x_, _, rfl, hx_, rfl, he_⟩
        have ho_ := reqOpen hx_
        obtain ⟨xs7, e1_, hx7⟩ := ho_
        subst e1_
        replace hN := hN.ext he_
        clear he_ hx_
        have hF8 := hN
        clear hN
        have hN := Now.nil w7 none_
        refine RL.ev rfl rfl ev_move ?_
        refine RL.ev rfl rfl (ev_extract rfl rfl) ?_
        refine RL.ev rfl rfl (ev_extract rfl rfl) ?_
        refine RL.op rfl rfl (opN_alloc (cs := [.int .i64 (0), .string ByteArray.empty, .int .i64 (0), .int .i64 (0), .int .i64 (0), .slice none 0 0]) zero38 rfl hN ?_)
        intro g9 w9 hN_
        clear hN
        have hN : Now w7 none_ w9 [_] := hN_
        clear hN_
        refine RL.op rfl rfl (opN_storeAll (vs := [.int .i64 ((readR l).1.kind), (str (readR l).1.text), .int .i64 ((readR l).1.k), .int .i64 ((readR l).1.s), .int .i64 ((readR l).1.t), xs7]) sz38 rfl rfl rfl (by intro u hu; simp only [List.mem_cons, List.not_mem_nil, or_false] at hu; rcases hu with rfl | rfl | rfl | rfl | rfl | rfl <;> first | rfl | exact (hx7.ext hN.ext0).one1) hN 0 rfl rfl ?_)
        intro w10 hN_
        clear hN
        have hN : Now w7 none_ w10 [_] := hN_
        clear hN_
        refine RL.ev rfl rfl ev_assign ?_
        refine RL.nil ?_
        refine thenN ?_
        refine RW.seq ?_
        refine RW.region ?_
        refine RL.ev rfl rfl ev_move ?_
        refine RL.op rfl rfl (op_call1 Try.func24 rfl rfl rfl ((refRead_calls _ l _ ((hb.ext hF8.ext0).ext hN.ext0) (by (try simp only [List.length_append, List.length_take, List.length_drop, num8_length, putInts_length, putText_length, put_length, List.flatten_cons, List.flatten_nil, List.length_nil, List.length_cons]); omega)).mono ?_))
        rintro _ w11 ⟨x_, _, rfl, hx_, rfl, he_⟩
        have ho_ := reqOpen hx_
        obtain ⟨xs11, e1_, hx11⟩ := ho_
        subst e1_
        replace hN := hN.ext he_
        clear he_ hx_
        have hF12 := hN
        clear hN
        have hN := Now.nil w11 none_
        refine RL.ev rfl rfl ev_move ?_
        refine RL.ev rfl rfl (ev_extract rfl rfl) ?_
        refine RL.ev rfl rfl (ev_extract rfl rfl) ?_
        refine RL.op rfl rfl (opN_alloc (cs := [.int .i64 (0), .string ByteArray.empty, .int .i64 (0), .int .i64 (0), .int .i64 (0), .slice none 0 0]) zero38 rfl hN ?_)
        intro g13 w13 hN_
        clear hN
        have hN : Now w11 none_ w13 [_] := hN_
        clear hN_
        refine RL.op rfl rfl (opN_storeAll (vs := [.int .i64 ((readR l).1.kind), (str (readR l).1.text), .int .i64 ((readR l).1.k), .int .i64 ((readR l).1.s), .int .i64 ((readR l).1.t), xs11]) sz38 rfl rfl rfl (by intro u hu; simp only [List.mem_cons, List.not_mem_nil, or_false] at hu; rcases hu with rfl | rfl | rfl | rfl | rfl | rfl <;> first | rfl | exact (hx11.ext hN.ext0).one1) hN 0 rfl rfl ?_)
        intro w14 hN_
        clear hN
        have hN : Now w11 none_ w14 [_] := hN_
        clear hN_
        refine RL.ev rfl rfl ev_assign ?_
        refine RL.nil ?_
        refine thenN ?_
        refine RW.seq ?_
        refine RW.draw rfl (fun u => Now w11 none_ u [.blk g13 [.int .i64 ((readR l).1.kind), (str (readR l).1.text), .int .i64 ((readR l).1.k), .int .i64 ((readR l).1.s), .int .i64 ((readR l).1.t), xs11] 38]) ?_
        replace hN := hN.ext (Ext.drew w14)
        refine RA.take (i := 0) rfl rfl (by kernel_rfl) (by kernel_rfl) (by kernel_rfl) (by intro _ _ _ h; exact h) rfl hN (fun w hS => (ev_loadAll (cs := [.int .i64 (q.kind), (str q.text), .int .i64 (q.k), .int .i64 (q.s), .int .i64 (q.t), x]) Try.underlying38 rfl sz38 rfl (((hF8.blk 0 rfl).ext hF12.ext0).ext hS.ext0))) ?_
        refine RA.take (i := 2) rfl rfl (by kernel_rfl) (by kernel_rfl) (by kernel_rfl) (by intro _ _ _ h; exact h) rfl hN (fun w hS => (ev_loadAll (cs := [.int .i64 (q.kind), (str q.text), .int .i64 (q.k), .int .i64 (q.s), .int .i64 (q.t), x]) Try.underlying38 rfl sz38 rfl (((hF8.blk 0 rfl).ext hF12.ext0).ext hS.ext0))) ?_
        refine RA.only (i := 1) (by kernel_rfl) rfl rfl rfl (op_call1 Try.func25 rfl rfl rfl ((ask_calls _ q _ ⟨x, rfl, (((hx.ext hF8.ext0).ext hF12.ext0).ext hN.ext0)⟩ (by omega) (by omega)).mono ?_))
        rintro v15 w15 ⟨ho_, he_⟩
        have hN_ := hN.pushOwn (l := askB q) ho_ he_
        clear ho_ he_
        clear hN
        have hN : Now w11 none_ w15 [_, _] := hN_
        clear hN_
        refine ⟨(hN.sub [1] (by decide) rfl), ?_⟩
        refine RA.only (i := 3) (by kernel_rfl) rfl rfl rfl (op_call1 Try.func26 rfl rfl rfl ((refAsk_calls _ q _ ⟨x, rfl, (((hx.ext hF8.ext0).ext hF12.ext0).ext hN.ext0)⟩ (by omega) (by omega)).mono ?_))
        rintro v16 w16 ⟨ho_, he_⟩
        have hN_ := hN.pushOwn (l := askB q) ho_ he_
        clear ho_ he_
        clear hN
        have hN : Now w11 none_ w16 [_, _, _] := hN_
        clear hN_
        refine ⟨(hN.sub [2] (by decide) rfl), ?_⟩
        refine RA.only (i := 4) (by kernel_rfl) rfl rfl rfl (op_call2 Try.func13 rfl rfl rfl rfl ((same_true (hN.sl 1 rfl) (hN.sl 0 rfl) rfl).mono ?_))
        rintro _ _ ⟨rfl, rfl⟩
        refine ⟨(hN.sub [2] (by decide) rfl), ?_⟩
        refine RA.take (i := 5) rfl rfl (by kernel_rfl) (by kernel_rfl) (by kernel_rfl) (by intro _ _ _ h; exact h) rfl (hN.sub [2] (by decide) rfl) (fun w hS => ev_move) ?_
        refine RA.takeOn (i := 6) rfl rfl rfl (by decide) rfl (by kernel_rfl) (by kernel_rfl) (by kernel_rfl) (by intro _ _ _ h; exact h) rfl (hN.sub [2] (by decide) rfl) (fun w hS => (ev_loadAll (cs := [.int .i64 ((readR l).1.kind), (str (readR l).1.text), .int .i64 ((readR l).1.k), .int .i64 ((readR l).1.s), .int .i64 ((readR l).1.t), xs7]) Try.underlying38 rfl sz38 rfl ((hF12.blk 0 rfl).ext hS.ext0))) ?_
        refine RA.takeOn (i := 7) rfl rfl rfl (by decide) rfl (by kernel_rfl) (by kernel_rfl) (by kernel_rfl) (by intro _ _ _ h; exact h) rfl (hN.sub [2] (by decide) rfl) (fun w hS => (ev_loadAll (cs := [.int .i64 ((readR l).1.kind), (str (readR l).1.text), .int .i64 ((readR l).1.k), .int .i64 ((readR l).1.s), .int .i64 ((readR l).1.t), xs11]) Try.underlying38 rfl sz38 rfl (hS.blk 0 rfl))) ?_
        refine RA.onlyOn (i := 8) (by kernel_rfl) rfl rfl rfl (by decide) rfl rfl (op_call2 Try.func17 rfl rfl rfl rfl ((sameReq_calls _ _ ((readR l).1) _ ⟨xs7, rfl, ((hx7.ext hF12.ext0).ext hN.ext0)⟩ ⟨xs11, rfl, (hx11.ext hN.ext0)⟩).mono ?_))
        rintro _ w18 ⟨rfl, he_⟩
        replace hN := hN.ext he_
        clear he_
        refine ⟨(hN.sub [2] (by decide) rfl), ?_⟩
        refine RA.take (i := 9) rfl rfl (by kernel_rfl) (by kernel_rfl) (by kernel_rfl) (by intro _ _ _ h; exact h) rfl (hN.sub [2] (by decide) rfl) (fun w hS => (ev_pickT rfl)) ?_
        refine RA.take (i := 10) rfl rfl (by kernel_rfl) (by kernel_rfl) (by kernel_rfl) (by intro _ _ _ h; exact h) rfl (hN.sub [2] (by decide) rfl) (fun w hS => ev_move) ?_
        refine RA.takeOn (i := 11) rfl rfl rfl (by decide) rfl (by kernel_rfl) (by kernel_rfl) (by kernel_rfl) (by intro _ _ _ h; exact h) rfl (hN.sub [2] (by decide) rfl) (fun w hS => ev_move) ?_
        refine RA.takeOn (i := 12) rfl rfl rfl (by decide) rfl (by kernel_rfl) (by kernel_rfl) (by kernel_rfl) (by intro _ _ _ h; exact h) rfl (hN.sub [2] (by decide) rfl) (fun w hS => ev_move) ?_
        refine RA.takeOn (i := 13) rfl rfl rfl (by decide) rfl (by kernel_rfl) (by kernel_rfl) (by kernel_rfl) (by intro _ _ _ h; exact h) rfl (hN.sub [2] (by decide) rfl) (fun w hS => (ev_true (ev_eql rfl rfl) rfl)) ?_
        refine RA.take (i := 14) rfl rfl (by kernel_rfl) (by kernel_rfl) (by kernel_rfl) (by intro _ _ _ h; exact h) rfl (hN.sub [2] (by decide) rfl) (fun w hS => (ev_pickT rfl)) ?_
        refine RA.take (i := 15) rfl rfl (by kernel_rfl) (by kernel_rfl) (by kernel_rfl) (by intro _ _ _ h; exact h) rfl (hN.sub [2] (by decide) rfl) (fun w hS => ev_move) ?_
        refine RA.onlyOn (i := 16) (by kernel_rfl) rfl rfl rfl (by decide) rfl rfl (op_call0 Try.func10 rfl rfl ((known_calls _).mono ?_))
        rintro _ w19 ⟨rfl, he_⟩
        replace hN := hN.ext he_
        clear he_
        refine ⟨(hN.sub [2] (by decide) rfl), ?_⟩
        refine RA.take (i := 17) rfl rfl (by kernel_rfl) (by kernel_rfl) (by kernel_rfl) (by intro _ _ _ h; exact h) rfl (hN.sub [2] (by decide) rfl) (fun w hS => (ev_pickT rfl)) ?_
        refine RA.take (i := 18) rfl rfl (by kernel_rfl) (by kernel_rfl) (by kernel_rfl) (by intro _ _ _ h; exact h) rfl (hN.sub [2] (by decide) rfl) (fun w hS => ev_assign) ?_
        refine RA.done (by kernel_rfl) ?_
        refine thenN ?_
        refine RW.ret ?_
        refine retI (RV.tmp rfl) ?_
        exact ⟨rfl, (hF8.ext0.trans (hF12.ext0.trans hN.ext0))⟩

set_option maxHeartbeats 4000000 in
set_option maxRecDepth 100000 in
/-- postroad/postroadlaw19.WireShort -/
theorem wireShort_calls (v : Value) (q : Req) (cut : Nat) (more : UInt8) (w : World) (hq : ReqV w v q) (ok : q.Ok) (hcut : cut < 65536) : Gives Try.prog 8 #[v, .int .u16 (cut : Int), .int .u8 (more.toNat : Int)] w fun r w' => r = .bool true ∧ Ext w w' := by
  have hOb_ := reqOpen hq
  obtain ⟨x, e_, hx⟩ := hOb_
  subst e_
  refine Gives.start Try.func8 rfl (Nat.le_of_ble_eq_true rfl) ?_
  rw [args3]
  have hN := Now.nil w none_
  refine RW.seq ?_
  refine RW.region ?_
  refine RL.op rfl rfl (opN_box (cs := [.int .i64 (q.kind), (str q.text), .int .i64 (q.k), .int .i64 (q.s), .int .i64 (q.t), x]) rfl rfl hN ?_)
  intro g1 w1 hN_
  clear hN
  have hN : Now w none_ w1 [_] := hN_
  clear hN_
  refine RL.ev rfl rfl ev_assign ?_
  refine RL.nil ?_
  refine thenN ?_
  refine RW.seq ?_
  refine RW.seq ?_
  refine RW.region ?_
  refine RL.ev rfl rfl (ev_fieldAddr Try.underlying38 rfl sz3 (by decide) rfl) ?_
  refine RL.ev rfl rfl (ev_loadB Try.underlying3 rfl rfl (hN.blk 0 rfl) rfl) ?_
  refine RL.ev rfl rfl (ev_lss rfl rfl) ?_
  refine RL.ev rfl rfl ev_move ?_
  by_cases hg1_3 : q.kind < 1
  · skip
    rw [decide_eq_true hg1_3]
    refine RL.off rfl rfl (by decide) rfl rfl ?_
    refine RL.off rfl rfl (by decide) rfl rfl ?_
    refine RL.off rfl rfl (by decide) rfl rfl ?_
    refine RL.ev rfl rfl (ev_pickT rfl) ?_
    refine RL.ev rfl rfl ev_move ?_
    refine RL.off rfl rfl (by decide) rfl rfl ?_
    refine RL.off rfl rfl (by decide) rfl rfl ?_
    refine RL.off rfl rfl (by decide) rfl rfl ?_
    refine RL.off rfl rfl (by decide) rfl rfl ?_
    refine RL.ev rfl rfl (ev_pickT rfl) ?_
    refine RL.ev rfl rfl ev_move ?_
    refine RL.off rfl rfl (by decide) rfl rfl ?_
    refine RL.off rfl rfl (by decide) rfl rfl ?_
    refine RL.off rfl rfl (by decide) rfl rfl ?_
    refine RL.off rfl rfl (by decide) rfl rfl ?_
    refine RL.ev rfl rfl (ev_pickT rfl) ?_
    refine RL.nil ?_
    refine thenN ?_
    refine RW.condT rfl ?_
    refine RW.seq ?_
    refine RW.region ?_
    refine RL.op rfl rfl (op_call0 Try.func10 rfl rfl ((known_calls _).mono ?_))
    rintro _ w2 ⟨rfl, he_⟩
    replace hN := hN.ext he_
    clear he_
    refine RL.ev rfl rfl ev_assign ?_
    refine RL.nil ?_
    refine thenN ?_
    refine RW.ret ?_
    refine thenR ?_
    refine retI (RV.tmp rfl) ?_
    exact ⟨rfl, hN.ext0⟩
  · skip
    rw [decide_eq_false hg1_3]
    refine RL.onEv rfl rfl (by decide) rfl rfl (ev_fieldAddr Try.underlying38 rfl sz3 (by decide) rfl) ?_
    refine RL.onEv rfl rfl (by decide) rfl rfl (ev_loadB Try.underlying3 rfl rfl (hN.blk 0 rfl) rfl) ?_
    refine RL.onEv rfl rfl (by decide) rfl rfl (ev_gtr rfl rfl) ?_
    refine RL.ev rfl rfl (ev_pickF rfl) ?_
    refine RL.ev rfl rfl ev_move ?_
    by_cases hg1_8 : 8 < q.kind
    · skip
      rw [decide_eq_true hg1_8]
      refine RL.off rfl rfl (by decide) rfl rfl ?_
      refine RL.off rfl rfl (by decide) rfl rfl ?_
      refine RL.off rfl rfl (by decide) rfl rfl ?_
      refine RL.off rfl rfl (by decide) rfl rfl ?_
      refine RL.ev rfl rfl (ev_pickT rfl) ?_
      refine RL.ev rfl rfl ev_move ?_
      refine RL.off rfl rfl (by decide) rfl rfl ?_
      refine RL.off rfl rfl (by decide) rfl rfl ?_
      refine RL.off rfl rfl (by decide) rfl rfl ?_
      refine RL.off rfl rfl (by decide) rfl rfl ?_
      refine RL.ev rfl rfl (ev_pickT rfl) ?_
      refine RL.nil ?_
      refine thenN ?_
      refine RW.condT rfl ?_
      refine RW.seq ?_
      refine RW.region ?_
      refine RL.op rfl rfl (op_call0 Try.func10 rfl rfl ((known_calls _).mono ?_))
      rintro _ w3 ⟨rfl, he_⟩
      replace hN := hN.ext he_
      clear he_
      refine RL.ev rfl rfl ev_assign ?_
      refine RL.nil ?_
      refine thenN ?_
      refine RW.ret ?_
      refine thenR ?_
      refine retI (RV.tmp rfl) ?_
      exact ⟨rfl, hN.ext0⟩
    · skip
      rw [decide_eq_false hg1_8]
      refine RL.onEv rfl rfl (by decide) rfl rfl (ev_fieldAddr Try.underlying38 rfl sz9 (by decide) rfl) ?_
      refine RL.onEv rfl rfl (by decide) rfl rfl (ev_loadB Try.underlying9 rfl rfl (hN.blk 0 rfl) rfl) ?_
      refine RL.onEv rfl rfl (by decide) rfl rfl (ev_lenS' Try.underlying9 rfl) ?_
      refine RL.onEv rfl rfl (by decide) rfl rfl (ev_gtr rfl rfl) ?_
      refine RL.ev rfl rfl (ev_pickF rfl) ?_
      refine RL.ev rfl rfl ev_move ?_
      by_cases hg1_14 : 500 < (q.text.length : Int)
      · skip
        rw [decide_eq_true hg1_14]
        refine RL.off rfl rfl (by decide) rfl rfl ?_
        refine RL.off rfl rfl (by decide) rfl rfl ?_
        refine RL.off rfl rfl (by decide) rfl rfl ?_
        refine RL.off rfl rfl (by decide) rfl rfl ?_
        refine RL.ev rfl rfl (ev_pickT rfl) ?_
        refine RL.nil ?_
        refine thenN ?_
        refine RW.condT rfl ?_
        refine RW.seq ?_
        refine RW.region ?_
        refine RL.op rfl rfl (op_call0 Try.func10 rfl rfl ((known_calls _).mono ?_))
        rintro _ w4 ⟨rfl, he_⟩
        replace hN := hN.ext he_
        clear he_
        refine RL.ev rfl rfl ev_assign ?_
        refine RL.nil ?_
        refine thenN ?_
        refine RW.ret ?_
        refine thenR ?_
        refine retI (RV.tmp rfl) ?_
        exact ⟨rfl, hN.ext0⟩
      · skip
        rw [decide_eq_false hg1_14]
        refine RL.onEv rfl rfl (by decide) rfl rfl (ev_fieldAddr Try.underlying38 rfl sz36 (by decide) rfl) ?_
        refine RL.onEv rfl rfl (by decide) rfl rfl (ev_loadB Try.underlying36 rfl rfl (hN.blk 0 rfl) rfl) ?_
        have hL_5 := (hx.ext hN.ext0).len_le
        refine RL.onEv rfl rfl (by decide) rfl rfl (ev_lenS Try.underlying36 (hx.ext hN.ext0) rfl) ?_
        refine RL.onEv rfl rfl (by decide) rfl rfl (ev_gtr rfl rfl) ?_
        refine RL.ev rfl rfl (ev_pickF rfl) ?_
        refine RL.nil ?_
        refine thenN ?_
        refine RW.condP _ rfl (fun hc34 => ?_) (fun hc34 => ?_)
        · skip
          refine RW.seq ?_
          refine RW.region ?_
          refine RL.op rfl rfl (op_call0 Try.func10 rfl rfl ((known_calls _).mono ?_))
          rintro _ w6 ⟨rfl, he_⟩
          replace hN := hN.ext he_
          clear he_
          refine RL.ev rfl rfl ev_assign ?_
          refine RL.nil ?_
          refine thenN ?_
          refine RW.ret ?_
          refine thenR ?_
          refine retI (RV.tmp rfl) ?_
          exact ⟨rfl, hN.ext0⟩
        · skip
          refine RW.skip ?_
          refine thenN ?_
          refine RW.seq ?_
          have hs : q.Small := ⟨ok, (by omega), (by omega), (by omega), (by omega)⟩
          have hpos := ask_pos q
          have hlen := askB_le q
          have hmod := Nat.mod_lt cut hpos
          refine RW.region ?_
          refine RL.ev rfl rfl (ev_loadAll (cs := [.int .i64 (q.kind), (str q.text), .int .i64 (q.k), .int .i64 (q.s), .int .i64 (q.t), x]) Try.underlying38 rfl sz38 rfl (hN.blk 0 rfl)) ?_
          refine RL.op rfl rfl (op_call1 Try.func25 rfl rfl rfl ((ask_calls _ q _ ⟨x, rfl, (hx.ext hN.ext0)⟩ (by omega) (by omega)).mono ?_))
          rintro v7 w7 ⟨ho_, he_⟩
          have hN_ := hN.pushOwn (l := askB q) ho_ he_
          clear ho_ he_
          clear hN
          have hN : Now w none_ w7 [_, _] := hN_
          clear hN_
          refine RL.ev rfl rfl ev_assign ?_
          refine RL.nil ?_
          refine thenN ?_
          refine RW.seq ?_
          refine RW.seq ?_
          refine RW.region ?_
          refine RL.ev rfl rfl ev_move ?_
          have hL_8 := (hN.sl 0 rfl).len_le
          refine RL.ev rfl rfl (ev_lenS Try.underlying23 (hN.sl 0 rfl) rfl) ?_
          refine RL.ev rfl rfl (ev_eql rfl rfl) ?_
          refine RL.nil ?_
          refine thenN ?_
          refine RW.condPF _ rfl (by omega) ?_
          refine RW.skip ?_
          refine thenN ?_
          refine RW.seq ?_
          refine RW.region ?_
          refine RL.ev rfl rfl ev_move ?_
          refine RL.ev rfl rfl ev_move ?_
          refine RL.ev rfl rfl (ev_conv Try.underlying56 Try.underlying3 rfl (wr_i64 (by omega) (by omega))) ?_
          refine RL.ev rfl rfl ev_move ?_
          refine RL.ev rfl rfl (ev_lenS Try.underlying23 (hN.sl 0 rfl) rfl) ?_
          refine RL.ev rfl rfl (ev_rem rfl rfl (by omega) (tmod_nat _ _)) ?_
          refine RL.ev rfl rfl (ev_cutTo Try.underlying23 sz5 (hN.sl 0 rfl) rfl rfl (by omega) (by omega)) ?_
          refine RL.op rfl rfl (op_call1 Try.func23 rfl rfl rfl ((read_calls _ ((askB q).take (cut % (askB q).length)) _ ((hN.sl 0 rfl).cutTo (by omega)) (by (try simp only [List.length_append, List.length_take, List.length_drop, num8_length, putInts_length, putText_length, put_length, List.flatten_cons, List.flatten_nil, List.length_nil, List.length_cons]); omega)).mono ?_))
          rintro _ w9 ⟨x_, _, rfl, hx_, rfl, he_⟩
          have ho_ := reqOpen hx_
          obtain ⟨xs9, e1_, hx9⟩ := ho_
          subst e1_
          replace hN := hN.ext he_
          clear he_ hx_
          have hF10 := hN
          clear hN
          have hN := Now.nil w9 none_
          refine RL.ev rfl rfl ev_move ?_
          refine RL.ev rfl rfl (ev_extract rfl rfl) ?_
          refine RL.ev rfl rfl (ev_extract rfl rfl) ?_
          refine RL.op rfl rfl (opN_alloc (cs := [.int .i64 (0), .string ByteArray.empty, .int .i64 (0), .int .i64 (0), .int .i64 (0), .slice none 0 0]) zero38 rfl hN ?_)
          intro g11 w11 hN_
          clear hN
          have hN : Now w9 none_ w11 [_] := hN_
          clear hN_
          refine RL.op rfl rfl (opN_storeAll (vs := [.int .i64 ((readR ((askB q).take (cut % (askB q).length))).1.kind), (str (readR ((askB q).take (cut % (askB q).length))).1.text), .int .i64 ((readR ((askB q).take (cut % (askB q).length))).1.k), .int .i64 ((readR ((askB q).take (cut % (askB q).length))).1.s), .int .i64 ((readR ((askB q).take (cut % (askB q).length))).1.t), xs9]) sz38 rfl rfl rfl (by intro u hu; simp only [List.mem_cons, List.not_mem_nil, or_false] at hu; rcases hu with rfl | rfl | rfl | rfl | rfl | rfl <;> first | rfl | exact (hx9.ext hN.ext0).one1) hN 0 rfl rfl ?_)
          intro w12 hN_
          clear hN
          have hN : Now w9 none_ w12 [_] := hN_
          clear hN_
          refine RL.ev rfl rfl ev_assign ?_
          refine RL.nil ?_
          refine thenN ?_
          refine RW.seq ?_
          refine RW.region ?_
          refine RL.ev rfl rfl ev_move ?_
          refine RL.op rfl rfl (op_call1 Try.func27 rfl rfl rfl ((copy_calls _ (askB q) _ ((hF10.sl 0 rfl).ext hN.ext0) (by omega)).mono ?_))
          rintro v13 w13 ⟨ho_, he_⟩
          have hN_ := hN.pushOwn (l := (askB q)) ho_ he_
          clear ho_ he_
          clear hN
          have hN : Now w9 none_ w13 [_, _] := hN_
          clear hN_
          refine RL.ev rfl rfl ev_assign ?_
          refine RL.nil ?_
          refine thenN ?_
          refine RW.seq ?_
          refine RW.region ?_
          refine RL.ev rfl rfl ev_move ?_
          refine RL.ev rfl rfl ev_move ?_
          refine RL.op rfl rfl (opN_lit (enc := vb) (l := [more]) (xs := [.tmp 55]) Try.underlying23 sz5 zr5 rfl rfl (fun _ => rfl) rfl (by decide) (by decide) hN ?_)
          intro g14 w14 hN_
          clear hN
          have hN : Now w9 none_ w14 [_, _, _] := hN_
          clear hN_
          refine RL.op rfl rfl (opN_append Try.underlying23 inf5 rfl vb_one hN 1 rfl rfl (hN.sl 0 rfl) rfl (by (try simp only [List.length_append, List.length_take, List.length_drop, num8_length, putInts_length, putText_length, put_length, List.flatten_cons, List.flatten_nil, List.length_nil, List.length_cons]); omega) (by decide) ?_)
          intro v15 w15 hN_
          clear hN
          have hN : Now w9 none_ w15 [_, _, _] := hN_
          clear hN_
          refine RL.ev rfl rfl ev_assign ?_
          refine RL.nil ?_
          refine thenN ?_
          refine RW.seq ?_
          refine RW.region ?_
          refine RL.ev rfl rfl ev_move ?_
          refine RL.op rfl rfl (op_call1 Try.func23 rfl rfl rfl ((read_calls _ ((askB q) ++ [more]) _ (hN.sl 1 rfl) (by (try simp only [List.length_append, List.length_take, List.length_drop, num8_length, putInts_length, putText_length, put_length, List.flatten_cons, List.flatten_nil, List.length_nil, List.length_cons]); omega)).mono ?_))
          rintro _ w16 ⟨x_, _, rfl, hx_, rfl, he_⟩
          have ho_ := reqOpen hx_
          obtain ⟨xs16, e1_, hx16⟩ := ho_
          subst e1_
          replace hN := hN.ext he_
          clear he_ hx_
          have hF17 := hN
          clear hN
          have hN := Now.nil w16 none_
          refine RL.ev rfl rfl ev_move ?_
          refine RL.ev rfl rfl (ev_extract rfl rfl) ?_
          refine RL.ev rfl rfl (ev_extract rfl rfl) ?_
          refine RL.op rfl rfl (opN_alloc (cs := [.int .i64 (0), .string ByteArray.empty, .int .i64 (0), .int .i64 (0), .int .i64 (0), .slice none 0 0]) zero38 rfl hN ?_)
          intro g18 w18 hN_
          clear hN
          have hN : Now w16 none_ w18 [_] := hN_
          clear hN_
          refine RL.op rfl rfl (opN_storeAll (vs := [.int .i64 ((readR ((askB q) ++ [more])).1.kind), (str (readR ((askB q) ++ [more])).1.text), .int .i64 ((readR ((askB q) ++ [more])).1.k), .int .i64 ((readR ((askB q) ++ [more])).1.s), .int .i64 ((readR ((askB q) ++ [more])).1.t), xs16]) sz38 rfl rfl rfl (by intro u hu; simp only [List.mem_cons, List.not_mem_nil, or_false] at hu; rcases hu with rfl | rfl | rfl | rfl | rfl | rfl <;> first | rfl | exact (hx16.ext hN.ext0).one1) hN 0 rfl rfl ?_)
          intro w19 hN_
          clear hN
          have hN : Now w16 none_ w19 [_] := hN_
          clear hN_
          refine RL.ev rfl rfl ev_assign ?_
          refine RL.nil ?_
          refine thenN ?_
          refine RW.seq ?_
          refine RW.region ?_
          refine RL.ev rfl rfl ev_move ?_
          refine RL.op rfl rfl (op_call1 Try.func23 rfl rfl rfl ((read_calls _ (askB q) _ (((hF10.sl 0 rfl).ext hF17.ext0).ext hN.ext0) (by (try simp only [List.length_append, List.length_take, List.length_drop, num8_length, putInts_length, putText_length, put_length, List.flatten_cons, List.flatten_nil, List.length_nil, List.length_cons]); omega)).mono ?_))
          rintro _ w20 ⟨x_, _, rfl, hx_, rfl, he_⟩
          have ho_ := reqOpen hx_
          obtain ⟨xs20, e1_, hx20⟩ := ho_
          subst e1_
          replace hN := hN.ext he_
          clear he_ hx_
          have hF21 := hN
          clear hN
          have hN := Now.nil w20 none_
          refine RL.ev rfl rfl ev_move ?_
          refine RL.ev rfl rfl (ev_extract rfl rfl) ?_
          refine RL.ev rfl rfl (ev_extract rfl rfl) ?_
          refine RL.op rfl rfl (opN_alloc (cs := [.int .i64 (0), .string ByteArray.empty, .int .i64 (0), .int .i64 (0), .int .i64 (0), .slice none 0 0]) zero38 rfl hN ?_)
          intro g22 w22 hN_
          clear hN
          have hN : Now w20 none_ w22 [_] := hN_
          clear hN_
          refine RL.op rfl rfl (opN_storeAll (vs := [.int .i64 ((readR (askB q)).1.kind), (str (readR (askB q)).1.text), .int .i64 ((readR (askB q)).1.k), .int .i64 ((readR (askB q)).1.s), .int .i64 ((readR (askB q)).1.t), xs20]) sz38 rfl rfl rfl (by intro u hu; simp only [List.mem_cons, List.not_mem_nil, or_false] at hu; rcases hu with rfl | rfl | rfl | rfl | rfl | rfl <;> first | rfl | exact (hx20.ext hN.ext0).one1) hN 0 rfl rfl ?_)
          intro w23 hN_
          clear hN
          have hN : Now w20 none_ w23 [_] := hN_
          clear hN_
          refine RL.ev rfl rfl ev_assign ?_
          refine RL.nil ?_
          refine thenN ?_
          refine RW.seq ?_
          refine RW.region ?_
          refine RL.ev rfl rfl ev_move ?_
          refine RL.ev rfl rfl (ev_true (ev_eql rfl rfl) (by rw [ask_short q hs _ hmod])) ?_
          refine RL.ev rfl rfl ev_move ?_
          refine RL.onEv rfl rfl (by decide) rfl rfl ev_move ?_
          refine RL.onEv rfl rfl (by decide) rfl rfl (ev_true (ev_eql rfl rfl) (by rw [ask_more q hs])) ?_
          refine RL.ev rfl rfl (ev_pickT rfl) ?_
          refine RL.ev rfl rfl ev_move ?_
          refine RL.onEv rfl rfl (by decide) rfl rfl ev_move ?_
          refine RL.onEv rfl rfl (by decide) rfl rfl (ev_true (ev_eql rfl rfl) (by rw [ask_back q hs])) ?_
          refine RL.ev rfl rfl (ev_pickT rfl) ?_
          refine RL.ev rfl rfl ev_move ?_
          refine RL.onEv rfl rfl (by decide) rfl rfl (ev_fieldAddr Try.underlying38 rfl sz3 (by decide) rfl) ?_
          refine RL.onEv rfl rfl (by decide) rfl rfl (ev_loadB Try.underlying3 rfl rfl (hN.blk 0 rfl) rfl) ?_
          refine RL.onEv rfl rfl (by decide) rfl rfl (ev_fieldAddr Try.underlying38 rfl sz3 (by decide) rfl) ?_
          refine RL.onEv rfl rfl (by decide) rfl rfl (ev_loadB Try.underlying3 rfl rfl ((((hF10.blk 1 rfl).ext hF17.ext0).ext hF21.ext0).ext hN.ext0) rfl) ?_
          refine RL.onEv rfl rfl (by decide) rfl rfl (ev_true (ev_eql rfl rfl) (by rw [ask_back q hs]; exact backQ_kind q)) ?_
          refine RL.ev rfl rfl (ev_pickT rfl) ?_
          refine RL.ev rfl rfl ev_move ?_
          refine RL.on rfl rfl (by decide) rfl rfl (op_call0 Try.func10 rfl rfl ((known_calls _).mono ?_))
          rintro _ w24 ⟨rfl, he_⟩
          replace hN := hN.ext he_
          clear he_
          refine RL.ev rfl rfl (ev_pickT rfl) ?_
          refine RL.ev rfl rfl ev_assign ?_
          refine RL.nil ?_
          refine thenN ?_
          refine RW.ret ?_
          refine retI (RV.tmp rfl) ?_
          exact ⟨rfl, (hF10.ext0.trans (hF17.ext0.trans (hF21.ext0.trans hN.ext0)))⟩

set_option maxHeartbeats 4000000 in
set_option maxRecDepth 100000 in
/-- postroad/postroadlaw19.WireFields -/
theorem wireFields_calls (v : Value) (q : Req) (kk : Int) (s : List UInt8) (w : World) (hq : ReqV w v q) : Gives Try.prog 7 #[v, .int .i64 (kk), (str s)] w fun r w' => r = .bool true ∧ Ext w w' := by
  have hOb_ := reqOpen hq
  obtain ⟨x, e_, hx⟩ := hOb_
  subst e_
  refine Gives.start Try.func7 rfl (Nat.le_of_ble_eq_true rfl) ?_
  rw [args3]
  have hN := Now.nil w none_
  refine RW.seq ?_
  refine RW.region ?_
  refine RL.op rfl rfl (opN_box (cs := [.int .i64 (q.kind), (str q.text), .int .i64 (q.k), .int .i64 (q.s), .int .i64 (q.t), x]) rfl rfl hN ?_)
  intro g1 w1 hN_
  clear hN
  have hN : Now w none_ w1 [_] := hN_
  clear hN_
  refine RL.ev rfl rfl ev_assign ?_
  refine RL.nil ?_
  refine thenN ?_
  refine RW.seq ?_
  refine RW.seq ?_
  refine RW.region ?_
  refine RL.ev rfl rfl (ev_fieldAddr Try.underlying38 rfl sz9 (by decide) rfl) ?_
  refine RL.ev rfl rfl (ev_loadB Try.underlying9 rfl rfl (hN.blk 0 rfl) rfl) ?_
  refine RL.ev rfl rfl (ev_lenS' Try.underlying9 rfl) ?_
  refine RL.ev rfl rfl (ev_gtr rfl rfl) ?_
  refine RL.ev rfl rfl ev_move ?_
  by_cases hg1_4 : 500 < (q.text.length : Int)
  · skip
    rw [decide_eq_true hg1_4]
    refine RL.off rfl rfl (by decide) rfl rfl ?_
    refine RL.off rfl rfl (by decide) rfl rfl ?_
    refine RL.off rfl rfl (by decide) rfl rfl ?_
    refine RL.off rfl rfl (by decide) rfl rfl ?_
    refine RL.ev rfl rfl (ev_pickT rfl) ?_
    refine RL.ev rfl rfl ev_move ?_
    refine RL.off rfl rfl (by decide) rfl rfl ?_
    refine RL.off rfl rfl (by decide) rfl rfl ?_
    refine RL.off rfl rfl (by decide) rfl rfl ?_
    refine RL.ev rfl rfl (ev_pickT rfl) ?_
    refine RL.nil ?_
    refine thenN ?_
    refine RW.condT rfl ?_
    refine RW.seq ?_
    refine RW.region ?_
    refine RL.op rfl rfl (op_call0 Try.func10 rfl rfl ((known_calls _).mono ?_))
    rintro _ w2 ⟨rfl, he_⟩
    replace hN := hN.ext he_
    clear he_
    refine RL.ev rfl rfl ev_assign ?_
    refine RL.nil ?_
    refine thenN ?_
    refine RW.ret ?_
    refine thenR ?_
    refine retI (RV.tmp rfl) ?_
    exact ⟨rfl, hN.ext0⟩
  · skip
    rw [decide_eq_false hg1_4]
    refine RL.onEv rfl rfl (by decide) rfl rfl (ev_fieldAddr Try.underlying38 rfl sz36 (by decide) rfl) ?_
    refine RL.onEv rfl rfl (by decide) rfl rfl (ev_loadB Try.underlying36 rfl rfl (hN.blk 0 rfl) rfl) ?_
    have hL_3 := (hx.ext hN.ext0).len_le
    refine RL.onEv rfl rfl (by decide) rfl rfl (ev_lenS Try.underlying36 (hx.ext hN.ext0) rfl) ?_
    refine RL.onEv rfl rfl (by decide) rfl rfl (ev_gtr rfl rfl) ?_
    refine RL.ev rfl rfl (ev_pickF rfl) ?_
    refine RL.ev rfl rfl ev_move ?_
    by_cases hg1_10 : 50 < (q.ts.length : Int)
    · skip
      rw [decide_eq_true hg1_10]
      refine RL.off rfl rfl (by decide) rfl rfl ?_
      refine RL.off rfl rfl (by decide) rfl rfl ?_
      refine RL.off rfl rfl (by decide) rfl rfl ?_
      refine RL.ev rfl rfl (ev_pickT rfl) ?_
      refine RL.nil ?_
      refine thenN ?_
      refine RW.condT rfl ?_
      refine RW.seq ?_
      refine RW.region ?_
      refine RL.op rfl rfl (op_call0 Try.func10 rfl rfl ((known_calls _).mono ?_))
      rintro _ w4 ⟨rfl, he_⟩
      replace hN := hN.ext he_
      clear he_
      refine RL.ev rfl rfl ev_assign ?_
      refine RL.nil ?_
      refine thenN ?_
      refine RW.ret ?_
      refine thenR ?_
      refine retI (RV.tmp rfl) ?_
      exact ⟨rfl, hN.ext0⟩
    · skip
      rw [decide_eq_false hg1_10]
      refine RL.onEv rfl rfl (by decide) rfl rfl ev_move ?_
      refine RL.onEv rfl rfl (by decide) rfl rfl (ev_lenS' Try.underlying9 rfl) ?_
      refine RL.onEv rfl rfl (by decide) rfl rfl (ev_gtr rfl rfl) ?_
      refine RL.ev rfl rfl (ev_pickF rfl) ?_
      refine RL.nil ?_
      refine thenN ?_
      refine RW.condP _ rfl (fun hc27 => ?_) (fun hc27 => ?_)
      · skip
        refine RW.seq ?_
        refine RW.region ?_
        refine RL.op rfl rfl (op_call0 Try.func10 rfl rfl ((known_calls _).mono ?_))
        rintro _ w5 ⟨rfl, he_⟩
        replace hN := hN.ext he_
        clear he_
        refine RL.ev rfl rfl ev_assign ?_
        refine RL.nil ?_
        refine thenN ?_
        refine RW.ret ?_
        refine thenR ?_
        refine retI (RV.tmp rfl) ?_
        exact ⟨rfl, hN.ext0⟩
      · skip
        refine RW.skip ?_
        refine thenN ?_
        refine RW.seq ?_
        refine RW.region ?_
        refine RL.ev rfl rfl (ev_loadAll (cs := [.int .i64 (q.kind), (str q.text), .int .i64 (q.k), .int .i64 (q.s), .int .i64 (q.t), x]) Try.underlying38 rfl sz38 rfl (hN.blk 0 rfl)) ?_
        refine RL.op rfl rfl (op_call1 Try.func25 rfl rfl rfl ((ask_calls _ q _ ⟨x, rfl, (hx.ext hN.ext0)⟩ (by omega) (by omega)).mono ?_))
        rintro v6 w6 ⟨ho_, he_⟩
        have hN_ := hN.pushOwn (l := askB q) ho_ he_
        clear ho_ he_
        clear hN
        have hN : Now w none_ w6 [_, _] := hN_
        clear hN_
        refine RL.ev rfl rfl ev_assign ?_
        refine RL.nil ?_
        refine thenN ?_
        refine RW.seq ?_
        refine RW.region ?_
        refine RL.ev rfl rfl (ev_loadAll (cs := [.int .i64 (q.kind), (str q.text), .int .i64 (q.k), .int .i64 (q.s), .int .i64 (q.t), x]) Try.underlying38 rfl sz38 rfl (hN.blk 1 rfl)) ?_
        refine RL.op rfl rfl (opN_alloc (cs := [.int .i64 (0), .string ByteArray.empty, .int .i64 (0), .int .i64 (0), .int .i64 (0), .slice none 0 0]) zero38 rfl hN ?_)
        intro g7 w7 hN_
        clear hN
        have hN : Now w none_ w7 [_, _, _] := hN_
        clear hN_
        refine RL.op rfl rfl (opN_storeAll (vs := [.int .i64 (q.kind), (str q.text), .int .i64 (q.k), .int .i64 (q.s), .int .i64 (q.t), x]) sz38 rfl rfl rfl (by intro u hu; simp only [List.mem_cons, List.not_mem_nil, or_false] at hu; rcases hu with rfl | rfl | rfl | rfl | rfl | rfl <;> first | rfl | exact (hx.ext hN.ext0).one1) hN 0 rfl rfl ?_)
        intro w8 hN_
        clear hN
        have hN : Now w none_ w8 [_, _, _] := hN_
        clear hN_
        refine RL.nil ?_
        refine thenN ?_
        refine RW.seq ?_
        refine RW.seq ?_
        refine RW.region ?_
        refine RL.ev rfl rfl (ev_fieldAddr Try.underlying38 rfl sz3 (by decide) rfl) ?_
        refine RL.ev rfl rfl (ev_loadB Try.underlying3 rfl rfl (hN.blk 2 rfl) rfl) ?_
        refine RL.nil ?_
        refine thenN ?_
        refine RW.block ?_
        refine RW.seq ?_
        refine RW.region ?_
        refine RL.ev rfl rfl (ev_eql rfl rfl) ?_
        refine RL.ev rfl rfl ev_assign ?_
        refine RL.nil ?_
        refine thenN ?_
        refine RW.condP _ rfl (fun h1_ => ?_) (fun h1_ => ?_)
        · skip
          refine RW.seq ?_
          refine RW.region ?_
          refine RL.ev rfl rfl ev_move ?_
          refine RL.ev rfl rfl (ev_fieldAddr Try.underlying38 rfl sz3 (by decide) rfl) ?_
          refine RL.op rfl rfl (opN_store sz3 rfl rfl rfl rfl hN 0 rfl (Nat.le_of_ble_eq_true rfl) ?_)
          intro w9 hN_
          clear hN
          have hN : Now w none_ w9 [_, _, _] := hN_
          clear hN_
          refine RL.nil ?_
          refine thenN ?_
          refine RW.region ?_
          refine RL.ev rfl rfl ev_move ?_
          refine RL.ev rfl rfl (ev_fieldAddr Try.underlying38 rfl sz3 (by decide) rfl) ?_
          refine RL.op rfl rfl (opN_store sz3 rfl rfl rfl rfl hN 0 rfl (Nat.le_of_ble_eq_true rfl) ?_)
          intro w10 hN_
          clear hN
          have hN : Now w none_ w10 [_, _, _] := hN_
          clear hN_
          refine RL.nil ?_
          refine blockN ?_
          refine thenN ?_
          refine RW.seq ?_
          refine RW.region ?_
          refine RL.ev rfl rfl (ev_loadAll (cs := [.int .i64 (q.kind), (str q.text), .int .i64 (kk), .int .i64 (kk), .int .i64 (q.t), x]) Try.underlying38 rfl sz38 rfl (hN.blk 0 rfl)) ?_
          refine RL.op rfl rfl (op_call1 Try.func25 rfl rfl rfl ((ask_calls _ (⟨q.kind, q.text, kk, kk, q.t, q.ts⟩) _ ⟨x, rfl, (hx.ext hN.ext0)⟩ (by first | omega | (simp; done) | (simp; omega)) (by first | omega | (simp; done) | (simp; omega))).mono ?_))
          rintro v11 w11 ⟨ho_, he_⟩
          have hN_ := hN.pushOwn (l := askB (⟨q.kind, q.text, kk, kk, q.t, q.ts⟩)) ho_ he_
          clear ho_ he_
          clear hN
          have hN : Now w none_ w11 [_, _, _, _] := hN_
          clear hN_
          refine RL.ev rfl rfl ev_move ?_
          refine RL.op rfl rfl (op_call2 Try.func13 rfl rfl rfl rfl ((same_true (hN.sl 0 rfl) (hN.sl 2 rfl) (ask_fields rfl (by intro _; first | rfl | (exfalso; omega)) (by intro _; first | rfl | (exfalso; omega)) (by intro _; first | rfl | (exfalso; omega)) (by intro _; first | rfl | (exfalso; omega)) (by intro _; first | rfl | (exfalso; omega)))).mono ?_))
          rintro _ _ ⟨rfl, rfl⟩
          refine RL.ev rfl rfl ev_move ?_
          refine RL.on rfl rfl (by decide) rfl rfl (op_call0 Try.func10 rfl rfl ((known_calls _).mono ?_))
          rintro _ w13 ⟨rfl, he_⟩
          replace hN := hN.ext he_
          clear he_
          refine RL.ev rfl rfl (ev_pickT rfl) ?_
          refine RL.ev rfl rfl ev_assign ?_
          refine RL.nil ?_
          refine thenN ?_
          refine RW.ret ?_
          refine retI (RV.tmp rfl) ?_
          exact ⟨rfl, hN.ext0⟩
        · skip
          refine RW.seq ?_
          refine RW.region ?_
          refine RL.ev rfl rfl (ev_eql rfl rfl) ?_
          refine RL.ev rfl rfl ev_assign ?_
          refine RL.nil ?_
          refine thenN ?_
          refine RW.condP _ rfl (fun h2_ => ?_) (fun h2_ => ?_)
          · skip
            refine RW.seq ?_
            refine RW.region ?_
            refine RL.ev rfl rfl ev_move ?_
            refine RL.ev rfl rfl (ev_fieldAddr Try.underlying38 rfl sz9 (by decide) rfl) ?_
            refine RL.op rfl rfl (opN_store sz9 rfl rfl rfl rfl hN 0 rfl (Nat.le_of_ble_eq_true rfl) ?_)
            intro w14 hN_
            clear hN
            have hN : Now w none_ w14 [_, _, _] := hN_
            clear hN_
            refine RL.nil ?_
            refine thenN ?_
            refine RW.region ?_
            refine RL.ev rfl rfl ev_move ?_
            refine RL.ev rfl rfl (ev_fieldAddr Try.underlying38 rfl sz3 (by decide) rfl) ?_
            refine RL.op rfl rfl (opN_store sz3 rfl rfl rfl rfl hN 0 rfl (Nat.le_of_ble_eq_true rfl) ?_)
            intro w15 hN_
            clear hN
            have hN : Now w none_ w15 [_, _, _] := hN_
            clear hN_
            refine RL.nil ?_
            refine blockN ?_
            refine thenN ?_
            refine RW.seq ?_
            refine RW.region ?_
            refine RL.ev rfl rfl (ev_loadAll (cs := [.int .i64 (q.kind), (str s), .int .i64 (q.k), .int .i64 (q.s), .int .i64 (kk), x]) Try.underlying38 rfl sz38 rfl (hN.blk 0 rfl)) ?_
            refine RL.op rfl rfl (op_call1 Try.func25 rfl rfl rfl ((ask_calls _ (⟨q.kind, s, q.k, q.s, kk, q.ts⟩) _ ⟨x, rfl, (hx.ext hN.ext0)⟩ (by first | omega | (simp; done) | (simp; omega)) (by first | omega | (simp; done) | (simp; omega))).mono ?_))
            rintro v16 w16 ⟨ho_, he_⟩
            have hN_ := hN.pushOwn (l := askB (⟨q.kind, s, q.k, q.s, kk, q.ts⟩)) ho_ he_
            clear ho_ he_
            clear hN
            have hN : Now w none_ w16 [_, _, _, _] := hN_
            clear hN_
            refine RL.ev rfl rfl ev_move ?_
            refine RL.op rfl rfl (op_call2 Try.func13 rfl rfl rfl rfl ((same_true (hN.sl 0 rfl) (hN.sl 2 rfl) (ask_fields rfl (by intro _; first | rfl | (exfalso; omega)) (by intro _; first | rfl | (exfalso; omega)) (by intro _; first | rfl | (exfalso; omega)) (by intro _; first | rfl | (exfalso; omega)) (by intro _; first | rfl | (exfalso; omega)))).mono ?_))
            rintro _ _ ⟨rfl, rfl⟩
            refine RL.ev rfl rfl ev_move ?_
            refine RL.on rfl rfl (by decide) rfl rfl (op_call0 Try.func10 rfl rfl ((known_calls _).mono ?_))
            rintro _ w18 ⟨rfl, he_⟩
            replace hN := hN.ext he_
            clear he_
            refine RL.ev rfl rfl (ev_pickT rfl) ?_
            refine RL.ev rfl rfl ev_assign ?_
            refine RL.nil ?_
            refine thenN ?_
            refine RW.ret ?_
            refine retI (RV.tmp rfl) ?_
            exact ⟨rfl, hN.ext0⟩
          · skip
            refine RW.seq ?_
            refine RW.seq ?_
            refine RW.region ?_
            refine RL.ev rfl rfl (ev_eql rfl rfl) ?_
            refine RL.ev rfl rfl ev_assign ?_
            refine RL.nil ?_
            refine thenN ?_
            refine RW.condP _ rfl (fun h5_ => ?_) (fun h5_ => ?_)
            · skip
              refine RW.skip ?_
              refine thenN ?_
              refine RW.condPT _ rfl h5_ ?_
              refine RW.seq ?_
              refine RW.region ?_
              refine RL.ev rfl rfl ev_move ?_
              refine RL.ev rfl rfl (ev_fieldAddr Try.underlying38 rfl sz9 (by decide) rfl) ?_
              refine RL.op rfl rfl (opN_store sz9 rfl rfl rfl rfl hN 0 rfl (Nat.le_of_ble_eq_true rfl) ?_)
              intro w19 hN_
              clear hN
              have hN : Now w none_ w19 [_, _, _] := hN_
              clear hN_
              refine RL.nil ?_
              refine thenN ?_
              refine RW.region ?_
              refine RL.ev rfl rfl ev_move ?_
              refine RL.op rfl rfl (opN_lit (enc := vi) (l := [kk]) (xs := [.tmp 106]) Try.underlying36 sz3 zr3 rfl rfl (fun _ => rfl) rfl (by decide) (by decide) hN ?_)
              intro g20 w20 hN_
              clear hN
              have hN : Now w none_ w20 [_, _, _, _] := hN_
              clear hN_
              refine RL.ev rfl rfl (ev_fieldAddr Try.underlying38 rfl sz36 (by decide) rfl) ?_
              refine RL.op rfl rfl (opN_store sz36 rfl rfl (hN.sl 0 rfl).cells1 (hN.sl 0 rfl).one1 hN 1 rfl (Nat.le_of_ble_eq_true rfl) ?_)
              intro w21 hN_
              clear hN
              have hN : Now w none_ w21 [_, _, _, _] := hN_
              clear hN_
              refine RL.nil ?_
              refine blockN ?_
              refine thenN ?_
              refine RW.seq ?_
              refine RW.region ?_
              refine RL.ev rfl rfl (ev_loadAll (cs := [.int .i64 (q.kind), (str s), .int .i64 (q.k), .int .i64 (q.s), .int .i64 (q.t), .slice (some ⟨g20, 0, none⟩) 1 1]) Try.underlying38 rfl sz38 rfl (hN.blk 1 rfl)) ?_
              refine RL.op rfl rfl (op_call1 Try.func25 rfl rfl rfl ((ask_calls _ (⟨q.kind, s, q.k, q.s, q.t, [kk]⟩) _ ⟨.slice (some ⟨g20, 0, none⟩) 1 1, rfl, (hN.sl 0 rfl)⟩ (by first | omega | (simp; done) | (simp; omega)) (by first | omega | (simp; done) | (simp; omega))).mono ?_))
              rintro v22 w22 ⟨ho_, he_⟩
              have hN_ := hN.pushOwn (l := askB (⟨q.kind, s, q.k, q.s, q.t, [kk]⟩)) ho_ he_
              clear ho_ he_
              clear hN
              have hN : Now w none_ w22 [_, _, _, _, _] := hN_
              clear hN_
              refine RL.ev rfl rfl ev_move ?_
              refine RL.op rfl rfl (op_call2 Try.func13 rfl rfl rfl rfl ((same_true (hN.sl 0 rfl) (hN.sl 3 rfl) (ask_fields rfl (by intro _; first | rfl | (exfalso; omega)) (by intro _; first | rfl | (exfalso; omega)) (by intro _; first | rfl | (exfalso; omega)) (by intro _; first | rfl | (exfalso; omega)) (by intro _; first | rfl | (exfalso; omega)))).mono ?_))
              rintro _ _ ⟨rfl, rfl⟩
              refine RL.ev rfl rfl ev_move ?_
              refine RL.on rfl rfl (by decide) rfl rfl (op_call0 Try.func10 rfl rfl ((known_calls _).mono ?_))
              rintro _ w24 ⟨rfl, he_⟩
              replace hN := hN.ext he_
              clear he_
              refine RL.ev rfl rfl (ev_pickT rfl) ?_
              refine RL.ev rfl rfl ev_assign ?_
              refine RL.nil ?_
              refine thenN ?_
              refine RW.ret ?_
              refine retI (RV.tmp rfl) ?_
              exact ⟨rfl, hN.ext0⟩
            · skip
              refine RW.region ?_
              refine RL.ev rfl rfl (ev_eql rfl rfl) ?_
              refine RL.ev rfl rfl ev_assign ?_
              refine RL.nil ?_
              refine thenN ?_
              refine RW.condP _ rfl (fun h5_ => ?_) (fun h5_ => ?_)
              · skip
                refine RW.seq ?_
                refine RW.region ?_
                refine RL.ev rfl rfl ev_move ?_
                refine RL.ev rfl rfl (ev_fieldAddr Try.underlying38 rfl sz9 (by decide) rfl) ?_
                refine RL.op rfl rfl (opN_store sz9 rfl rfl rfl rfl hN 0 rfl (Nat.le_of_ble_eq_true rfl) ?_)
                intro w25 hN_
                clear hN
                have hN : Now w none_ w25 [_, _, _] := hN_
                clear hN_
                refine RL.nil ?_
                refine thenN ?_
                refine RW.region ?_
                refine RL.ev rfl rfl ev_move ?_
                refine RL.op rfl rfl (opN_lit (enc := vi) (l := [kk]) (xs := [.tmp 106]) Try.underlying36 sz3 zr3 rfl rfl (fun _ => rfl) rfl (by decide) (by decide) hN ?_)
                intro g26 w26 hN_
                clear hN
                have hN : Now w none_ w26 [_, _, _, _] := hN_
                clear hN_
                refine RL.ev rfl rfl (ev_fieldAddr Try.underlying38 rfl sz36 (by decide) rfl) ?_
                refine RL.op rfl rfl (opN_store sz36 rfl rfl (hN.sl 0 rfl).cells1 (hN.sl 0 rfl).one1 hN 1 rfl (Nat.le_of_ble_eq_true rfl) ?_)
                intro w27 hN_
                clear hN
                have hN : Now w none_ w27 [_, _, _, _] := hN_
                clear hN_
                refine RL.nil ?_
                refine blockN ?_
                refine thenN ?_
                refine RW.seq ?_
                refine RW.region ?_
                refine RL.ev rfl rfl (ev_loadAll (cs := [.int .i64 (q.kind), (str s), .int .i64 (q.k), .int .i64 (q.s), .int .i64 (q.t), .slice (some ⟨g26, 0, none⟩) 1 1]) Try.underlying38 rfl sz38 rfl (hN.blk 1 rfl)) ?_
                refine RL.op rfl rfl (op_call1 Try.func25 rfl rfl rfl ((ask_calls _ (⟨q.kind, s, q.k, q.s, q.t, [kk]⟩) _ ⟨.slice (some ⟨g26, 0, none⟩) 1 1, rfl, (hN.sl 0 rfl)⟩ (by first | omega | (simp; done) | (simp; omega)) (by first | omega | (simp; done) | (simp; omega))).mono ?_))
                rintro v28 w28 ⟨ho_, he_⟩
                have hN_ := hN.pushOwn (l := askB (⟨q.kind, s, q.k, q.s, q.t, [kk]⟩)) ho_ he_
                clear ho_ he_
                clear hN
                have hN : Now w none_ w28 [_, _, _, _, _] := hN_
                clear hN_
                refine RL.ev rfl rfl ev_move ?_
                refine RL.op rfl rfl (op_call2 Try.func13 rfl rfl rfl rfl ((same_true (hN.sl 0 rfl) (hN.sl 3 rfl) (ask_fields rfl (by intro _; first | rfl | (exfalso; omega)) (by intro _; first | rfl | (exfalso; omega)) (by intro _; first | rfl | (exfalso; omega)) (by intro _; first | rfl | (exfalso; omega)) (by intro _; first | rfl | (exfalso; omega)))).mono ?_))
                rintro _ _ ⟨rfl, rfl⟩
                refine RL.ev rfl rfl ev_move ?_
                refine RL.on rfl rfl (by decide) rfl rfl (op_call0 Try.func10 rfl rfl ((known_calls _).mono ?_))
                rintro _ w30 ⟨rfl, he_⟩
                replace hN := hN.ext he_
                clear he_
                refine RL.ev rfl rfl (ev_pickT rfl) ?_
                refine RL.ev rfl rfl ev_assign ?_
                refine RL.nil ?_
                refine thenN ?_
                refine RW.ret ?_
                refine retI (RV.tmp rfl) ?_
                exact ⟨rfl, hN.ext0⟩
              · skip
                refine RW.seq ?_
                refine RW.region ?_
                refine RL.ev rfl rfl (ev_eql rfl rfl) ?_
                refine RL.ev rfl rfl ev_assign ?_
                refine RL.nil ?_
                refine thenN ?_
                refine RW.condP _ rfl (fun h7_ => ?_) (fun h7_ => ?_)
                · skip
                  refine RW.seq ?_
                  refine RW.region ?_
                  refine RL.ev rfl rfl ev_move ?_
                  refine RL.ev rfl rfl (ev_fieldAddr Try.underlying38 rfl sz3 (by decide) rfl) ?_
                  refine RL.op rfl rfl (opN_store sz3 rfl rfl rfl rfl hN 0 rfl (Nat.le_of_ble_eq_true rfl) ?_)
                  intro w31 hN_
                  clear hN
                  have hN : Now w none_ w31 [_, _, _] := hN_
                  clear hN_
                  refine RL.nil ?_
                  refine thenN ?_
                  refine RW.region ?_
                  refine RL.ev rfl rfl ev_move ?_
                  refine RL.ev rfl rfl (ev_fieldAddr Try.underlying38 rfl sz3 (by decide) rfl) ?_
                  refine RL.op rfl rfl (opN_store sz3 rfl rfl rfl rfl hN 0 rfl (Nat.le_of_ble_eq_true rfl) ?_)
                  intro w32 hN_
                  clear hN
                  have hN : Now w none_ w32 [_, _, _] := hN_
                  clear hN_
                  refine RL.nil ?_
                  refine blockN ?_
                  refine thenN ?_
                  refine RW.seq ?_
                  refine RW.region ?_
                  refine RL.ev rfl rfl (ev_loadAll (cs := [.int .i64 (q.kind), (str q.text), .int .i64 (kk), .int .i64 (q.s), .int .i64 (kk), x]) Try.underlying38 rfl sz38 rfl (hN.blk 0 rfl)) ?_
                  refine RL.op rfl rfl (op_call1 Try.func25 rfl rfl rfl ((ask_calls _ (⟨q.kind, q.text, kk, q.s, kk, q.ts⟩) _ ⟨x, rfl, (hx.ext hN.ext0)⟩ (by first | omega | (simp; done) | (simp; omega)) (by first | omega | (simp; done) | (simp; omega))).mono ?_))
                  rintro v33 w33 ⟨ho_, he_⟩
                  have hN_ := hN.pushOwn (l := askB (⟨q.kind, q.text, kk, q.s, kk, q.ts⟩)) ho_ he_
                  clear ho_ he_
                  clear hN
                  have hN : Now w none_ w33 [_, _, _, _] := hN_
                  clear hN_
                  refine RL.ev rfl rfl ev_move ?_
                  refine RL.op rfl rfl (op_call2 Try.func13 rfl rfl rfl rfl ((same_true (hN.sl 0 rfl) (hN.sl 2 rfl) (ask_fields rfl (by intro _; first | rfl | (exfalso; omega)) (by intro _; first | rfl | (exfalso; omega)) (by intro _; first | rfl | (exfalso; omega)) (by intro _; first | rfl | (exfalso; omega)) (by intro _; first | rfl | (exfalso; omega)))).mono ?_))
                  rintro _ _ ⟨rfl, rfl⟩
                  refine RL.ev rfl rfl ev_move ?_
                  refine RL.on rfl rfl (by decide) rfl rfl (op_call0 Try.func10 rfl rfl ((known_calls _).mono ?_))
                  rintro _ w35 ⟨rfl, he_⟩
                  replace hN := hN.ext he_
                  clear he_
                  refine RL.ev rfl rfl (ev_pickT rfl) ?_
                  refine RL.ev rfl rfl ev_assign ?_
                  refine RL.nil ?_
                  refine thenN ?_
                  refine RW.ret ?_
                  refine retI (RV.tmp rfl) ?_
                  exact ⟨rfl, hN.ext0⟩
                · skip
                  refine RW.seq ?_
                  have hn_ := ask_none q (by omega) (by omega) (by omega) (by omega) (by omega)
                  obtain ⟨c, hA, hc0, hA1, hE0, hE13⟩ := hn_
                  have hlt_c := UInt8.toNat_lt c
                  refine RW.region ?_
                  refine RL.ev rfl rfl ev_move ?_
                  refine RL.ev rfl rfl (ev_fieldAddr Try.underlying38 rfl sz3 (by decide) rfl) ?_
                  refine RL.op rfl rfl (opN_store sz3 rfl rfl rfl rfl hN 0 rfl (Nat.le_of_ble_eq_true rfl) ?_)
                  intro w36 hN_
                  clear hN
                  have hN : Now w none_ w36 [_, _, _] := hN_
                  clear hN_
                  refine RL.nil ?_
                  refine thenN ?_
                  refine RW.seq ?_
                  refine RW.region ?_
                  refine RL.ev rfl rfl ev_move ?_
                  refine RL.ev rfl rfl (ev_fieldAddr Try.underlying38 rfl sz9 (by decide) rfl) ?_
                  refine RL.op rfl rfl (opN_store sz9 rfl rfl rfl rfl hN 0 rfl (Nat.le_of_ble_eq_true rfl) ?_)
                  intro w37 hN_
                  clear hN
                  have hN : Now w none_ w37 [_, _, _] := hN_
                  clear hN_
                  refine RL.nil ?_
                  refine thenN ?_
                  refine RW.seq ?_
                  refine RW.seq ?_
                  refine RW.region ?_
                  refine RL.ev rfl rfl ev_move ?_
                  have hL_38 := (hN.sl 1 rfl).len_le
                  refine RL.ev rfl rfl (ev_lenS Try.underlying23 (hN.sl 1 rfl) rfl) ?_
                  refine RL.ev rfl rfl (ev_neq rfl rfl) ?_
                  refine RL.nil ?_
                  refine thenN ?_
                  refine RW.condPF _ rfl (by omega) ?_
                  refine RW.skip ?_
                  refine thenN ?_
                  refine RW.seq ?_
                  refine RW.region ?_
                  refine RL.ev rfl rfl ev_move ?_
                  refine RL.op rfl rfl (op_call1 Try.func23 rfl rfl rfl ((read_calls _ (askB q) _ (hN.sl 1 rfl) (by (try simp only [List.length_append, List.length_take, List.length_drop, num8_length, putInts_length, putText_length, put_length, List.flatten_cons, List.flatten_nil, List.length_nil, List.length_cons]); omega)).mono ?_))
                  rintro _ w39 ⟨x_, _, rfl, hx_, rfl, he_⟩
                  have ho_ := reqOpen hx_
                  obtain ⟨xs39, e1_, hx39⟩ := ho_
                  subst e1_
                  replace hN := hN.ext he_
                  clear he_ hx_
                  have hF40 := hN
                  clear hN
                  have hN := Now.nil w39 none_
                  refine RL.ev rfl rfl ev_move ?_
                  refine RL.ev rfl rfl (ev_extract rfl rfl) ?_
                  refine RL.ev rfl rfl (ev_extract rfl rfl) ?_
                  refine RL.op rfl rfl (opN_alloc (cs := [.int .i64 (0), .string ByteArray.empty, .int .i64 (0), .int .i64 (0), .int .i64 (0), .slice none 0 0]) zero38 rfl hN ?_)
                  intro g41 w41 hN_
                  clear hN
                  have hN : Now w39 none_ w41 [_] := hN_
                  clear hN_
                  refine RL.op rfl rfl (opN_storeAll (vs := [.int .i64 ((readR (askB q)).1.kind), (str (readR (askB q)).1.text), .int .i64 ((readR (askB q)).1.k), .int .i64 ((readR (askB q)).1.s), .int .i64 ((readR (askB q)).1.t), xs39]) sz38 rfl rfl rfl (by intro u hu; simp only [List.mem_cons, List.not_mem_nil, or_false] at hu; rcases hu with rfl | rfl | rfl | rfl | rfl | rfl <;> first | rfl | exact (hx39.ext hN.ext0).one1) hN 0 rfl rfl ?_)
                  intro w42 hN_
                  clear hN
                  have hN : Now w39 none_ w42 [_] := hN_
                  clear hN_
                  refine RL.ev rfl rfl ev_assign ?_
                  refine RL.nil ?_
                  refine thenN ?_
                  refine RW.seq ?_
                  rcases (show (c.toNat : Int) = 3 ∨ (c.toNat : Int) = 4 ∨ (c.toNat : Int) = 8 ∨ (c.toNat : Int) < 1 ∨ 8 < (c.toNat : Int) ∨ ((c.toNat : Int) = 1 ∨ (c.toNat : Int) = 2 ∨ (c.toNat : Int) = 5 ∨ (c.toNat : Int) = 6 ∨ (c.toNat : Int) = 7) by omega) with hk | hk | hk | hk | hk | hk
                  · skip
                    refine RW.region ?_
                    refine RL.ev rfl rfl ev_move ?_
                    refine RL.ev rfl rfl (ev_index Try.underlying23 sz5 ((hF40.sl 1 rfl).ext hN.ext0) rfl rfl (by omega) (by omega)) ?_
                    have hlt_c := UInt8.toNat_lt c
                    refine RL.ev rfl rfl (ev_loadG (m := 0) (a := c) Try.underlying5 rfl ((hF40.sl 1 rfl).ext hN.ext0) rfl hc0) ?_
                    refine RL.ev rfl rfl (ev_true (ev_eql rfl rfl) (by omega)) ?_
                    refine RL.ev rfl rfl ev_move ?_
                    refine RL.off rfl rfl (by decide) rfl rfl ?_
                    refine RL.off rfl rfl (by decide) rfl rfl ?_
                    refine RL.off rfl rfl (by decide) rfl rfl ?_
                    refine RL.off rfl rfl (by decide) rfl rfl ?_
                    refine RL.ev rfl rfl (ev_pickT rfl) ?_
                    refine RL.ev rfl rfl ev_move ?_
                    refine RL.off rfl rfl (by decide) rfl rfl ?_
                    refine RL.off rfl rfl (by decide) rfl rfl ?_
                    refine RL.off rfl rfl (by decide) rfl rfl ?_
                    refine RL.off rfl rfl (by decide) rfl rfl ?_
                    refine RL.ev rfl rfl (ev_pickT rfl) ?_
                    refine RL.ev rfl rfl ev_assign ?_
                    refine RL.nil ?_
                    refine thenN ?_
                    refine RW.seq ?_
                    refine RW.region ?_
                    refine RL.ev rfl rfl ev_move ?_
                    refine RL.ev rfl rfl (ev_index Try.underlying23 sz5 ((hF40.sl 1 rfl).ext hN.ext0) rfl rfl (by omega) (by omega)) ?_
                    have hlt_c := UInt8.toNat_lt c
                    refine RL.ev rfl rfl (ev_loadG (m := 0) (a := c) Try.underlying5 rfl ((hF40.sl 1 rfl).ext hN.ext0) rfl hc0) ?_
                    refine RL.ev rfl rfl (ev_true (ev_geq rfl rfl) (by omega)) ?_
                    refine RL.ev rfl rfl ev_move ?_
                    refine RL.onEv rfl rfl (by decide) rfl rfl ev_move ?_
                    refine RL.onEv rfl rfl (by decide) rfl rfl (ev_index Try.underlying23 sz5 ((hF40.sl 1 rfl).ext hN.ext0) rfl rfl (by omega) (by omega)) ?_
                    have hlt_c := UInt8.toNat_lt c
                    refine RL.onEv rfl rfl (by decide) rfl rfl (ev_loadG (m := 0) (a := c) Try.underlying5 rfl ((hF40.sl 1 rfl).ext hN.ext0) rfl hc0) ?_
                    refine RL.onEv rfl rfl (by decide) rfl rfl (ev_true (ev_leq rfl rfl) (by omega)) ?_
                    refine RL.ev rfl rfl (ev_pickT rfl) ?_
                    refine RL.ev rfl rfl ev_assign ?_
                    refine RL.nil ?_
                    refine thenN ?_
                    refine RW.seq ?_
                    refine RW.region ?_
                    refine RL.ev rfl rfl ev_move ?_
                    refine RL.ev rfl rfl ev_move ?_
                    refine RL.onEv rfl rfl (by decide) rfl rfl ev_move ?_
                    refine RL.onEv rfl rfl (by decide) rfl rfl (ev_false (ev_neq rfl rfl) (by omega)) ?_
                    refine RL.ev rfl rfl (ev_pickT rfl) ?_
                    refine RL.ev rfl rfl ev_move ?_
                    refine RL.onEv rfl rfl (by decide) rfl rfl ev_move ?_
                    refine RL.onEv rfl rfl (by decide) rfl rfl (ev_not rfl) ?_
                    refine RL.onEv rfl rfl (by decide) rfl rfl ev_move ?_
                    refine RL.off rfl rfl (by decide) rfl rfl ?_
                    refine RL.off rfl rfl (by decide) rfl rfl ?_
                    refine RL.onEv rfl rfl (by decide) rfl rfl (ev_pickF rfl) ?_
                    refine RL.onEv rfl rfl (by decide) rfl rfl ev_move ?_
                    refine RL.off rfl rfl (by decide) rfl rfl ?_
                    refine RL.off rfl rfl (by decide) rfl rfl ?_
                    refine RL.onEv rfl rfl (by decide) rfl rfl (ev_pickF rfl) ?_
                    refine RL.ev rfl rfl (ev_pickF rfl) ?_
                    refine RL.nil ?_
                    refine thenN ?_
                    refine RW.condF rfl ?_
                    refine RW.skip ?_
                    refine blockN ?_
                    refine thenN ?_
                    refine RW.seq ?_
                    refine RW.region ?_
                    refine RL.ev rfl rfl (ev_loadAll (cs := [.int .i64 (q.kind), (str s), .int .i64 (q.k), .int .i64 (kk), .int .i64 (q.t), x]) Try.underlying38 rfl sz38 rfl ((hF40.blk 0 rfl).ext hN.ext0)) ?_
                    refine RL.op rfl rfl (op_call1 Try.func25 rfl rfl rfl ((ask_calls _ (⟨q.kind, s, q.k, kk, q.t, q.ts⟩) _ ⟨x, rfl, ((hx.ext hF40.ext0).ext hN.ext0)⟩ (by first | omega | (simp; done) | (simp; omega)) (by first | omega | (simp; done) | (simp; omega))).mono ?_))
                    rintro v46 w46 ⟨ho_, he_⟩
                    have hN_ := hN.pushOwn (l := askB (⟨q.kind, s, q.k, kk, q.t, q.ts⟩)) ho_ he_
                    clear ho_ he_
                    clear hN
                    have hN : Now w39 none_ w46 [_, _] := hN_
                    clear hN_
                    refine RL.ev rfl rfl ev_move ?_
                    refine RL.op rfl rfl (op_call2 Try.func13 rfl rfl rfl rfl ((same_true (hN.sl 0 rfl) ((hF40.sl 1 rfl).ext hN.ext0) (ask_fields rfl (by intro _; first | rfl | (exfalso; omega)) (by intro _; first | rfl | (exfalso; omega)) (by intro _; first | rfl | (exfalso; omega)) (by intro _; first | rfl | (exfalso; omega)) (by intro _; first | rfl | (exfalso; omega)))).mono ?_))
                    rintro _ _ ⟨rfl, rfl⟩
                    refine RL.ev rfl rfl ev_move ?_
                    refine RL.on rfl rfl (by decide) rfl rfl (op_call0 Try.func10 rfl rfl ((known_calls _).mono ?_))
                    rintro _ w48 ⟨rfl, he_⟩
                    replace hN := hN.ext he_
                    clear he_
                    refine RL.ev rfl rfl (ev_pickT rfl) ?_
                    refine RL.ev rfl rfl ev_assign ?_
                    refine RL.nil ?_
                    refine thenN ?_
                    refine RW.ret ?_
                    refine retI (RV.tmp rfl) ?_
                    exact ⟨rfl, (hF40.ext0.trans hN.ext0)⟩
                  · skip
                    refine RW.region ?_
                    refine RL.ev rfl rfl ev_move ?_
                    refine RL.ev rfl rfl (ev_index Try.underlying23 sz5 ((hF40.sl 1 rfl).ext hN.ext0) rfl rfl (by omega) (by omega)) ?_
                    have hlt_c := UInt8.toNat_lt c
                    refine RL.ev rfl rfl (ev_loadG (m := 0) (a := c) Try.underlying5 rfl ((hF40.sl 1 rfl).ext hN.ext0) rfl hc0) ?_
                    refine RL.ev rfl rfl (ev_false (ev_eql rfl rfl) (by omega)) ?_
                    refine RL.ev rfl rfl ev_move ?_
                    refine RL.onEv rfl rfl (by decide) rfl rfl ev_move ?_
                    refine RL.onEv rfl rfl (by decide) rfl rfl (ev_index Try.underlying23 sz5 ((hF40.sl 1 rfl).ext hN.ext0) rfl rfl (by omega) (by omega)) ?_
                    have hlt_c := UInt8.toNat_lt c
                    refine RL.onEv rfl rfl (by decide) rfl rfl (ev_loadG (m := 0) (a := c) Try.underlying5 rfl ((hF40.sl 1 rfl).ext hN.ext0) rfl hc0) ?_
                    refine RL.onEv rfl rfl (by decide) rfl rfl (ev_true (ev_eql rfl rfl) (by omega)) ?_
                    refine RL.ev rfl rfl (ev_pickF rfl) ?_
                    refine RL.ev rfl rfl ev_move ?_
                    refine RL.off rfl rfl (by decide) rfl rfl ?_
                    refine RL.off rfl rfl (by decide) rfl rfl ?_
                    refine RL.off rfl rfl (by decide) rfl rfl ?_
                    refine RL.off rfl rfl (by decide) rfl rfl ?_
                    refine RL.ev rfl rfl (ev_pickT rfl) ?_
                    refine RL.ev rfl rfl ev_assign ?_
                    refine RL.nil ?_
                    refine thenN ?_
                    refine RW.seq ?_
                    refine RW.region ?_
                    refine RL.ev rfl rfl ev_move ?_
                    refine RL.ev rfl rfl (ev_index Try.underlying23 sz5 ((hF40.sl 1 rfl).ext hN.ext0) rfl rfl (by omega) (by omega)) ?_
                    have hlt_c := UInt8.toNat_lt c
                    refine RL.ev rfl rfl (ev_loadG (m := 0) (a := c) Try.underlying5 rfl ((hF40.sl 1 rfl).ext hN.ext0) rfl hc0) ?_
                    refine RL.ev rfl rfl (ev_true (ev_geq rfl rfl) (by omega)) ?_
                    refine RL.ev rfl rfl ev_move ?_
                    refine RL.onEv rfl rfl (by decide) rfl rfl ev_move ?_
                    refine RL.onEv rfl rfl (by decide) rfl rfl (ev_index Try.underlying23 sz5 ((hF40.sl 1 rfl).ext hN.ext0) rfl rfl (by omega) (by omega)) ?_
                    have hlt_c := UInt8.toNat_lt c
                    refine RL.onEv rfl rfl (by decide) rfl rfl (ev_loadG (m := 0) (a := c) Try.underlying5 rfl ((hF40.sl 1 rfl).ext hN.ext0) rfl hc0) ?_
                    refine RL.onEv rfl rfl (by decide) rfl rfl (ev_true (ev_leq rfl rfl) (by omega)) ?_
                    refine RL.ev rfl rfl (ev_pickT rfl) ?_
                    refine RL.ev rfl rfl ev_assign ?_
                    refine RL.nil ?_
                    refine thenN ?_
                    refine RW.seq ?_
                    refine RW.region ?_
                    refine RL.ev rfl rfl ev_move ?_
                    refine RL.ev rfl rfl ev_move ?_
                    refine RL.onEv rfl rfl (by decide) rfl rfl ev_move ?_
                    refine RL.onEv rfl rfl (by decide) rfl rfl (ev_false (ev_neq rfl rfl) (by omega)) ?_
                    refine RL.ev rfl rfl (ev_pickT rfl) ?_
                    refine RL.ev rfl rfl ev_move ?_
                    refine RL.onEv rfl rfl (by decide) rfl rfl ev_move ?_
                    refine RL.onEv rfl rfl (by decide) rfl rfl (ev_not rfl) ?_
                    refine RL.onEv rfl rfl (by decide) rfl rfl ev_move ?_
                    refine RL.off rfl rfl (by decide) rfl rfl ?_
                    refine RL.off rfl rfl (by decide) rfl rfl ?_
                    refine RL.onEv rfl rfl (by decide) rfl rfl (ev_pickF rfl) ?_
                    refine RL.onEv rfl rfl (by decide) rfl rfl ev_move ?_
                    refine RL.off rfl rfl (by decide) rfl rfl ?_
                    refine RL.off rfl rfl (by decide) rfl rfl ?_
                    refine RL.onEv rfl rfl (by decide) rfl rfl (ev_pickF rfl) ?_
                    refine RL.ev rfl rfl (ev_pickF rfl) ?_
                    refine RL.nil ?_
                    refine thenN ?_
                    refine RW.condF rfl ?_
                    refine RW.skip ?_
                    refine blockN ?_
                    refine thenN ?_
                    refine RW.seq ?_
                    refine RW.region ?_
                    refine RL.ev rfl rfl (ev_loadAll (cs := [.int .i64 (q.kind), (str s), .int .i64 (q.k), .int .i64 (kk), .int .i64 (q.t), x]) Try.underlying38 rfl sz38 rfl ((hF40.blk 0 rfl).ext hN.ext0)) ?_
                    refine RL.op rfl rfl (op_call1 Try.func25 rfl rfl rfl ((ask_calls _ (⟨q.kind, s, q.k, kk, q.t, q.ts⟩) _ ⟨x, rfl, ((hx.ext hF40.ext0).ext hN.ext0)⟩ (by first | omega | (simp; done) | (simp; omega)) (by first | omega | (simp; done) | (simp; omega))).mono ?_))
                    rintro v53 w53 ⟨ho_, he_⟩
                    have hN_ := hN.pushOwn (l := askB (⟨q.kind, s, q.k, kk, q.t, q.ts⟩)) ho_ he_
                    clear ho_ he_
                    clear hN
                    have hN : Now w39 none_ w53 [_, _] := hN_
                    clear hN_
                    refine RL.ev rfl rfl ev_move ?_
                    refine RL.op rfl rfl (op_call2 Try.func13 rfl rfl rfl rfl ((same_true (hN.sl 0 rfl) ((hF40.sl 1 rfl).ext hN.ext0) (ask_fields rfl (by intro _; first | rfl | (exfalso; omega)) (by intro _; first | rfl | (exfalso; omega)) (by intro _; first | rfl | (exfalso; omega)) (by intro _; first | rfl | (exfalso; omega)) (by intro _; first | rfl | (exfalso; omega)))).mono ?_))
                    rintro _ _ ⟨rfl, rfl⟩
                    refine RL.ev rfl rfl ev_move ?_
                    refine RL.on rfl rfl (by decide) rfl rfl (op_call0 Try.func10 rfl rfl ((known_calls _).mono ?_))
                    rintro _ w55 ⟨rfl, he_⟩
                    replace hN := hN.ext he_
                    clear he_
                    refine RL.ev rfl rfl (ev_pickT rfl) ?_
                    refine RL.ev rfl rfl ev_assign ?_
                    refine RL.nil ?_
                    refine thenN ?_
                    refine RW.ret ?_
                    refine retI (RV.tmp rfl) ?_
                    exact ⟨rfl, (hF40.ext0.trans hN.ext0)⟩
                  · skip
                    refine RW.region ?_
                    refine RL.ev rfl rfl ev_move ?_
                    refine RL.ev rfl rfl (ev_index Try.underlying23 sz5 ((hF40.sl 1 rfl).ext hN.ext0) rfl rfl (by omega) (by omega)) ?_
                    have hlt_c := UInt8.toNat_lt c
                    refine RL.ev rfl rfl (ev_loadG (m := 0) (a := c) Try.underlying5 rfl ((hF40.sl 1 rfl).ext hN.ext0) rfl hc0) ?_
                    refine RL.ev rfl rfl (ev_false (ev_eql rfl rfl) (by omega)) ?_
                    refine RL.ev rfl rfl ev_move ?_
                    refine RL.onEv rfl rfl (by decide) rfl rfl ev_move ?_
                    refine RL.onEv rfl rfl (by decide) rfl rfl (ev_index Try.underlying23 sz5 ((hF40.sl 1 rfl).ext hN.ext0) rfl rfl (by omega) (by omega)) ?_
                    have hlt_c := UInt8.toNat_lt c
                    refine RL.onEv rfl rfl (by decide) rfl rfl (ev_loadG (m := 0) (a := c) Try.underlying5 rfl ((hF40.sl 1 rfl).ext hN.ext0) rfl hc0) ?_
                    refine RL.onEv rfl rfl (by decide) rfl rfl (ev_false (ev_eql rfl rfl) (by omega)) ?_
                    refine RL.ev rfl rfl (ev_pickF rfl) ?_
                    refine RL.ev rfl rfl ev_move ?_
                    refine RL.onEv rfl rfl (by decide) rfl rfl ev_move ?_
                    refine RL.onEv rfl rfl (by decide) rfl rfl (ev_index Try.underlying23 sz5 ((hF40.sl 1 rfl).ext hN.ext0) rfl rfl (by omega) (by omega)) ?_
                    have hlt_c := UInt8.toNat_lt c
                    refine RL.onEv rfl rfl (by decide) rfl rfl (ev_loadG (m := 0) (a := c) Try.underlying5 rfl ((hF40.sl 1 rfl).ext hN.ext0) rfl hc0) ?_
                    refine RL.onEv rfl rfl (by decide) rfl rfl (ev_true (ev_eql rfl rfl) (by omega)) ?_
                    refine RL.ev rfl rfl (ev_pickF rfl) ?_
                    refine RL.ev rfl rfl ev_assign ?_
                    refine RL.nil ?_
                    refine thenN ?_
                    refine RW.seq ?_
                    refine RW.region ?_
                    refine RL.ev rfl rfl ev_move ?_
                    refine RL.ev rfl rfl (ev_index Try.underlying23 sz5 ((hF40.sl 1 rfl).ext hN.ext0) rfl rfl (by omega) (by omega)) ?_
                    have hlt_c := UInt8.toNat_lt c
                    refine RL.ev rfl rfl (ev_loadG (m := 0) (a := c) Try.underlying5 rfl ((hF40.sl 1 rfl).ext hN.ext0) rfl hc0) ?_
                    refine RL.ev rfl rfl (ev_true (ev_geq rfl rfl) (by omega)) ?_
                    refine RL.ev rfl rfl ev_move ?_
                    refine RL.onEv rfl rfl (by decide) rfl rfl ev_move ?_
                    refine RL.onEv rfl rfl (by decide) rfl rfl (ev_index Try.underlying23 sz5 ((hF40.sl 1 rfl).ext hN.ext0) rfl rfl (by omega) (by omega)) ?_
                    have hlt_c := UInt8.toNat_lt c
                    refine RL.onEv rfl rfl (by decide) rfl rfl (ev_loadG (m := 0) (a := c) Try.underlying5 rfl ((hF40.sl 1 rfl).ext hN.ext0) rfl hc0) ?_
                    refine RL.onEv rfl rfl (by decide) rfl rfl (ev_false (ev_leq rfl rfl) (by omega)) ?_
                    refine RL.ev rfl rfl (ev_pickT rfl) ?_
                    refine RL.ev rfl rfl ev_assign ?_
                    refine RL.nil ?_
                    refine thenN ?_
                    refine RW.seq ?_
                    refine RW.region ?_
                    refine RL.ev rfl rfl ev_move ?_
                    refine RL.ev rfl rfl ev_move ?_
                    refine RL.onEv rfl rfl (by decide) rfl rfl ev_move ?_
                    refine RL.onEv rfl rfl (by decide) rfl rfl (ev_false (ev_neq rfl rfl) (by omega)) ?_
                    refine RL.ev rfl rfl (ev_pickT rfl) ?_
                    refine RL.ev rfl rfl ev_move ?_
                    refine RL.onEv rfl rfl (by decide) rfl rfl ev_move ?_
                    refine RL.onEv rfl rfl (by decide) rfl rfl (ev_not rfl) ?_
                    refine RL.onEv rfl rfl (by decide) rfl rfl ev_move ?_
                    refine RL.off rfl rfl (by decide) rfl rfl ?_
                    refine RL.off rfl rfl (by decide) rfl rfl ?_
                    refine RL.onEv rfl rfl (by decide) rfl rfl (ev_pickF rfl) ?_
                    refine RL.onEv rfl rfl (by decide) rfl rfl ev_move ?_
                    refine RL.off rfl rfl (by decide) rfl rfl ?_
                    refine RL.off rfl rfl (by decide) rfl rfl ?_
                    refine RL.onEv rfl rfl (by decide) rfl rfl (ev_pickF rfl) ?_
                    refine RL.ev rfl rfl (ev_pickF rfl) ?_
                    refine RL.nil ?_
                    refine thenN ?_
                    refine RW.condF rfl ?_
                    refine RW.skip ?_
                    refine blockN ?_
                    refine thenN ?_
                    refine RW.seq ?_
                    refine RW.region ?_
                    refine RL.ev rfl rfl (ev_loadAll (cs := [.int .i64 (q.kind), (str s), .int .i64 (q.k), .int .i64 (kk), .int .i64 (q.t), x]) Try.underlying38 rfl sz38 rfl ((hF40.blk 0 rfl).ext hN.ext0)) ?_
                    refine RL.op rfl rfl (op_call1 Try.func25 rfl rfl rfl ((ask_calls _ (⟨q.kind, s, q.k, kk, q.t, q.ts⟩) _ ⟨x, rfl, ((hx.ext hF40.ext0).ext hN.ext0)⟩ (by first | omega | (simp; done) | (simp; omega)) (by first | omega | (simp; done) | (simp; omega))).mono ?_))
                    rintro v61 w61 ⟨ho_, he_⟩
                    have hN_ := hN.pushOwn (l := askB (⟨q.kind, s, q.k, kk, q.t, q.ts⟩)) ho_ he_
                    clear ho_ he_
                    clear hN
                    have hN : Now w39 none_ w61 [_, _] := hN_
                    clear hN_
                    refine RL.ev rfl rfl ev_move ?_
                    refine RL.op rfl rfl (op_call2 Try.func13 rfl rfl rfl rfl ((same_true (hN.sl 0 rfl) ((hF40.sl 1 rfl).ext hN.ext0) (ask_fields rfl (by intro _; first | rfl | (exfalso; omega)) (by intro _; first | rfl | (exfalso; omega)) (by intro _; first | rfl | (exfalso; omega)) (by intro _; first | rfl | (exfalso; omega)) (by intro _; first | rfl | (exfalso; omega)))).mono ?_))
                    rintro _ _ ⟨rfl, rfl⟩
                    refine RL.ev rfl rfl ev_move ?_
                    refine RL.on rfl rfl (by decide) rfl rfl (op_call0 Try.func10 rfl rfl ((known_calls _).mono ?_))
                    rintro _ w63 ⟨rfl, he_⟩
                    replace hN := hN.ext he_
                    clear he_
                    refine RL.ev rfl rfl (ev_pickT rfl) ?_
                    refine RL.ev rfl rfl ev_assign ?_
                    refine RL.nil ?_
                    refine thenN ?_
                    refine RW.ret ?_
                    refine retI (RV.tmp rfl) ?_
                    exact ⟨rfl, (hF40.ext0.trans hN.ext0)⟩
                  · skip
                    refine RW.region ?_
                    refine RL.ev rfl rfl ev_move ?_
                    refine RL.ev rfl rfl (ev_index Try.underlying23 sz5 ((hF40.sl 1 rfl).ext hN.ext0) rfl rfl (by omega) (by omega)) ?_
                    have hlt_c := UInt8.toNat_lt c
                    refine RL.ev rfl rfl (ev_loadG (m := 0) (a := c) Try.underlying5 rfl ((hF40.sl 1 rfl).ext hN.ext0) rfl hc0) ?_
                    refine RL.ev rfl rfl (ev_false (ev_eql rfl rfl) (by omega)) ?_
                    refine RL.ev rfl rfl ev_move ?_
                    refine RL.onEv rfl rfl (by decide) rfl rfl ev_move ?_
                    refine RL.onEv rfl rfl (by decide) rfl rfl (ev_index Try.underlying23 sz5 ((hF40.sl 1 rfl).ext hN.ext0) rfl rfl (by omega) (by omega)) ?_
                    have hlt_c := UInt8.toNat_lt c
                    refine RL.onEv rfl rfl (by decide) rfl rfl (ev_loadG (m := 0) (a := c) Try.underlying5 rfl ((hF40.sl 1 rfl).ext hN.ext0) rfl hc0) ?_
                    refine RL.onEv rfl rfl (by decide) rfl rfl (ev_false (ev_eql rfl rfl) (by omega)) ?_
                    refine RL.ev rfl rfl (ev_pickF rfl) ?_
                    refine RL.ev rfl rfl ev_move ?_
                    refine RL.onEv rfl rfl (by decide) rfl rfl ev_move ?_
                    refine RL.onEv rfl rfl (by decide) rfl rfl (ev_index Try.underlying23 sz5 ((hF40.sl 1 rfl).ext hN.ext0) rfl rfl (by omega) (by omega)) ?_
                    have hlt_c := UInt8.toNat_lt c
                    refine RL.onEv rfl rfl (by decide) rfl rfl (ev_loadG (m := 0) (a := c) Try.underlying5 rfl ((hF40.sl 1 rfl).ext hN.ext0) rfl hc0) ?_
                    refine RL.onEv rfl rfl (by decide) rfl rfl (ev_false (ev_eql rfl rfl) (by omega)) ?_
                    refine RL.ev rfl rfl (ev_pickF rfl) ?_
                    refine RL.ev rfl rfl ev_assign ?_
                    refine RL.nil ?_
                    refine thenN ?_
                    refine RW.seq ?_
                    refine RW.region ?_
                    refine RL.ev rfl rfl ev_move ?_
                    refine RL.ev rfl rfl (ev_index Try.underlying23 sz5 ((hF40.sl 1 rfl).ext hN.ext0) rfl rfl (by omega) (by omega)) ?_
                    have hlt_c := UInt8.toNat_lt c
                    refine RL.ev rfl rfl (ev_loadG (m := 0) (a := c) Try.underlying5 rfl ((hF40.sl 1 rfl).ext hN.ext0) rfl hc0) ?_
                    refine RL.ev rfl rfl (ev_false (ev_geq rfl rfl) (by omega)) ?_
                    refine RL.ev rfl rfl ev_move ?_
                    refine RL.off rfl rfl (by decide) rfl rfl ?_
                    refine RL.off rfl rfl (by decide) rfl rfl ?_
                    refine RL.off rfl rfl (by decide) rfl rfl ?_
                    refine RL.off rfl rfl (by decide) rfl rfl ?_
                    refine RL.ev rfl rfl (ev_pickF rfl) ?_
                    refine RL.ev rfl rfl ev_assign ?_
                    refine RL.nil ?_
                    refine thenN ?_
                    refine RW.seq ?_
                    refine RW.region ?_
                    refine RL.ev rfl rfl ev_move ?_
                    refine RL.ev rfl rfl ev_move ?_
                    refine RL.off rfl rfl (by decide) rfl rfl ?_
                    refine RL.off rfl rfl (by decide) rfl rfl ?_
                    refine RL.ev rfl rfl (ev_pickF rfl) ?_
                    refine RL.ev rfl rfl ev_move ?_
                    refine RL.onEv rfl rfl (by decide) rfl rfl ev_move ?_
                    refine RL.onEv rfl rfl (by decide) rfl rfl (ev_not rfl) ?_
                    refine RL.onEv rfl rfl (by decide) rfl rfl ev_move ?_
                    refine RL.onEv rfl rfl (by decide) rfl rfl ev_move ?_
                    refine RL.onEv rfl rfl (by decide) rfl rfl (ev_not rfl) ?_
                    refine RL.onEv rfl rfl (by decide) rfl rfl (ev_pickT rfl) ?_
                    refine RL.onEv rfl rfl (by decide) rfl rfl ev_move ?_
                    refine RL.onEv rfl rfl (by decide) rfl rfl ev_move ?_
                    refine RL.onEv rfl rfl (by decide) rfl rfl (ev_false (ev_neq rfl rfl) (by omega)) ?_
                    refine RL.onEv rfl rfl (by decide) rfl rfl (ev_pickT rfl) ?_
                    refine RL.ev rfl rfl (ev_pickF rfl) ?_
                    refine RL.nil ?_
                    refine thenN ?_
                    refine RW.condF rfl ?_
                    refine RW.skip ?_
                    refine blockN ?_
                    refine thenN ?_
                    refine RW.seq ?_
                    refine RW.region ?_
                    refine RL.ev rfl rfl (ev_loadAll (cs := [.int .i64 (q.kind), (str s), .int .i64 (q.k), .int .i64 (kk), .int .i64 (q.t), x]) Try.underlying38 rfl sz38 rfl ((hF40.blk 0 rfl).ext hN.ext0)) ?_
                    refine RL.op rfl rfl (op_call1 Try.func25 rfl rfl rfl ((ask_calls _ (⟨q.kind, s, q.k, kk, q.t, q.ts⟩) _ ⟨x, rfl, ((hx.ext hF40.ext0).ext hN.ext0)⟩ (by first | omega | (simp; done) | (simp; omega)) (by first | omega | (simp; done) | (simp; omega))).mono ?_))
                    rintro v68 w68 ⟨ho_, he_⟩
                    have hN_ := hN.pushOwn (l := askB (⟨q.kind, s, q.k, kk, q.t, q.ts⟩)) ho_ he_
                    clear ho_ he_
                    clear hN
                    have hN : Now w39 none_ w68 [_, _] := hN_
                    clear hN_
                    refine RL.ev rfl rfl ev_move ?_
                    refine RL.op rfl rfl (op_call2 Try.func13 rfl rfl rfl rfl ((same_true (hN.sl 0 rfl) ((hF40.sl 1 rfl).ext hN.ext0) (ask_fields rfl (by intro _; first | rfl | (exfalso; omega)) (by intro _; first | rfl | (exfalso; omega)) (by intro _; first | rfl | (exfalso; omega)) (by intro _; first | rfl | (exfalso; omega)) (by intro _; first | rfl | (exfalso; omega)))).mono ?_))
                    rintro _ _ ⟨rfl, rfl⟩
                    refine RL.ev rfl rfl ev_move ?_
                    refine RL.on rfl rfl (by decide) rfl rfl (op_call0 Try.func10 rfl rfl ((known_calls _).mono ?_))
                    rintro _ w70 ⟨rfl, he_⟩
                    replace hN := hN.ext he_
                    clear he_
                    refine RL.ev rfl rfl (ev_pickT rfl) ?_
                    refine RL.ev rfl rfl ev_assign ?_
                    refine RL.nil ?_
                    refine thenN ?_
                    refine RW.ret ?_
                    refine retI (RV.tmp rfl) ?_
                    exact ⟨rfl, (hF40.ext0.trans hN.ext0)⟩
                  · skip
                    refine RW.region ?_
                    refine RL.ev rfl rfl ev_move ?_
                    refine RL.ev rfl rfl (ev_index Try.underlying23 sz5 ((hF40.sl 1 rfl).ext hN.ext0) rfl rfl (by omega) (by omega)) ?_
                    have hlt_c := UInt8.toNat_lt c
                    refine RL.ev rfl rfl (ev_loadG (m := 0) (a := c) Try.underlying5 rfl ((hF40.sl 1 rfl).ext hN.ext0) rfl hc0) ?_
                    refine RL.ev rfl rfl (ev_false (ev_eql rfl rfl) (by omega)) ?_
                    refine RL.ev rfl rfl ev_move ?_
                    refine RL.onEv rfl rfl (by decide) rfl rfl ev_move ?_
                    refine RL.onEv rfl rfl (by decide) rfl rfl (ev_index Try.underlying23 sz5 ((hF40.sl 1 rfl).ext hN.ext0) rfl rfl (by omega) (by omega)) ?_
                    have hlt_c := UInt8.toNat_lt c
                    refine RL.onEv rfl rfl (by decide) rfl rfl (ev_loadG (m := 0) (a := c) Try.underlying5 rfl ((hF40.sl 1 rfl).ext hN.ext0) rfl hc0) ?_
                    refine RL.onEv rfl rfl (by decide) rfl rfl (ev_false (ev_eql rfl rfl) (by omega)) ?_
                    refine RL.ev rfl rfl (ev_pickF rfl) ?_
                    refine RL.ev rfl rfl ev_move ?_
                    refine RL.onEv rfl rfl (by decide) rfl rfl ev_move ?_
                    refine RL.onEv rfl rfl (by decide) rfl rfl (ev_index Try.underlying23 sz5 ((hF40.sl 1 rfl).ext hN.ext0) rfl rfl (by omega) (by omega)) ?_
                    have hlt_c := UInt8.toNat_lt c
                    refine RL.onEv rfl rfl (by decide) rfl rfl (ev_loadG (m := 0) (a := c) Try.underlying5 rfl ((hF40.sl 1 rfl).ext hN.ext0) rfl hc0) ?_
                    refine RL.onEv rfl rfl (by decide) rfl rfl (ev_false (ev_eql rfl rfl) (by omega)) ?_
                    refine RL.ev rfl rfl (ev_pickF rfl) ?_
                    refine RL.ev rfl rfl ev_assign ?_
                    refine RL.nil ?_
                    refine thenN ?_
                    refine RW.seq ?_
                    refine RW.region ?_
                    refine RL.ev rfl rfl ev_move ?_
                    refine RL.ev rfl rfl (ev_index Try.underlying23 sz5 ((hF40.sl 1 rfl).ext hN.ext0) rfl rfl (by omega) (by omega)) ?_
                    have hlt_c := UInt8.toNat_lt c
                    refine RL.ev rfl rfl (ev_loadG (m := 0) (a := c) Try.underlying5 rfl ((hF40.sl 1 rfl).ext hN.ext0) rfl hc0) ?_
                    refine RL.ev rfl rfl (ev_true (ev_geq rfl rfl) (by omega)) ?_
                    refine RL.ev rfl rfl ev_move ?_
                    refine RL.onEv rfl rfl (by decide) rfl rfl ev_move ?_
                    refine RL.onEv rfl rfl (by decide) rfl rfl (ev_index Try.underlying23 sz5 ((hF40.sl 1 rfl).ext hN.ext0) rfl rfl (by omega) (by omega)) ?_
                    have hlt_c := UInt8.toNat_lt c
                    refine RL.onEv rfl rfl (by decide) rfl rfl (ev_loadG (m := 0) (a := c) Try.underlying5 rfl ((hF40.sl 1 rfl).ext hN.ext0) rfl hc0) ?_
                    refine RL.onEv rfl rfl (by decide) rfl rfl (ev_false (ev_leq rfl rfl) (by omega)) ?_
                    refine RL.ev rfl rfl (ev_pickT rfl) ?_
                    refine RL.ev rfl rfl ev_assign ?_
                    refine RL.nil ?_
                    refine thenN ?_
                    refine RW.seq ?_
                    refine RW.region ?_
                    refine RL.ev rfl rfl ev_move ?_
                    refine RL.ev rfl rfl ev_move ?_
                    refine RL.off rfl rfl (by decide) rfl rfl ?_
                    refine RL.off rfl rfl (by decide) rfl rfl ?_
                    refine RL.ev rfl rfl (ev_pickF rfl) ?_
                    refine RL.ev rfl rfl ev_move ?_
                    refine RL.onEv rfl rfl (by decide) rfl rfl ev_move ?_
                    refine RL.onEv rfl rfl (by decide) rfl rfl (ev_not rfl) ?_
                    refine RL.onEv rfl rfl (by decide) rfl rfl ev_move ?_
                    refine RL.onEv rfl rfl (by decide) rfl rfl ev_move ?_
                    refine RL.onEv rfl rfl (by decide) rfl rfl (ev_not rfl) ?_
                    refine RL.onEv rfl rfl (by decide) rfl rfl (ev_pickT rfl) ?_
                    refine RL.onEv rfl rfl (by decide) rfl rfl ev_move ?_
                    refine RL.onEv rfl rfl (by decide) rfl rfl ev_move ?_
                    refine RL.onEv rfl rfl (by decide) rfl rfl (ev_false (ev_neq rfl rfl) (by omega)) ?_
                    refine RL.onEv rfl rfl (by decide) rfl rfl (ev_pickT rfl) ?_
                    refine RL.ev rfl rfl (ev_pickF rfl) ?_
                    refine RL.nil ?_
                    refine thenN ?_
                    refine RW.condF rfl ?_
                    refine RW.skip ?_
                    refine blockN ?_
                    refine thenN ?_
                    refine RW.seq ?_
                    refine RW.region ?_
                    refine RL.ev rfl rfl (ev_loadAll (cs := [.int .i64 (q.kind), (str s), .int .i64 (q.k), .int .i64 (kk), .int .i64 (q.t), x]) Try.underlying38 rfl sz38 rfl ((hF40.blk 0 rfl).ext hN.ext0)) ?_
                    refine RL.op rfl rfl (op_call1 Try.func25 rfl rfl rfl ((ask_calls _ (⟨q.kind, s, q.k, kk, q.t, q.ts⟩) _ ⟨x, rfl, ((hx.ext hF40.ext0).ext hN.ext0)⟩ (by first | omega | (simp; done) | (simp; omega)) (by first | omega | (simp; done) | (simp; omega))).mono ?_))
                    rintro v76 w76 ⟨ho_, he_⟩
                    have hN_ := hN.pushOwn (l := askB (⟨q.kind, s, q.k, kk, q.t, q.ts⟩)) ho_ he_
                    clear ho_ he_
                    clear hN
                    have hN : Now w39 none_ w76 [_, _] := hN_
                    clear hN_
                    refine RL.ev rfl rfl ev_move ?_
                    refine RL.op rfl rfl (op_call2 Try.func13 rfl rfl rfl rfl ((same_true (hN.sl 0 rfl) ((hF40.sl 1 rfl).ext hN.ext0) (ask_fields rfl (by intro _; first | rfl | (exfalso; omega)) (by intro _; first | rfl | (exfalso; omega)) (by intro _; first | rfl | (exfalso; omega)) (by intro _; first | rfl | (exfalso; omega)) (by intro _; first | rfl | (exfalso; omega)))).mono ?_))
                    rintro _ _ ⟨rfl, rfl⟩
                    refine RL.ev rfl rfl ev_move ?_
                    refine RL.on rfl rfl (by decide) rfl rfl (op_call0 Try.func10 rfl rfl ((known_calls _).mono ?_))
                    rintro _ w78 ⟨rfl, he_⟩
                    replace hN := hN.ext he_
                    clear he_
                    refine RL.ev rfl rfl (ev_pickT rfl) ?_
                    refine RL.ev rfl rfl ev_assign ?_
                    refine RL.nil ?_
                    refine thenN ?_
                    refine RW.ret ?_
                    refine retI (RV.tmp rfl) ?_
                    exact ⟨rfl, (hF40.ext0.trans hN.ext0)⟩
                  · skip
                    refine RW.region ?_
                    refine RL.ev rfl rfl ev_move ?_
                    refine RL.ev rfl rfl (ev_index Try.underlying23 sz5 ((hF40.sl 1 rfl).ext hN.ext0) rfl rfl (by omega) (by omega)) ?_
                    have hlt_c := UInt8.toNat_lt c
                    refine RL.ev rfl rfl (ev_loadG (m := 0) (a := c) Try.underlying5 rfl ((hF40.sl 1 rfl).ext hN.ext0) rfl hc0) ?_
                    refine RL.ev rfl rfl (ev_false (ev_eql rfl rfl) (by omega)) ?_
                    refine RL.ev rfl rfl ev_move ?_
                    refine RL.onEv rfl rfl (by decide) rfl rfl ev_move ?_
                    refine RL.onEv rfl rfl (by decide) rfl rfl (ev_index Try.underlying23 sz5 ((hF40.sl 1 rfl).ext hN.ext0) rfl rfl (by omega) (by omega)) ?_
                    have hlt_c := UInt8.toNat_lt c
                    refine RL.onEv rfl rfl (by decide) rfl rfl (ev_loadG (m := 0) (a := c) Try.underlying5 rfl ((hF40.sl 1 rfl).ext hN.ext0) rfl hc0) ?_
                    refine RL.onEv rfl rfl (by decide) rfl rfl (ev_false (ev_eql rfl rfl) (by omega)) ?_
                    refine RL.ev rfl rfl (ev_pickF rfl) ?_
                    refine RL.ev rfl rfl ev_move ?_
                    refine RL.onEv rfl rfl (by decide) rfl rfl ev_move ?_
                    refine RL.onEv rfl rfl (by decide) rfl rfl (ev_index Try.underlying23 sz5 ((hF40.sl 1 rfl).ext hN.ext0) rfl rfl (by omega) (by omega)) ?_
                    have hlt_c := UInt8.toNat_lt c
                    refine RL.onEv rfl rfl (by decide) rfl rfl (ev_loadG (m := 0) (a := c) Try.underlying5 rfl ((hF40.sl 1 rfl).ext hN.ext0) rfl hc0) ?_
                    refine RL.onEv rfl rfl (by decide) rfl rfl (ev_false (ev_eql rfl rfl) (by omega)) ?_
                    refine RL.ev rfl rfl (ev_pickF rfl) ?_
                    refine RL.ev rfl rfl ev_assign ?_
                    refine RL.nil ?_
                    refine thenN ?_
                    refine RW.seq ?_
                    refine RW.region ?_
                    refine RL.ev rfl rfl ev_move ?_
                    refine RL.ev rfl rfl (ev_index Try.underlying23 sz5 ((hF40.sl 1 rfl).ext hN.ext0) rfl rfl (by omega) (by omega)) ?_
                    have hlt_c := UInt8.toNat_lt c
                    refine RL.ev rfl rfl (ev_loadG (m := 0) (a := c) Try.underlying5 rfl ((hF40.sl 1 rfl).ext hN.ext0) rfl hc0) ?_
                    refine RL.ev rfl rfl (ev_true (ev_geq rfl rfl) (by omega)) ?_
                    refine RL.ev rfl rfl ev_move ?_
                    refine RL.onEv rfl rfl (by decide) rfl rfl ev_move ?_
                    refine RL.onEv rfl rfl (by decide) rfl rfl (ev_index Try.underlying23 sz5 ((hF40.sl 1 rfl).ext hN.ext0) rfl rfl (by omega) (by omega)) ?_
                    have hlt_c := UInt8.toNat_lt c
                    refine RL.onEv rfl rfl (by decide) rfl rfl (ev_loadG (m := 0) (a := c) Try.underlying5 rfl ((hF40.sl 1 rfl).ext hN.ext0) rfl hc0) ?_
                    refine RL.onEv rfl rfl (by decide) rfl rfl (ev_true (ev_leq rfl rfl) (by omega)) ?_
                    refine RL.ev rfl rfl (ev_pickT rfl) ?_
                    refine RL.ev rfl rfl ev_assign ?_
                    refine RL.nil ?_
                    refine thenN ?_
                    refine RW.seq ?_
                    refine RW.region ?_
                    refine RL.ev rfl rfl ev_move ?_
                    refine RL.ev rfl rfl ev_move ?_
                    refine RL.off rfl rfl (by decide) rfl rfl ?_
                    refine RL.off rfl rfl (by decide) rfl rfl ?_
                    refine RL.ev rfl rfl (ev_pickF rfl) ?_
                    refine RL.ev rfl rfl ev_move ?_
                    refine RL.onEv rfl rfl (by decide) rfl rfl ev_move ?_
                    refine RL.onEv rfl rfl (by decide) rfl rfl (ev_not rfl) ?_
                    refine RL.onEv rfl rfl (by decide) rfl rfl ev_move ?_
                    refine RL.onEv rfl rfl (by decide) rfl rfl ev_move ?_
                    refine RL.onEv rfl rfl (by decide) rfl rfl (ev_not rfl) ?_
                    refine RL.onEv rfl rfl (by decide) rfl rfl (ev_pickT rfl) ?_
                    refine RL.onEv rfl rfl (by decide) rfl rfl ev_move ?_
                    refine RL.off rfl rfl (by decide) rfl rfl ?_
                    refine RL.off rfl rfl (by decide) rfl rfl ?_
                    refine RL.onEv rfl rfl (by decide) rfl rfl (ev_pickF rfl) ?_
                    refine RL.ev rfl rfl (ev_pickF rfl) ?_
                    refine RL.nil ?_
                    refine thenN ?_
                    refine RW.condF rfl ?_
                    refine RW.skip ?_
                    refine blockN ?_
                    refine thenN ?_
                    refine RW.seq ?_
                    refine RW.region ?_
                    refine RL.ev rfl rfl (ev_loadAll (cs := [.int .i64 (q.kind), (str s), .int .i64 (q.k), .int .i64 (kk), .int .i64 (q.t), x]) Try.underlying38 rfl sz38 rfl ((hF40.blk 0 rfl).ext hN.ext0)) ?_
                    refine RL.op rfl rfl (op_call1 Try.func25 rfl rfl rfl ((ask_calls _ (⟨q.kind, s, q.k, kk, q.t, q.ts⟩) _ ⟨x, rfl, ((hx.ext hF40.ext0).ext hN.ext0)⟩ (by first | omega | (simp; done) | (simp; omega)) (by first | omega | (simp; done) | (simp; omega))).mono ?_))
                    rintro v84 w84 ⟨ho_, he_⟩
                    have hN_ := hN.pushOwn (l := askB (⟨q.kind, s, q.k, kk, q.t, q.ts⟩)) ho_ he_
                    clear ho_ he_
                    clear hN
                    have hN : Now w39 none_ w84 [_, _] := hN_
                    clear hN_
                    refine RL.ev rfl rfl ev_move ?_
                    refine RL.op rfl rfl (op_call2 Try.func13 rfl rfl rfl rfl ((same_true (hN.sl 0 rfl) ((hF40.sl 1 rfl).ext hN.ext0) (ask_fields rfl (by intro _; first | rfl | (exfalso; omega)) (by intro _; first | rfl | (exfalso; omega)) (by intro _; first | rfl | (exfalso; omega)) (by intro _; first | rfl | (exfalso; omega)) (by intro _; first | rfl | (exfalso; omega)))).mono ?_))
                    rintro _ _ ⟨rfl, rfl⟩
                    refine RL.ev rfl rfl ev_move ?_
                    refine RL.on rfl rfl (by decide) rfl rfl (op_call0 Try.func10 rfl rfl ((known_calls _).mono ?_))
                    rintro _ w86 ⟨rfl, he_⟩
                    replace hN := hN.ext he_
                    clear he_
                    refine RL.ev rfl rfl (ev_pickT rfl) ?_
                    refine RL.ev rfl rfl ev_assign ?_
                    refine RL.nil ?_
                    refine thenN ?_
                    refine RW.ret ?_
                    refine retI (RV.tmp rfl) ?_
                    exact ⟨rfl, (hF40.ext0.trans hN.ext0)⟩

end Go.Proofs.Ytihchogjmgbipaa
