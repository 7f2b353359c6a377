import Derived.Test.YtihchogjmgbipaaWireW11
import Derived.Test.YtihchogjmgbipaaWireW8
import Derived.Test.YtihchogjmgbipaaWirePlain7
set_option linter.unusedVariables false
set_option linter.unusedSimpArgs false
namespace Go.Proofs.Ytihchogjmgbipaa
open Go.RowKit Go.Rl

open Go.Codec
theorem read_at {v : Value} {l : List UInt8} {w : World} {p : Req} {e : Int} (hv : Sl vb w v l) (hl : l.length ≤ 1048576) (h : readR l = (p, e)) :
    Gives Try.prog 23 #[v] w fun r w' => ∃ x, r = .tuple #[x, vi e] ∧ ReqV w' x p ∧ Ext w w' :=
  (read_calls v l w hv hl).mono fun r w' hr => by
    obtain ⟨x, e', h1, h2, h3, h4⟩ := hr
    rw [h] at h2 h3
    subst h3
    exact ⟨x, h1, h2, h4⟩
theorem hear_at {v : Value} {l : List UInt8} {w : World} {p : Resp} {e : Int} (hv : Sl vb w v l) (hl : l.length ≤ 1048576) (h : hearR l = (p, e)) :
    Gives Try.prog 18 #[v] w fun r w' => ∃ x, r = .tuple #[x, vi e] ∧ RespV w' x p ∧ Ext w w' :=
  (hear_calls v l w hv hl).mono fun r w' hr => by
    obtain ⟨x, e', h1, h2, h3, h4⟩ := hr
    rw [h] at h2 h3
    subst h3
    exact ⟨x, h1, h2, h4⟩

set_option maxHeartbeats 4000000 in
set_option maxRecDepth 100000 in
/-- postroad/postroadlaw19.WireBack -/
theorem wireBack_calls (v u : Value) (q : Req) (r : Resp) (cut : Nat) (w : World) (hq : ReqV w v q) (hr : RespV w u r) (ok : q.Ok) (okr : r.Ok) (hcut : cut < 65536) : Gives Try.prog 9 #[v, u, .int .u16 (cut : Int)] w fun r w' => r = .bool true ∧ Ext w w' := by
  have hOb_ := reqOpen hq
  obtain ⟨x, e_, hx⟩ := hOb_
  subst e_
  have hOb_ := respOpen hr
  obtain ⟨xr, yr, e_, hxr, hyr⟩ := hOb_
  subst e_
  have hpr := okr.print
  refine Gives.start Try.func9 rfl (Nat.le_of_ble_eq_true rfl) ?_
  rw [args3]
  have hN := Now.nil w none_
  refine RW.seq ?_
  refine RW.region ?_
  refine RL.op rfl rfl (opN_box (cs := [.int .i64 (q.kind), (str q.text), .int .i64 (q.k), .int .i64 (q.s), .int .i64 (q.t), x]) rfl rfl hN ?_)
  intro g1 w1 hN_
  clear hN
  have hN : Now w none_ w1 [_] := hN_
  clear hN_
  refine RL.op rfl rfl (opN_box (cs := [.int .i64 (r.err), .int .i64 (r.line), .int .i64 (r.d), xr, yr, .int .i64 (r.n), .int .i64 (r.m), .int .i64 (r.k), .int .u64 ((r.print : Int))]) rfl rfl hN ?_)
  intro g2 w2 hN_
  clear hN
  have hN : Now w none_ w2 [_, _] := hN_
  clear hN_
  refine RL.ev rfl rfl ev_assign ?_
  refine RL.nil ?_
  refine thenN ?_
  refine RW.seq ?_
  refine RW.seq ?_
  refine RW.region ?_
  refine RL.ev rfl rfl (ev_fieldAddr Try.underlying38 rfl sz3 (by decide) rfl) ?_
  refine RL.ev rfl rfl (ev_loadB Try.underlying3 rfl rfl (hN.blk 1 rfl) rfl) ?_
  refine RL.ev rfl rfl (ev_lss rfl rfl) ?_
  refine RL.ev rfl rfl ev_move ?_
  by_cases hg1_3 : q.kind < 1
  · skip
    rw [decide_eq_true hg1_3]
    refine RL.off rfl rfl (by decide) rfl rfl ?_
    refine RL.off rfl rfl (by decide) rfl rfl ?_
    refine RL.off rfl rfl (by decide) rfl rfl ?_
    refine RL.ev rfl rfl (ev_pickT rfl) ?_
    refine RL.ev rfl rfl ev_move ?_
    refine RL.off rfl rfl (by decide) rfl rfl ?_
    refine RL.off rfl rfl (by decide) rfl rfl ?_
    refine RL.off rfl rfl (by decide) rfl rfl ?_
    refine RL.off rfl rfl (by decide) rfl rfl ?_
    refine RL.ev rfl rfl (ev_pickT rfl) ?_
    refine RL.ev rfl rfl ev_move ?_
    refine RL.off rfl rfl (by decide) rfl rfl ?_
    refine RL.off rfl rfl (by decide) rfl rfl ?_
    refine RL.off rfl rfl (by decide) rfl rfl ?_
    refine RL.off rfl rfl (by decide) rfl rfl ?_
    refine RL.ev rfl rfl (ev_pickT rfl) ?_
    refine RL.ev rfl rfl ev_move ?_
    refine RL.off rfl rfl (by decide) rfl rfl ?_
    refine RL.off rfl rfl (by decide) rfl rfl ?_
    refine RL.off rfl rfl (by decide) rfl rfl ?_
    refine RL.off rfl rfl (by decide) rfl rfl ?_
    refine RL.ev rfl rfl (ev_pickT rfl) ?_
    refine RL.ev rfl rfl ev_move ?_
    refine RL.off rfl rfl (by decide) rfl rfl ?_
    refine RL.off rfl rfl (by decide) rfl rfl ?_
    refine RL.off rfl rfl (by decide) rfl rfl ?_
    refine RL.off rfl rfl (by decide) rfl rfl ?_
    refine RL.ev rfl rfl (ev_pickT rfl) ?_
    refine RL.ev rfl rfl ev_move ?_
    refine RL.off rfl rfl (by decide) rfl rfl ?_
    refine RL.off rfl rfl (by decide) rfl rfl ?_
    refine RL.off rfl rfl (by decide) rfl rfl ?_
    refine RL.ev rfl rfl (ev_pickT rfl) ?_
    refine RL.ev rfl rfl ev_move ?_
    refine RL.off rfl rfl (by decide) rfl rfl ?_
    refine RL.off rfl rfl (by decide) rfl rfl ?_
    refine RL.off rfl rfl (by decide) rfl rfl ?_
    refine RL.ev rfl rfl (ev_pickT rfl) ?_
    refine RL.nil ?_
    refine thenN ?_
    refine RW.condT rfl ?_
    refine RW.seq ?_
    refine RW.region ?_
    refine RL.op rfl rfl (op_call0 Try.func10 rfl rfl ((known_calls _).mono ?_))
    rintro _ w3 ⟨rfl, he_⟩
    replace hN := hN.ext he_
    clear he_
    refine RL.ev rfl rfl ev_assign ?_
    refine RL.nil ?_
    refine thenN ?_
    refine RW.ret ?_
    refine thenR ?_
    refine retI (RV.tmp rfl) ?_
    exact ⟨rfl, hN.ext0⟩
  · skip
    rw [decide_eq_false hg1_3]
    refine RL.onEv rfl rfl (by decide) rfl rfl (ev_fieldAddr Try.underlying38 rfl sz3 (by decide) rfl) ?_
    refine RL.onEv rfl rfl (by decide) rfl rfl (ev_loadB Try.underlying3 rfl rfl (hN.blk 1 rfl) rfl) ?_
    refine RL.onEv rfl rfl (by decide) rfl rfl (ev_gtr rfl rfl) ?_
    refine RL.ev rfl rfl (ev_pickF rfl) ?_
    refine RL.ev rfl rfl ev_move ?_
    by_cases hg1_8 : 8 < q.kind
    · skip
      rw [decide_eq_true hg1_8]
      refine RL.off rfl rfl (by decide) rfl rfl ?_
      refine RL.off rfl rfl (by decide) rfl rfl ?_
      refine RL.off rfl rfl (by decide) rfl rfl ?_
      refine RL.off rfl rfl (by decide) rfl rfl ?_
      refine RL.ev rfl rfl (ev_pickT rfl) ?_
      refine RL.ev rfl rfl ev_move ?_
      refine RL.off rfl rfl (by decide) rfl rfl ?_
      refine RL.off rfl rfl (by decide) rfl rfl ?_
      refine RL.off rfl rfl (by decide) rfl rfl ?_
      refine RL.off rfl rfl (by decide) rfl rfl ?_
      refine RL.ev rfl rfl (ev_pickT rfl) ?_
      refine RL.ev rfl rfl ev_move ?_
      refine RL.off rfl rfl (by decide) rfl rfl ?_
      refine RL.off rfl rfl (by decide) rfl rfl ?_
      refine RL.off rfl rfl (by decide) rfl rfl ?_
      refine RL.off rfl rfl (by decide) rfl rfl ?_
      refine RL.ev rfl rfl (ev_pickT rfl) ?_
      refine RL.ev rfl rfl ev_move ?_
      refine RL.off rfl rfl (by decide) rfl rfl ?_
      refine RL.off rfl rfl (by decide) rfl rfl ?_
      refine RL.off rfl rfl (by decide) rfl rfl ?_
      refine RL.off rfl rfl (by decide) rfl rfl ?_
      refine RL.ev rfl rfl (ev_pickT rfl) ?_
      refine RL.ev rfl rfl ev_move ?_
      refine RL.off rfl rfl (by decide) rfl rfl ?_
      refine RL.off rfl rfl (by decide) rfl rfl ?_
      refine RL.off rfl rfl (by decide) rfl rfl ?_
      refine RL.ev rfl rfl (ev_pickT rfl) ?_
      refine RL.ev rfl rfl ev_move ?_
      refine RL.off rfl rfl (by decide) rfl rfl ?_
      refine RL.off rfl rfl (by decide) rfl rfl ?_
      refine RL.off rfl rfl (by decide) rfl rfl ?_
      refine RL.ev rfl rfl (ev_pickT rfl) ?_
      refine RL.nil ?_
      refine thenN ?_
      refine RW.condT rfl ?_
      refine RW.seq ?_
      refine RW.region ?_
      refine RL.op rfl rfl (op_call0 Try.func10 rfl rfl ((known_calls _).mono ?_))
      rintro _ w4 ⟨rfl, he_⟩
      replace hN := hN.ext he_
      clear he_
      refine RL.ev rfl rfl ev_assign ?_
      refine RL.nil ?_
      refine thenN ?_
      refine RW.ret ?_
      refine thenR ?_
      refine retI (RV.tmp rfl) ?_
      exact ⟨rfl, hN.ext0⟩
    · skip
      rw [decide_eq_false hg1_8]
      refine RL.onEv rfl rfl (by decide) rfl rfl (ev_fieldAddr Try.underlying38 rfl sz9 (by decide) rfl) ?_
      refine RL.onEv rfl rfl (by decide) rfl rfl (ev_loadB Try.underlying9 rfl rfl (hN.blk 1 rfl) rfl) ?_
      refine RL.onEv rfl rfl (by decide) rfl rfl (ev_lenS' Try.underlying9 rfl) ?_
      refine RL.onEv rfl rfl (by decide) rfl rfl (ev_gtr rfl rfl) ?_
      refine RL.ev rfl rfl (ev_pickF rfl) ?_
      refine RL.ev rfl rfl ev_move ?_
      by_cases hg1_14 : 500 < (q.text.length : Int)
      · skip
        rw [decide_eq_true hg1_14]
        refine RL.off rfl rfl (by decide) rfl rfl ?_
        refine RL.off rfl rfl (by decide) rfl rfl ?_
        refine RL.off rfl rfl (by decide) rfl rfl ?_
        refine RL.off rfl rfl (by decide) rfl rfl ?_
        refine RL.ev rfl rfl (ev_pickT rfl) ?_
        refine RL.ev rfl rfl ev_move ?_
        refine RL.off rfl rfl (by decide) rfl rfl ?_
        refine RL.off rfl rfl (by decide) rfl rfl ?_
        refine RL.off rfl rfl (by decide) rfl rfl ?_
        refine RL.off rfl rfl (by decide) rfl rfl ?_
        refine RL.ev rfl rfl (ev_pickT rfl) ?_
        refine RL.ev rfl rfl ev_move ?_
        refine RL.off rfl rfl (by decide) rfl rfl ?_
        refine RL.off rfl rfl (by decide) rfl rfl ?_
        refine RL.off rfl rfl (by decide) rfl rfl ?_
        refine RL.off rfl rfl (by decide) rfl rfl ?_
        refine RL.ev rfl rfl (ev_pickT rfl) ?_
        refine RL.ev rfl rfl ev_move ?_
        refine RL.off rfl rfl (by decide) rfl rfl ?_
        refine RL.off rfl rfl (by decide) rfl rfl ?_
        refine RL.off rfl rfl (by decide) rfl rfl ?_
        refine RL.ev rfl rfl (ev_pickT rfl) ?_
        refine RL.ev rfl rfl ev_move ?_
        refine RL.off rfl rfl (by decide) rfl rfl ?_
        refine RL.off rfl rfl (by decide) rfl rfl ?_
        refine RL.off rfl rfl (by decide) rfl rfl ?_
        refine RL.ev rfl rfl (ev_pickT rfl) ?_
        refine RL.nil ?_
        refine thenN ?_
        refine RW.condT rfl ?_
        refine RW.seq ?_
        refine RW.region ?_
        refine RL.op rfl rfl (op_call0 Try.func10 rfl rfl ((known_calls _).mono ?_))
        rintro _ w5 ⟨rfl, he_⟩
        replace hN := hN.ext he_
        clear he_
        refine RL.ev rfl rfl ev_assign ?_
        refine RL.nil ?_
        refine thenN ?_
        refine RW.ret ?_
        refine thenR ?_
        refine retI (RV.tmp rfl) ?_
        exact ⟨rfl, hN.ext0⟩
      · skip
        rw [decide_eq_false hg1_14]
        refine RL.onEv rfl rfl (by decide) rfl rfl (ev_fieldAddr Try.underlying38 rfl sz36 (by decide) rfl) ?_
        refine RL.onEv rfl rfl (by decide) rfl rfl (ev_loadB Try.underlying36 rfl rfl (hN.blk 1 rfl) rfl) ?_
        have hL_6 := (hx.ext hN.ext0).len_le
        refine RL.onEv rfl rfl (by decide) rfl rfl (ev_lenS Try.underlying36 (hx.ext hN.ext0) rfl) ?_
        refine RL.onEv rfl rfl (by decide) rfl rfl (ev_gtr rfl rfl) ?_
        refine RL.ev rfl rfl (ev_pickF rfl) ?_
        refine RL.ev rfl rfl ev_move ?_
        by_cases hg1_20 : 50 < (q.ts.length : Int)
        · skip
          rw [decide_eq_true hg1_20]
          refine RL.off rfl rfl (by decide) rfl rfl ?_
          refine RL.off rfl rfl (by decide) rfl rfl ?_
          refine RL.off rfl rfl (by decide) rfl rfl ?_
          refine RL.off rfl rfl (by decide) rfl rfl ?_
          refine RL.ev rfl rfl (ev_pickT rfl) ?_
          refine RL.ev rfl rfl ev_move ?_
          refine RL.off rfl rfl (by decide) rfl rfl ?_
          refine RL.off rfl rfl (by decide) rfl rfl ?_
          refine RL.off rfl rfl (by decide) rfl rfl ?_
          refine RL.off rfl rfl (by decide) rfl rfl ?_
          refine RL.ev rfl rfl (ev_pickT rfl) ?_
          refine RL.ev rfl rfl ev_move ?_
          refine RL.off rfl rfl (by decide) rfl rfl ?_
          refine RL.off rfl rfl (by decide) rfl rfl ?_
          refine RL.off rfl rfl (by decide) rfl rfl ?_
          refine RL.ev rfl rfl (ev_pickT rfl) ?_
          refine RL.ev rfl rfl ev_move ?_
          refine RL.off rfl rfl (by decide) rfl rfl ?_
          refine RL.off rfl rfl (by decide) rfl rfl ?_
          refine RL.off rfl rfl (by decide) rfl rfl ?_
          refine RL.ev rfl rfl (ev_pickT rfl) ?_
          refine RL.nil ?_
          refine thenN ?_
          refine RW.condT rfl ?_
          refine RW.seq ?_
          refine RW.region ?_
          refine RL.op rfl rfl (op_call0 Try.func10 rfl rfl ((known_calls _).mono ?_))
          rintro _ w7 ⟨rfl, he_⟩
          replace hN := hN.ext he_
          clear he_
          refine RL.ev rfl rfl ev_assign ?_
          refine RL.nil ?_
          refine thenN ?_
          refine RW.ret ?_
          refine thenR ?_
          refine retI (RV.tmp rfl) ?_
          exact ⟨rfl, hN.ext0⟩
        · skip
          rw [decide_eq_false hg1_20]
          refine RL.onEv rfl rfl (by decide) rfl rfl (ev_fieldAddr Try.underlying41 rfl sz36 (by decide) rfl) ?_
          refine RL.onEv rfl rfl (by decide) rfl rfl (ev_loadB Try.underlying36 rfl rfl (hN.blk 0 rfl) rfl) ?_
          have hL_8 := (hxr.ext hN.ext0).len_le
          refine RL.onEv rfl rfl (by decide) rfl rfl (ev_lenS Try.underlying36 (hxr.ext hN.ext0) rfl) ?_
          refine RL.onEv rfl rfl (by decide) rfl rfl (ev_gtr rfl rfl) ?_
          refine RL.ev rfl rfl (ev_pickF rfl) ?_
          refine RL.ev rfl rfl ev_move ?_
          by_cases hg1_26 : 50 < (r.ds.length : Int)
          · skip
            rw [decide_eq_true hg1_26]
            refine RL.off rfl rfl (by decide) rfl rfl ?_
            refine RL.off rfl rfl (by decide) rfl rfl ?_
            refine RL.off rfl rfl (by decide) rfl rfl ?_
            refine RL.off rfl rfl (by decide) rfl rfl ?_
            refine RL.ev rfl rfl (ev_pickT rfl) ?_
            refine RL.ev rfl rfl ev_move ?_
            refine RL.off rfl rfl (by decide) rfl rfl ?_
            refine RL.off rfl rfl (by decide) rfl rfl ?_
            refine RL.off rfl rfl (by decide) rfl rfl ?_
            refine RL.ev rfl rfl (ev_pickT rfl) ?_
            refine RL.ev rfl rfl ev_move ?_
            refine RL.off rfl rfl (by decide) rfl rfl ?_
            refine RL.off rfl rfl (by decide) rfl rfl ?_
            refine RL.off rfl rfl (by decide) rfl rfl ?_
            refine RL.ev rfl rfl (ev_pickT rfl) ?_
            refine RL.nil ?_
            refine thenN ?_
            refine RW.condT rfl ?_
            refine RW.seq ?_
            refine RW.region ?_
            refine RL.op rfl rfl (op_call0 Try.func10 rfl rfl ((known_calls _).mono ?_))
            rintro _ w9 ⟨rfl, he_⟩
            replace hN := hN.ext he_
            clear he_
            refine RL.ev rfl rfl ev_assign ?_
            refine RL.nil ?_
            refine thenN ?_
            refine RW.ret ?_
            refine thenR ?_
            refine retI (RV.tmp rfl) ?_
            exact ⟨rfl, hN.ext0⟩
          · skip
            rw [decide_eq_false hg1_26]
            refine RL.onEv rfl rfl (by decide) rfl rfl (ev_fieldAddr Try.underlying41 rfl sz36 (by decide) rfl) ?_
            refine RL.onEv rfl rfl (by decide) rfl rfl (ev_loadB Try.underlying36 rfl rfl (hN.blk 0 rfl) rfl) ?_
            have hL_10 := (hyr.ext hN.ext0).len_le
            refine RL.onEv rfl rfl (by decide) rfl rfl (ev_lenS Try.underlying36 (hyr.ext hN.ext0) rfl) ?_
            refine RL.onEv rfl rfl (by decide) rfl rfl (ev_gtr rfl rfl) ?_
            refine RL.ev rfl rfl (ev_pickF rfl) ?_
            refine RL.ev rfl rfl ev_move ?_
            by_cases hg1_32 : 50 < (r.arcs.length : Int)
            · skip
              rw [decide_eq_true hg1_32]
              refine RL.off rfl rfl (by decide) rfl rfl ?_
              refine RL.off rfl rfl (by decide) rfl rfl ?_
              refine RL.off rfl rfl (by decide) rfl rfl ?_
              refine RL.ev rfl rfl (ev_pickT rfl) ?_
              refine RL.ev rfl rfl ev_move ?_
              refine RL.off rfl rfl (by decide) rfl rfl ?_
              refine RL.off rfl rfl (by decide) rfl rfl ?_
              refine RL.off rfl rfl (by decide) rfl rfl ?_
              refine RL.ev rfl rfl (ev_pickT rfl) ?_
              refine RL.nil ?_
              refine thenN ?_
              refine RW.condT rfl ?_
              refine RW.seq ?_
              refine RW.region ?_
              refine RL.op rfl rfl (op_call0 Try.func10 rfl rfl ((known_calls _).mono ?_))
              rintro _ w11 ⟨rfl, he_⟩
              replace hN := hN.ext he_
              clear he_
              refine RL.ev rfl rfl ev_assign ?_
              refine RL.nil ?_
              refine thenN ?_
              refine RW.ret ?_
              refine thenR ?_
              refine retI (RV.tmp rfl) ?_
              exact ⟨rfl, hN.ext0⟩
            · skip
              rw [decide_eq_false hg1_32]
              refine RL.onEv rfl rfl (by decide) rfl rfl (ev_fieldAddr Try.underlying41 rfl sz25 (by decide) rfl) ?_
              refine RL.onEv rfl rfl (by decide) rfl rfl (ev_loadB Try.underlying25 rfl rfl (hN.blk 0 rfl) rfl) ?_
              refine RL.onEv rfl rfl (by decide) rfl rfl (ev_lss rfl rfl) ?_
              refine RL.ev rfl rfl (ev_pickF rfl) ?_
              refine RL.ev rfl rfl ev_move ?_
              by_cases hg1_37 : r.err < 0
              · skip
                rw [decide_eq_true hg1_37]
                refine RL.off rfl rfl (by decide) rfl rfl ?_
                refine RL.off rfl rfl (by decide) rfl rfl ?_
                refine RL.off rfl rfl (by decide) rfl rfl ?_
                refine RL.ev rfl rfl (ev_pickT rfl) ?_
                refine RL.nil ?_
                refine thenN ?_
                refine RW.condT rfl ?_
                refine RW.seq ?_
                refine RW.region ?_
                refine RL.op rfl rfl (op_call0 Try.func10 rfl rfl ((known_calls _).mono ?_))
                rintro _ w12 ⟨rfl, he_⟩
                replace hN := hN.ext he_
                clear he_
                refine RL.ev rfl rfl ev_assign ?_
                refine RL.nil ?_
                refine thenN ?_
                refine RW.ret ?_
                refine thenR ?_
                refine retI (RV.tmp rfl) ?_
                exact ⟨rfl, hN.ext0⟩
              · skip
                rw [decide_eq_false hg1_37]
                refine RL.onEv rfl rfl (by decide) rfl rfl (ev_fieldAddr Try.underlying41 rfl sz25 (by decide) rfl) ?_
                refine RL.onEv rfl rfl (by decide) rfl rfl (ev_loadB Try.underlying25 rfl rfl (hN.blk 0 rfl) rfl) ?_
                refine RL.onEv rfl rfl (by decide) rfl rfl (ev_gtr rfl rfl) ?_
                refine RL.ev rfl rfl (ev_pickF rfl) ?_
                refine RL.nil ?_
                refine thenN ?_
                refine RW.condP _ rfl (fun herr => ?_) (fun herr => ?_)
                · skip
                  refine RW.seq ?_
                  refine RW.region ?_
                  refine RL.op rfl rfl (op_call0 Try.func10 rfl rfl ((known_calls _).mono ?_))
                  rintro _ w13 ⟨rfl, he_⟩
                  replace hN := hN.ext he_
                  clear he_
                  refine RL.ev rfl rfl ev_assign ?_
                  refine RL.nil ?_
                  refine thenN ?_
                  refine RW.ret ?_
                  refine thenR ?_
                  refine retI (RV.tmp rfl) ?_
                  exact ⟨rfl, hN.ext0⟩
                · skip
                  refine RW.skip ?_
                  refine thenN ?_
                  refine RW.seq ?_
                  refine RW.region ?_
                  refine RL.ev rfl rfl (ev_loadAll (cs := [.int .i64 (q.kind), (str q.text), .int .i64 (q.k), .int .i64 (q.s), .int .i64 (q.t), x]) Try.underlying38 rfl sz38 rfl (hN.blk 1 rfl)) ?_
                  refine RL.op rfl rfl (op_call1 Try.func25 rfl rfl rfl ((ask_calls _ q _ ⟨x, rfl, (hx.ext hN.ext0)⟩ (by omega) (by omega)).mono ?_))
                  rintro v14 w14 ⟨ho_, he_⟩
                  have hN_ := hN.pushOwn (l := askB q) ho_ he_
                  clear ho_ he_
                  clear hN
                  have hN : Now w none_ w14 [_, _, _] := hN_
                  clear hN_
                  refine RL.ev rfl rfl ev_assign ?_
                  refine RL.nil ?_
                  refine thenN ?_
                  refine RW.seq ?_
                  refine RW.region ?_
                  refine RL.ev rfl rfl (ev_loadAll (cs := [.int .i64 (r.err), .int .i64 (r.line), .int .i64 (r.d), xr, yr, .int .i64 (r.n), .int .i64 (r.m), .int .i64 (r.k), .int .u64 ((r.print : Int))]) Try.underlying41 rfl sz41 rfl (hN.blk 1 rfl)) ?_
                  refine RL.op rfl rfl (op_call1 Try.func20 rfl rfl rfl ((tell_calls _ r _ ⟨xr, yr, rfl, (hxr.ext hN.ext0), (hyr.ext hN.ext0)⟩ (by omega) (by omega) (by omega)).mono ?_))
                  rintro v15 w15 ⟨ho_, he_⟩
                  have hN_ := hN.pushOwn (l := tellB r) ho_ he_
                  clear ho_ he_
                  clear hN
                  have hN : Now w none_ w15 [_, _, _, _] := hN_
                  clear hN_
                  refine RL.ev rfl rfl ev_assign ?_
                  refine RL.nil ?_
                  refine thenN ?_
                  refine RW.seq ?_
                  have hs : q.Small := ⟨ok, by omega, by omega, by omega, by omega⟩
                  have hgd : r.Good := ⟨⟨by omega, by omega⟩, okr.line, okr.d, okr.n, okr.m, okr.k, okr.ds, okr.arcs, by omega, by omega, okr.print⟩
                  have hal := askB_le q
                  have hpos := ask_pos q
                  have htl := tellB_length r
                  have hfl := frameB_length [askB q, tellB r]
                  have hmf : massF [askB q, tellB r] = (askB q).length + 4 + ((tellB r).length + 4) := by simp [massF]
                  have hfr2 := frames2 (askB q) (tellB r) (by omega) (by omega)
                  have hbl := backQ_len q
                  have hmod := Nat.mod_lt cut (show 0 < (frameB [askB q, tellB r]).length by omega)
                  have hmodt := Nat.mod_lt cut (show 0 < (tellB r).length by omega)
                  have hc2 := cut2 (askB q) (tellB r) _ (by omega) (by omega) hmod
                  refine RW.region ?_
                  refine RL.ev rfl rfl ev_move ?_
                  refine RL.ev rfl rfl ev_move ?_
                  have hOb_ := (hN.sl 1 rfl).hd
                  obtain ⟨h17, hq_⟩ := hOb_
                  subst hq_
                  have hOb_ := (hN.sl 0 rfl).hd
                  obtain ⟨h18, hq_⟩ := hOb_
                  subst hq_
                  refine RL.op rfl rfl (opN_lit (enc := vh) (l := [h17, h18]) (xs := [.tmp 70, .tmp 71]) Try.underlying22 sz23 zr23 rfl rfl (fun _ => rfl) rfl (by decide) (by decide) hN ?_)
                  intro g16 w16 hN_
                  clear hN
                  have hN : Now w none_ w16 [_, _, _, _, _] := hN_
                  clear hN_
                  refine RL.op rfl rfl (op_call1 Try.func14 rfl rfl rfl ((frame_calls _ ([h17, h18]) [(askB q), (tellB r)] _ (hN.sl 0 rfl) (Els.cons (hN.sl 2 rfl) (Off.none _ _) (Els.cons (hN.sl 1 rfl) (Off.none _ _) (Els.nil _ _ _))) (by omega)).mono ?_))
                  rintro v19 w19 ⟨ho_, he_⟩
                  have hN_ := hN.pushOwn (l := frameB [(askB q), (tellB r)]) ho_ he_
                  clear ho_ he_
                  clear hN
                  have hN : Now w none_ w19 [_, _, _, _, _, _] := hN_
                  clear hN_
                  refine RL.ev rfl rfl ev_assign ?_
                  refine RL.nil ?_
                  refine thenN ?_
                  refine RW.seq ?_
                  refine RW.region ?_
                  refine RL.ev rfl rfl ev_move ?_
                  refine RL.op rfl rfl (op_call1 Try.func11 rfl rfl rfl ((frames_at (hN.sl 0 rfl) (by (try simp only [List.length_take]); omega) hfr2).mono ?_))
                  rintro _ w20 ⟨v20, hs20, rfl, hC_⟩
                  have hN_ := hN.call0 hC_
                  clear hC_
                  clear hN
                  have hN : Now w none_ w20 [_, _, _, _, _, _, _, _] := hN_
                  clear hN_
                  refine RL.ev rfl rfl ev_move ?_
                  refine RL.ev rfl rfl (ev_extract rfl rfl) ?_
                  refine RL.ev rfl rfl (ev_extract rfl rfl) ?_
                  refine RL.ev rfl rfl (ev_extract rfl rfl) ?_
                  refine RL.ev rfl rfl ev_assign ?_
                  refine RL.ev rfl rfl ev_assign ?_
                  refine RL.ev rfl rfl ev_assign ?_
                  have hl2 := ((hN.els 1 rfl)).1
                  simp only [List.length_cons, List.length_nil] at hl2
                  refine RL.nil ?_
                  refine thenN ?_
                  refine RW.seq ?_
                  refine RW.seq ?_
                  refine RW.region ?_
                  refine RL.ev rfl rfl ev_move ?_
                  have hL_21 := (hN.sl 0 rfl).len_le
                  refine RL.ev rfl rfl (ev_lenS Try.underlying22 (hN.sl 0 rfl) rfl) ?_
                  refine RL.ev rfl rfl (ev_false (ev_neq rfl rfl) (by omega)) ?_
                  refine RL.ev rfl rfl ev_move ?_
                  refine RL.onEv rfl rfl (by decide) rfl rfl ev_move ?_
                  refine RL.onEv rfl rfl (by decide) rfl rfl ev_move ?_
                  have hL_22 := (hN.sl 2 rfl).len_le
                  refine RL.onEv rfl rfl (by decide) rfl rfl (ev_lenS Try.underlying23 (hN.sl 2 rfl) rfl) ?_
                  refine RL.onEv rfl rfl (by decide) rfl rfl (ev_false (ev_neq rfl rfl) (fun h => h rfl)) ?_
                  refine RL.ev rfl rfl (ev_pickF rfl) ?_
                  refine RL.ev rfl rfl ev_move ?_
                  refine RL.onEv rfl rfl (by decide) rfl rfl ev_move ?_
                  refine RL.onEv rfl rfl (by decide) rfl rfl (ev_false (ev_neq rfl rfl) (fun h => h rfl)) ?_
                  refine RL.ev rfl rfl (ev_pickF rfl) ?_
                  refine RL.ev rfl rfl ev_move ?_
                  refine RL.onEv rfl rfl (by decide) rfl rfl ev_move ?_
                  refine RL.onEv rfl rfl (by decide) rfl rfl (ev_index Try.underlying22 sz23 (hN.sl 0 rfl) rfl rfl (by omega) (by omega)) ?_
                  have hOb_ : ∃ a_, (hs20)[0]? = some a_ := ⟨_, List.getElem?_eq_getElem (by omega)⟩
                  obtain ⟨ac1, hac1⟩ := hOb_
                  have hOb_ : ∃ l_, ([askB q, tellB r])[0]? = some l_ := ⟨_, List.getElem?_eq_getElem (by have := (hN.els 1 rfl).1; omega)⟩
                  obtain ⟨lc1, hlc1⟩ := hOb_
                  refine RL.onEv rfl rfl (by decide) rfl rfl (ev_loadG (m := 0) (a := ac1) Try.underlying23 rfl (hN.sl 0 rfl) rfl hac1) ?_
                  have hq_ : lc1 = (askB q) := (Option.some.inj (show some (askB q) = some lc1 from hlc1)).symm
                  subst hq_
                  refine RL.onEv rfl rfl (by decide) rfl rfl ev_move ?_
                  refine RL.on rfl rfl (by decide) rfl rfl (op_call2 Try.func13 rfl rfl rfl rfl ((same_true ((hN.els 1 rfl).2 _ _ _ hac1 hlc1).1 (hN.sl 5 rfl) rfl).mono ?_))
                  rintro _ _ ⟨rfl, rfl⟩
                  refine RL.onEv rfl rfl (by decide) rfl rfl (ev_not rfl) ?_
                  refine RL.ev rfl rfl (ev_pickF rfl) ?_
                  refine RL.ev rfl rfl ev_move ?_
                  refine RL.onEv rfl rfl (by decide) rfl rfl ev_move ?_
                  refine RL.onEv rfl rfl (by decide) rfl rfl (ev_index Try.underlying22 sz23 (hN.sl 0 rfl) rfl rfl (by omega) (by omega)) ?_
                  have hOb_ : ∃ a_, (hs20)[1]? = some a_ := ⟨_, List.getElem?_eq_getElem (by omega)⟩
                  obtain ⟨ac2, hac2⟩ := hOb_
                  have hOb_ : ∃ l_, ([askB q, tellB r])[1]? = some l_ := ⟨_, List.getElem?_eq_getElem (by have := (hN.els 1 rfl).1; omega)⟩
                  obtain ⟨lc2, hlc2⟩ := hOb_
                  refine RL.onEv rfl rfl (by decide) rfl rfl (ev_loadG (m := 1) (a := ac2) Try.underlying23 rfl (hN.sl 0 rfl) rfl hac2) ?_
                  have hq_ : lc2 = (tellB r) := (Option.some.inj (show some (tellB r) = some lc2 from hlc2)).symm
                  subst hq_
                  refine RL.onEv rfl rfl (by decide) rfl rfl ev_move ?_
                  refine RL.on rfl rfl (by decide) rfl rfl (op_call2 Try.func13 rfl rfl rfl rfl ((same_true ((hN.els 1 rfl).2 _ _ _ hac2 hlc2).1 (hN.sl 4 rfl) rfl).mono ?_))
                  rintro _ _ ⟨rfl, rfl⟩
                  refine RL.onEv rfl rfl (by decide) rfl rfl (ev_not rfl) ?_
                  refine RL.ev rfl rfl (ev_pickF rfl) ?_
                  refine RL.nil ?_
                  refine thenN ?_
                  refine RW.condF rfl ?_
                  refine RW.skip ?_
                  refine thenN ?_
                  refine RW.seq ?_
                  refine RW.region ?_
                  refine RL.ev rfl rfl ev_move ?_
                  refine RL.ev rfl rfl (ev_index Try.underlying22 sz23 (hN.sl 0 rfl) rfl rfl (by omega) (by omega)) ?_
                  have hOb_ : ∃ a_, (hs20)[0]? = some a_ := ⟨_, List.getElem?_eq_getElem (by omega)⟩
                  obtain ⟨ac3, hac3⟩ := hOb_
                  have hOb_ : ∃ l_, ([askB q, tellB r])[0]? = some l_ := ⟨_, List.getElem?_eq_getElem (by have := (hN.els 1 rfl).1; omega)⟩
                  obtain ⟨lc3, hlc3⟩ := hOb_
                  refine RL.ev rfl rfl (ev_loadG (m := 0) (a := ac3) Try.underlying23 rfl (hN.sl 0 rfl) rfl hac3) ?_
                  have hq_ : lc3 = (askB q) := (Option.some.inj (show some (askB q) = some lc3 from hlc3)).symm
                  subst hq_
                  refine RL.op rfl rfl (op_call1 Try.func23 rfl rfl rfl ((read_at ((hN.els 1 rfl).2 _ _ _ hac3 hlc3).1 (by omega) (ask_back q hs)).mono ?_))
                  rintro _ w25 ⟨x_, rfl, hx_, he_⟩
                  have ho_ := reqOpen hx_
                  obtain ⟨xs25, e1_, hx25⟩ := ho_
                  subst e1_
                  replace hN := hN.ext he_
                  clear he_ hx_
                  have hF26 := hN
                  clear hN
                  have hN := Now.nil w25 none_
                  refine RL.ev rfl rfl ev_move ?_
                  refine RL.ev rfl rfl (ev_extract rfl rfl) ?_
                  refine RL.ev rfl rfl (ev_extract rfl rfl) ?_
                  refine RL.op rfl rfl (opN_alloc (cs := [.int .i64 (0), .string ByteArray.empty, .int .i64 (0), .int .i64 (0), .int .i64 (0), .slice none 0 0]) zero38 rfl hN ?_)
                  intro g27 w27 hN_
                  clear hN
                  have hN : Now w25 none_ w27 [_] := hN_
                  clear hN_
                  refine RL.op rfl rfl (opN_storeAll (vs := [.int .i64 ((backQ q).kind), (str (backQ q).text), .int .i64 ((backQ q).k), .int .i64 ((backQ q).s), .int .i64 ((backQ q).t), xs25]) sz38 rfl rfl rfl (by intro u hu; simp only [List.mem_cons, List.not_mem_nil, or_false] at hu; rcases hu with rfl | rfl | rfl | rfl | rfl | rfl <;> first | rfl | exact (hx25.ext hN.ext0).one1) hN 0 rfl rfl ?_)
                  intro w28 hN_
                  clear hN
                  have hN : Now w25 none_ w28 [_] := hN_
                  clear hN_
                  refine RL.ev rfl rfl ev_assign ?_
                  refine RL.nil ?_
                  refine thenN ?_
                  refine RW.seq ?_
                  refine RW.region ?_
                  refine RL.ev rfl rfl ev_move ?_
                  refine RL.ev rfl rfl (ev_index Try.underlying22 sz23 ((hF26.sl 0 rfl).ext hN.ext0) rfl rfl (by omega) (by omega)) ?_
                  have hOb_ : ∃ a_, (hs20)[1]? = some a_ := ⟨_, List.getElem?_eq_getElem (by omega)⟩
                  obtain ⟨ac4, hac4⟩ := hOb_
                  have hOb_ : ∃ l_, ([askB q, tellB r])[1]? = some l_ := ⟨_, List.getElem?_eq_getElem (by have := ((hF26.els 1 rfl).ext hN.ext0).1; omega)⟩
                  obtain ⟨lc4, hlc4⟩ := hOb_
                  refine RL.ev rfl rfl (ev_loadG (m := 1) (a := ac4) Try.underlying23 rfl ((hF26.sl 0 rfl).ext hN.ext0) rfl hac4) ?_
                  have hq_ : lc4 = (tellB r) := (Option.some.inj (show some (tellB r) = some lc4 from hlc4)).symm
                  subst hq_
                  refine RL.op rfl rfl (op_call1 Try.func18 rfl rfl rfl ((hear_at (((hF26.els 1 rfl).ext hN.ext0).2 _ _ _ hac4 hlc4).1 (by (try simp only [List.length_take]); omega) (hear_tell r hgd)).mono ?_))
                  rintro _ w29 ⟨x_, rfl, hx_, he_⟩
                  have ho_ := respOpen hx_
                  obtain ⟨xs29, ys29, e1_, hx29, hy29⟩ := ho_
                  subst e1_
                  replace hN := hN.ext he_
                  clear he_ hx_
                  have hF30 := hN
                  clear hN
                  have hN := Now.nil w29 none_
                  refine RL.ev rfl rfl ev_move ?_
                  refine RL.ev rfl rfl (ev_extract rfl rfl) ?_
                  refine RL.ev rfl rfl (ev_extract rfl rfl) ?_
                  refine RL.op rfl rfl (opN_alloc (cs := [.int .i64 (0), .int .i64 (0), .int .i64 (0), .slice none 0 0, .slice none 0 0, .int .i64 (0), .int .i64 (0), .int .i64 (0), .int .u64 (0)]) zero41 rfl hN ?_)
                  intro g31 w31 hN_
                  clear hN
                  have hN : Now w29 none_ w31 [_] := hN_
                  clear hN_
                  refine RL.op rfl rfl (opN_storeAll (vs := [.int .i64 (r.err), .int .i64 (r.line), .int .i64 (r.d), xs29, ys29, .int .i64 (r.n), .int .i64 (r.m), .int .i64 (r.k), .int .u64 ((r.print : Int))]) sz41 rfl rfl rfl (by intro u hu; simp only [List.mem_cons, List.not_mem_nil, or_false] at hu; rcases hu with rfl | rfl | rfl | rfl | rfl | rfl | rfl | rfl | rfl <;> first | rfl | exact (hx29.ext hN.ext0).one1 | exact (hy29.ext hN.ext0).one1) hN 0 rfl rfl ?_)
                  intro w32 hN_
                  clear hN
                  have hN : Now w29 none_ w32 [_] := hN_
                  clear hN_
                  refine RL.ev rfl rfl ev_assign ?_
                  refine RL.nil ?_
                  refine thenN ?_
                  refine RW.seq ?_
                  refine RW.seq ?_
                  refine RW.region ?_
                  refine RL.ev rfl rfl ev_move ?_
                  refine RL.ev rfl rfl (ev_false (ev_neq rfl rfl) (fun h => h rfl)) ?_
                  refine RL.ev rfl rfl ev_move ?_
                  refine RL.onEv rfl rfl (by decide) rfl rfl ev_move ?_
                  refine RL.onEv rfl rfl (by decide) rfl rfl (ev_false (ev_neq rfl rfl) (fun h => h rfl)) ?_
                  refine RL.ev rfl rfl (ev_pickF rfl) ?_
                  refine RL.ev rfl rfl ev_move ?_
                  refine RL.onEv rfl rfl (by decide) rfl rfl (ev_loadAll (cs := [.int .i64 (r.err), .int .i64 (r.line), .int .i64 (r.d), xs29, ys29, .int .i64 (r.n), .int .i64 (r.m), .int .i64 (r.k), .int .u64 ((r.print : Int))]) Try.underlying41 rfl sz41 rfl (hN.blk 0 rfl)) ?_
                  refine RL.onEv rfl rfl (by decide) rfl rfl (ev_loadAll (cs := [.int .i64 (r.err), .int .i64 (r.line), .int .i64 (r.d), xr, yr, .int .i64 (r.n), .int .i64 (r.m), .int .i64 (r.k), .int .u64 ((r.print : Int))]) Try.underlying41 rfl sz41 rfl (((hF26.blk 6 rfl).ext hF30.ext0).ext hN.ext0)) ?_
                  refine RL.on rfl rfl (by decide) rfl rfl (op_call2 Try.func22 rfl rfl rfl rfl ((sameResp_calls _ _ r _ ⟨xs29, ys29, rfl, (hx29.ext hN.ext0), (hy29.ext hN.ext0)⟩ ⟨xr, yr, rfl, (((hxr.ext hF26.ext0).ext hF30.ext0).ext hN.ext0), (((hyr.ext hF26.ext0).ext hF30.ext0).ext hN.ext0)⟩).mono ?_))
                  rintro _ w33 ⟨rfl, he_⟩
                  replace hN := hN.ext he_
                  clear he_
                  refine RL.onEv rfl rfl (by decide) rfl rfl (ev_not rfl) ?_
                  refine RL.ev rfl rfl (ev_pickF rfl) ?_
                  refine RL.ev rfl rfl ev_move ?_
                  refine RL.onEv rfl rfl (by decide) rfl rfl (ev_fieldAddr Try.underlying38 rfl sz3 (by decide) rfl) ?_
                  refine RL.onEv rfl rfl (by decide) rfl rfl (ev_loadB Try.underlying3 rfl rfl ((hF30.blk 0 rfl).ext hN.ext0) rfl) ?_
                  refine RL.onEv rfl rfl (by decide) rfl rfl (ev_fieldAddr Try.underlying38 rfl sz3 (by decide) rfl) ?_
                  refine RL.onEv rfl rfl (by decide) rfl rfl (ev_loadB Try.underlying3 rfl rfl (((hF26.blk 7 rfl).ext hF30.ext0).ext hN.ext0) rfl) ?_
                  refine RL.onEv rfl rfl (by decide) rfl rfl (ev_false (ev_neq rfl rfl) (fun h => h (backQ_kind q))) ?_
                  refine RL.ev rfl rfl (ev_pickF rfl) ?_
                  refine RL.ev rfl rfl ev_move ?_
                  refine RL.onEv rfl rfl (by decide) rfl rfl (ev_loadAll (cs := [.int .i64 ((backQ q).kind), (str (backQ q).text), .int .i64 ((backQ q).k), .int .i64 ((backQ q).s), .int .i64 ((backQ q).t), xs25]) Try.underlying38 rfl sz38 rfl ((hF30.blk 0 rfl).ext hN.ext0)) ?_
                  refine RL.on rfl rfl (by decide) rfl rfl (op_call1 Try.func25 rfl rfl rfl ((ask_calls _ (backQ q) _ ⟨xs25, rfl, ((hx25.ext hF30.ext0).ext hN.ext0)⟩ (by omega) (by omega)).mono ?_))
                  rintro v34 w34 ⟨ho_, he_⟩
                  have hN_ := hN.pushOwn (l := askB (backQ q)) ho_ he_
                  clear ho_ he_
                  clear hN
                  have hN : Now w29 none_ w34 [_, _] := hN_
                  clear hN_
                  refine RL.onEv rfl rfl (by decide) rfl rfl ev_move ?_
                  refine RL.on rfl rfl (by decide) rfl rfl (op_call2 Try.func13 rfl rfl rfl rfl ((same_true (hN.sl 0 rfl) (((hF26.sl 5 rfl).ext hF30.ext0).ext hN.ext0) (backQ_ask q)).mono ?_))
                  rintro _ _ ⟨rfl, rfl⟩
                  refine RL.onEv rfl rfl (by decide) rfl rfl (ev_not rfl) ?_
                  refine RL.ev rfl rfl (ev_pickF rfl) ?_
                  refine RL.nil ?_
                  refine thenN ?_
                  refine RW.condF rfl ?_
                  refine RW.skip ?_
                  refine thenN ?_
                  refine RW.seq ?_
                  refine RW.region ?_
                  refine RL.ev rfl rfl ev_move ?_
                  refine RL.ev rfl rfl (ev_conv Try.underlying56 Try.underlying3 rfl (wr_i64 (by omega) (by omega))) ?_
                  refine RL.ev rfl rfl ev_move ?_
                  refine RL.ev rfl rfl (ev_lenS Try.underlying23 (((hF26.sl 2 rfl).ext hF30.ext0).ext hN.ext0) rfl) ?_
                  refine RL.ev rfl rfl (ev_rem rfl rfl (by omega) (tmod_nat _ _)) ?_
                  refine RL.ev rfl rfl ev_assign ?_
                  refine RL.nil ?_
                  refine thenN ?_
                  refine RW.seq ?_
                  refine RW.region ?_
                  refine RL.ev rfl rfl ev_move ?_
                  refine RL.ev rfl rfl ev_move ?_
                  refine RL.ev rfl rfl (ev_cutTo Try.underlying23 sz5 (((hF26.sl 2 rfl).ext hF30.ext0).ext hN.ext0) rfl rfl (by omega) (by omega)) ?_
                  refine RL.op rfl rfl (op_call1 Try.func11 rfl rfl rfl ((frames_at ((((hF26.sl 2 rfl).ext hF30.ext0).ext hN.ext0).cutTo (by omega)) (by (try simp only [List.length_take]); omega) (eta3 (framesR ((frameB [askB q, tellB r]).take (cut % (frameB [askB q, tellB r]).length))))).mono ?_))
                  rintro _ w36 ⟨v36, hs36, rfl, hC_⟩
                  have hN_ := hN.call0 hC_
                  clear hC_
                  clear hN
                  have hN : Now w29 none_ w36 [_, _, _, _] := hN_
                  clear hN_
                  refine RL.ev rfl rfl ev_move ?_
                  refine RL.ev rfl rfl (ev_extract rfl rfl) ?_
                  refine RL.ev rfl rfl (ev_extract rfl rfl) ?_
                  refine RL.ev rfl rfl (ev_extract rfl rfl) ?_
                  refine RL.ev rfl rfl ev_assign ?_
                  refine RL.ev rfl rfl ev_assign ?_
                  refine RL.ev rfl rfl ev_assign ?_
                  have hl3 := ((hN.els 1 rfl)).1
                  refine RL.nil ?_
                  refine thenN ?_
                  refine RW.seq ?_
                  refine RW.region ?_
                  refine RL.ev rfl rfl ev_move ?_
                  refine RL.ev rfl rfl ev_move ?_
                  refine RL.ev rfl rfl (ev_conv Try.underlying56 Try.underlying3 rfl (wr_i64 (by omega) (by omega))) ?_
                  refine RL.ev rfl rfl ev_move ?_
                  have hL_37 := (((hF26.sl 4 rfl).ext hF30.ext0).ext hN.ext0).len_le
                  refine RL.ev rfl rfl (ev_lenS Try.underlying23 (((hF26.sl 4 rfl).ext hF30.ext0).ext hN.ext0) rfl) ?_
                  refine RL.ev rfl rfl (ev_rem rfl rfl (by omega) (tmod_nat _ _)) ?_
                  refine RL.ev rfl rfl (ev_cutTo Try.underlying23 sz5 (((hF26.sl 4 rfl).ext hF30.ext0).ext hN.ext0) rfl rfl (by omega) (by omega)) ?_
                  refine RL.op rfl rfl (op_call1 Try.func18 rfl rfl rfl ((hear_at ((((hF26.sl 4 rfl).ext hF30.ext0).ext hN.ext0).cutTo (by omega)) (by (try simp only [List.length_take]); omega) (hear_short r hgd _ hmodt)).mono ?_))
                  rintro _ w38 ⟨x_, rfl, hx_, he_⟩
                  have ho_ := respOpen hx_
                  obtain ⟨xs38, ys38, e1_, hx38, hy38⟩ := ho_
                  subst e1_
                  replace hN := hN.ext he_
                  clear he_ hx_
                  have hF39 := hN
                  clear hN
                  have hN := Now.nil w38 none_
                  refine RL.ev rfl rfl ev_move ?_
                  refine RL.ev rfl rfl (ev_extract rfl rfl) ?_
                  refine RL.ev rfl rfl (ev_extract rfl rfl) ?_
                  refine RL.op rfl rfl (opN_alloc (cs := [.int .i64 (0), .int .i64 (0), .int .i64 (0), .slice none 0 0, .slice none 0 0, .int .i64 (0), .int .i64 (0), .int .i64 (0), .int .u64 (0)]) zero41 rfl hN ?_)
                  intro g40 w40 hN_
                  clear hN
                  have hN : Now w38 none_ w40 [_] := hN_
                  clear hN_
                  refine RL.op rfl rfl (opN_storeAll (vs := [.int .i64 (Resp.zero.err), .int .i64 (Resp.zero.line), .int .i64 (Resp.zero.d), xs38, ys38, .int .i64 (Resp.zero.n), .int .i64 (Resp.zero.m), .int .i64 (Resp.zero.k), .int .u64 ((Resp.zero.print : Int))]) sz41 rfl rfl rfl (by intro u hu; simp only [List.mem_cons, List.not_mem_nil, or_false] at hu; rcases hu with rfl | rfl | rfl | rfl | rfl | rfl | rfl | rfl | rfl <;> first | rfl | exact (hx38.ext hN.ext0).one1 | exact (hy38.ext hN.ext0).one1) hN 0 rfl rfl ?_)
                  intro w41 hN_
                  clear hN
                  have hN : Now w38 none_ w41 [_] := hN_
                  clear hN_
                  refine RL.ev rfl rfl ev_assign ?_
                  refine RL.nil ?_
                  refine thenN ?_
                  refine RW.seq ?_
                  refine RW.region ?_
                  refine RL.ev rfl rfl ev_move ?_
                  have hL_42 := ((hF39.sl 0 rfl).ext hN.ext0).len_le
                  refine RL.ev rfl rfl (ev_lenS Try.underlying22 ((hF39.sl 0 rfl).ext hN.ext0) rfl) ?_
                  refine RL.ev rfl rfl (ev_true (ev_lss rfl rfl) (by have := hc2.1; omega)) ?_
                  refine RL.ev rfl rfl ev_move ?_
                  refine RL.onEv rfl rfl (by decide) rfl rfl ev_move ?_
                  refine RL.onEv rfl rfl (by decide) rfl rfl ev_move ?_
                  refine RL.onEv rfl rfl (by decide) rfl rfl (ev_true (ev_leq rfl rfl) (hc2.2.1)) ?_
                  refine RL.ev rfl rfl (ev_pickT rfl) ?_
                  refine RL.ev rfl rfl ev_move ?_
                  refine RL.onEv rfl rfl (by decide) rfl rfl ev_move ?_
                  refine RL.onEv rfl rfl (by decide) rfl rfl (ev_true (ev_eql rfl rfl) (hc2.2.2)) ?_
                  refine RL.ev rfl rfl (ev_pickT rfl) ?_
                  refine RL.ev rfl rfl ev_move ?_
                  refine RL.onEv rfl rfl (by decide) rfl rfl ev_move ?_
                  refine RL.onEv rfl rfl (by decide) rfl rfl (ev_true (ev_eql rfl rfl) rfl) ?_
                  refine RL.ev rfl rfl (ev_pickT rfl) ?_
                  refine RL.ev rfl rfl ev_move ?_
                  refine RL.on rfl rfl (by decide) rfl rfl (op_call0 Try.func10 rfl rfl ((known_calls _).mono ?_))
                  rintro _ w43 ⟨rfl, he_⟩
                  replace hN := hN.ext he_
                  clear he_
                  refine RL.ev rfl rfl (ev_pickT rfl) ?_
                  refine RL.ev rfl rfl ev_assign ?_
                  refine RL.nil ?_
                  refine thenN ?_
                  refine RW.ret ?_
                  refine retI (RV.tmp rfl) ?_
                  exact ⟨rfl, (hF26.ext0.trans (hF30.ext0.trans (hF39.ext0.trans hN.ext0)))⟩

end Go.Proofs.Ytihchogjmgbipaa
