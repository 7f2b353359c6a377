import Derived.Test.YtlblpiapeieofaaDiskL0
import Derived.Test.YtlblpiapeieofaaDiskOpen
import Derived.Test.YtlblpiapeieofaaDiskPlain2
set_option linter.unusedVariables false
set_option linter.unusedSimpArgs false
namespace Go.Proofs.Ytlblpiapeieofaa
open Go.RowKit Go.Rl

open Go.Disk
set_option maxHeartbeats 4000000 in
set_option maxRecDepth 100000 in
/-- postroad/postroadlaw04.DiskRoom -/
theorem diskRoom_calls (room : Int) (Lv : Value) (os : List OH) (xs : List Disk.Op) (w : World) (h0 : 0 ≤ room) (h1 : room ≤ 255) (hL : Sm ocells w Lv os) (hel : OEls none_ w os xs) (hS0 : ∀ x ∈ xs, SmallOp x) : Gives Try.prog 6 #[.int .u8 (room), Lv] w fun r w' => r = .bool true ∧ Ext w w' := by
  refine Gives.start Try.func6 rfl (Nat.le_of_ble_eq_true rfl) ?_
  rw [args2]
  have hN := Now.nil w none_
  have hle := hel.1
  have hB : ∀ x ∈ xs, x.data.length ≤ 140737488355328 ∧ x.name.length ≤ 140737488355328 ∧ x.to.length ≤ 140737488355328 := fun x hx => ⟨by have := (hS0 x hx).1; omega, by have := (hS0 x hx).2.1; omega, by have := (hS0 x hx).2.2; omega⟩
  refine RW.seq ?_
  refine RW.region ?_
  refine RL.ev rfl rfl ev_assign ?_
  refine RL.nil ?_
  refine thenN ?_
  refine RW.seq ?_
  refine RW.seq ?_
  refine RW.region ?_
  refine RL.ev rfl rfl ev_move ?_
  refine RL.op rfl rfl (op_call1 Try.func10 rfl rfl rfl ((long_calls _ os xs _ (hL.o.now hN) (OEls.nowN hel hN) hB).mono ?_))
  rintro _ w1 ⟨z1, rfl, hz1, he_⟩
  replace hN := hN.ext he_
  clear he_
  refine RL.ev rfl rfl (ev_gtr rfl rfl) ?_
  refine RL.ev rfl rfl ev_move ?_
  by_cases hg1_3 : 800 < z1
  · skip
    rw [decide_eq_true hg1_3]
    refine RL.off rfl rfl (by decide) rfl rfl ?_
    refine RL.off rfl rfl (by decide) rfl rfl ?_
    refine RL.off rfl rfl (by decide) rfl rfl ?_
    refine RL.ev rfl rfl (ev_pickT rfl) ?_
    refine RL.nil ?_
    refine thenN ?_
    refine RW.condT rfl ?_
    refine RW.seq ?_
    refine RW.region ?_
    refine RL.op rfl rfl (op_call0 Try.func11 rfl rfl ((known_calls _).mono ?_))
    rintro _ w2 ⟨rfl, he_⟩
    replace hN := hN.ext he_
    clear he_
    refine RL.ev rfl rfl ev_assign ?_
    refine RL.nil ?_
    refine thenN ?_
    refine RW.ret ?_
    refine thenR ?_
    refine retI (RV.tmp rfl) ?_
    exact ⟨rfl, hN.ext0⟩
  · skip
    rw [decide_eq_false hg1_3]
    refine RL.onEv rfl rfl (by decide) rfl rfl ev_move ?_
    have hL_3 := (hL.o.now hN).len_le
    refine RL.onEv rfl rfl (by decide) rfl rfl (ev_lenM Try.underlying22 (hL.o.now hN) rfl) ?_
    refine RL.onEv rfl rfl (by decide) rfl rfl (ev_gtr rfl rfl) ?_
    refine RL.ev rfl rfl (ev_pickF rfl) ?_
    refine RL.nil ?_
    refine thenN ?_
    refine RW.condP _ rfl (fun hc17 => ?_) (fun hc17 => ?_)
    · skip
      refine RW.seq ?_
      refine RW.region ?_
      refine RL.op rfl rfl (op_call0 Try.func11 rfl rfl ((known_calls _).mono ?_))
      rintro _ w4 ⟨rfl, he_⟩
      replace hN := hN.ext he_
      clear he_
      refine RL.ev rfl rfl ev_assign ?_
      refine RL.nil ?_
      refine thenN ?_
      refine RW.ret ?_
      refine thenR ?_
      refine retI (RV.tmp rfl) ?_
      exact ⟨rfl, hN.ext0⟩
    · skip
      refine RW.skip ?_
      refine thenN ?_
      refine RW.seq ?_
      have h60 : xs.length ≤ 50 := by omega
      have hzl := hz1 (by omega)
      have hdl : ∀ x ∈ xs, x.data.length ≤ 1099511627776 := fun x hx => by have := longT_mem hx; omega
      refine RW.region ?_
      refine RL.ev rfl rfl ev_move ?_
      refine RL.ev rfl rfl (ev_conv Try.underlying5 Try.underlying3 rfl (wr_i64 (by omega) (by omega))) ?_
      refine RL.op rfl rfl (op_call1 Try.func12 rfl rfl rfl ((new_calls (room) _ h0 (by omega)).mono ?_))
      rintro _ w5 ⟨g5, B5, rfl, hC_⟩
      have hN_ := hN.call0 hC_
      clear hC_
      clear hN
      have hN : Now w none_ w5 [_] := hN_
      clear hN_
      replace hN : Now w none_ w5 [dskA 64 71 23 g5 (⟨room, []⟩ : Dk) B5] := hN
      refine RL.ev rfl rfl ev_assign ?_
      refine RL.nil ?_
      refine thenN ?_
      refine RW.seq ?_
      refine RW.seq ?_
      refine RW.region ?_
      refine RL.ev rfl rfl ev_assign ?_
      refine RL.nil ?_
      refine thenN ?_
      refine RW.block ?_
      refine RW.loop (fun k R0 w0' => ∃ d2 : Dk, ∃ B2 : Nat → Prop, ∃ i : Nat, R0 0 = .int .u8 (room) ∧ R0 1 = Lv ∧ R0 5 = .pointer (some ⟨g5, 0, none⟩) ∧ R0 6 = .int .i64 ((i : Int)) ∧ Now w none_ w0' [dskA 64 71 23 g5 d2 B2] ∧ (i + k = os.length) ∧ (Fits i d2) ∧ (d2.room = room)) (os.length) ?_ ?_
      · skip
        exact ⟨⟨room, []⟩, B5, 0, rfl, rfl, rfl, rfl, hN, by omega, Fits.new h0 (by omega), rfl⟩
      · skip
        clear hN
        rintro k R0 w0' ⟨d2, B2, i, hr0_, hr1_, hr5_, hr6_, hN, hik, hfit2, hrm⟩
        have hR_ : ∃ R0_, R0 = (upd (upd (upd (upd R0_ 0 _) 1 _) 5 _) 6 _) := ⟨R0, by rw [upd_self hr0_, upd_self hr1_, upd_self hr5_, upd_self hr6_]⟩
        obtain ⟨R0_, rfl⟩ := hR_
        clear hr0_ hr1_ hr5_ hr6_
        refine RW.seq ?_
        refine RW.seq ?_
        refine RW.region ?_
        refine RL.ev rfl rfl ev_move ?_
        refine RL.ev rfl rfl ev_move ?_
        refine RL.ev rfl rfl (ev_lenM Try.underlying22 (hL.o.now hN) rfl) ?_
        refine RL.ev rfl rfl (ev_lss rfl rfl) ?_
        refine RL.nil ?_
        refine thenN ?_
        refine RW.condP _ rfl (fun hlt => ?_) (fun hlt => ?_)
        · skip
          refine RW.skip ?_
          refine thenN ?_
          refine RW.seq ?_
          refine RW.block ?_
          refine RW.seq ?_
          refine RW.region ?_
          refine RL.ev rfl rfl ev_move ?_
          refine RL.op rfl rfl (op_call1 Try.func24 rfl rfl rfl ((size_calls _ d2 _ _ (dsk_says (hN.says 0 _ rfl)) hfit2 (by omega)).mono ?_))
          rintro _ w6 ⟨rfl, he_⟩
          replace hN := hN.ext he_
          clear he_
          refine RL.ev rfl rfl ev_assign ?_
          refine RL.nil ?_
          refine thenN ?_
          refine RW.seq ?_
          refine RW.region ?_
          refine RL.ev rfl rfl ev_move ?_
          refine RL.op rfl rfl (op_call1 Try.func25 rfl rfl rfl ((loose_calls _ d2 _ _ (dsk_says (hN.says 0 _ rfl)) hfit2 (by omega)).mono ?_))
          rintro _ w7 ⟨rfl, he_⟩
          replace hN := hN.ext he_
          clear he_
          refine RL.ev rfl rfl ev_assign ?_
          refine RL.nil ?_
          refine thenN ?_
          refine RW.seq ?_
          refine RW.region ?_
          refine RL.ev rfl rfl ev_move ?_
          refine RL.ev rfl rfl ev_move ?_
          refine RL.ev rfl rfl ev_move ?_
          refine RL.ev rfl rfl (ev_indexM Try.underlying22 sz33 ocells_len (by decide) (hL.o.now hN) rfl rfl (by omega) (by omega)) ?_
          have hOb_ := OEls.get hel i (by omega)
          obtain ⟨xe, hxe, hae, hxse, hde⟩ := hOb_
          have hdle := hdl xe (List.mem_of_getElem? hxse)
          refine RL.ev rfl rfl (ev_loadM (m := i) (a := (xe.kind, xe.name, xe.to, hxe)) Try.underlying33 rfl sz33 ocells_len (by decide) (hL.o.now hN) rfl hae (cs := [.int .i64 (xe.kind), (str xe.name), (str xe.to), (vh hxe)]) rfl) ?_
          refine RL.op rfl rfl (op_call2 Try.func14 rfl rfl rfl rfl ((do_calls g5 d2 B2 i xe hxe _ (hN.pickL (M := [_]) [0] (by decide) rfl) hfit2 (by omega) (SlO.at hde hN 0 rfl) hdle _ rfl).mono ?_))
          rintro _ w8 ⟨B8, rfl, hC_⟩
          have hN_ := Now.callA (M := [_]) (N := []) (hN.sub [0] (by decide) rfl) hC_
          clear hC_
          clear hN
          have hN : Now w none_ w8 [_] := hN_
          clear hN_
          replace hN : Now w none_ w8 [dskA 64 71 23 g5 ((act d2 xe).1) B8] := hN
          refine RL.ev rfl rfl ev_assign ?_
          refine RL.nil ?_
          refine thenN ?_
          refine RW.seq ?_
          by_cases hq0 : (act d2 xe).2 = 0
          · skip
            have hs2 := hfit2.size
            have hs3 := (hfit2.act xe).size
            have hr3 := act_room d2 xe
            have hdle := (hS0 xe (List.mem_of_getElem? hxse)).1
            refine RW.region ?_
            refine RL.ev rfl rfl ev_move ?_
            refine RL.op rfl rfl (op_call1 Try.func24 rfl rfl rfl ((size_calls _ ((act d2 xe).1) _ _ (dsk_says (hN.says 0 _ rfl)) (hfit2.act xe) (by omega)).mono ?_))
            rintro _ w9 ⟨rfl, he_⟩
            replace hN := hN.ext he_
            clear he_
            refine RL.ev rfl rfl ev_move ?_
            refine RL.ev rfl rfl (ev_conv Try.underlying5 Try.underlying3 rfl (wr_i64 (by omega) (by omega))) ?_
            refine RL.ev rfl rfl (ev_false (ev_gtr rfl rfl) (by omega)) ?_
            refine RL.ev rfl rfl ev_move ?_
            refine RL.onEv rfl rfl (by decide) rfl rfl ev_move ?_
            refine RL.onEv rfl rfl (by decide) rfl rfl (ev_false (ev_neq rfl rfl) (fun h => h hq0)) ?_
            refine RL.onEv rfl rfl (by decide) rfl rfl ev_move ?_
            refine RL.off rfl rfl (by decide) rfl rfl ?_
            refine RL.off rfl rfl (by decide) rfl rfl ?_
            refine RL.off rfl rfl (by decide) rfl rfl ?_
            refine RL.off rfl rfl (by decide) rfl rfl ?_
            refine RL.off rfl rfl (by decide) rfl rfl ?_
            refine RL.offU rfl rfl (by decide) rfl rfl ?_
            refine RL.offU rfl rfl (by decide) rfl rfl ?_
            refine RL.offU rfl rfl (by decide) rfl rfl ?_
            refine RL.offU rfl rfl (by decide) rfl rfl ?_
            refine RL.off rfl rfl (by decide) rfl rfl ?_
            refine RL.onEv rfl rfl (by decide) rfl rfl (ev_pickF rfl) ?_
            refine RL.ev rfl rfl (ev_pickF rfl) ?_
            refine RL.ev rfl rfl ev_move ?_
            refine RL.onEv rfl rfl (by decide) rfl rfl ev_move ?_
            refine RL.onEv rfl rfl (by decide) rfl rfl (ev_false (ev_eql rfl rfl) (by rw [hq0]; decide)) ?_
            refine RL.onEv rfl rfl (by decide) rfl rfl ev_move ?_
            refine RL.off rfl rfl (by decide) rfl rfl ?_
            refine RL.off rfl rfl (by decide) rfl rfl ?_
            refine RL.off rfl rfl (by decide) rfl rfl ?_
            refine RL.off rfl rfl (by decide) rfl rfl ?_
            refine RL.off rfl rfl (by decide) rfl rfl ?_
            refine RL.off rfl rfl (by decide) rfl rfl ?_
            refine RL.off rfl rfl (by decide) rfl rfl ?_
            refine RL.off rfl rfl (by decide) rfl rfl ?_
            refine RL.off rfl rfl (by decide) rfl rfl ?_
            refine RL.off rfl rfl (by decide) rfl rfl ?_
            refine RL.off rfl rfl (by decide) rfl rfl ?_
            refine RL.onEv rfl rfl (by decide) rfl rfl (ev_pickF rfl) ?_
            refine RL.ev rfl rfl (ev_pickF rfl) ?_
            refine RL.nil ?_
            refine thenN ?_
            refine RW.condF rfl ?_
            refine RW.skip ?_
            refine blockN ?_
            refine thenN ?_
            refine RW.region ?_
            refine RL.ev rfl rfl ev_move ?_
            refine RL.ev rfl rfl (ev_arith rfl rfl rfl (add64 (by omega) (by omega))) ?_
            refine RL.ev rfl rfl ev_assign ?_
            refine RL.nil ?_
            refine thenN ?_
            exact ⟨k - 1, by omega, (act d2 xe).1, B8, i + 1, rfl, rfl, rfl, rfl, hN, by omega, (hfit2.act xe), (by rw [act_room]; exact hrm)⟩
          · skip
            have hs2 := hfit2.size
            have hs3 := (hfit2.act xe).size
            have hr3 := act_room d2 xe
            have hdle := (hS0 xe (List.mem_of_getElem? hxse)).1
            refine RW.region ?_
            refine RL.ev rfl rfl ev_move ?_
            refine RL.op rfl rfl (op_call1 Try.func24 rfl rfl rfl ((size_calls _ ((act d2 xe).1) _ _ (dsk_says (hN.says 0 _ rfl)) (hfit2.act xe) (by omega)).mono ?_))
            rintro _ w10 ⟨rfl, he_⟩
            replace hN := hN.ext he_
            clear he_
            refine RL.ev rfl rfl ev_move ?_
            refine RL.ev rfl rfl (ev_conv Try.underlying5 Try.underlying3 rfl (wr_i64 (by omega) (by omega))) ?_
            refine RL.ev rfl rfl (ev_false (ev_gtr rfl rfl) (by omega)) ?_
            refine RL.ev rfl rfl ev_move ?_
            refine RL.onEv rfl rfl (by decide) rfl rfl ev_move ?_
            refine RL.onEv rfl rfl (by decide) rfl rfl (ev_true (ev_neq rfl rfl) hq0) ?_
            refine RL.onEv rfl rfl (by decide) rfl rfl ev_move ?_
            refine RL.onEv rfl rfl (by decide) rfl rfl ev_move ?_
            refine RL.on rfl rfl (by decide) rfl rfl (op_call1 Try.func24 rfl rfl rfl ((size_calls _ ((act d2 xe).1) _ _ (dsk_says (hN.says 0 _ rfl)) (hfit2.act xe) (by omega)).mono ?_))
            rintro _ w11 ⟨rfl, he_⟩
            replace hN := hN.ext he_
            clear he_
            refine RL.onEv rfl rfl (by decide) rfl rfl ev_move ?_
            refine RL.onEv rfl rfl (by decide) rfl rfl (ev_false (ev_neq rfl rfl) (fun h => h (by rw [act_err hq0]))) ?_
            refine RL.onEv rfl rfl (by decide) rfl rfl ev_move ?_
            refine RL.onEv rfl rfl (by decide) rfl rfl ev_move ?_
            refine RL.on rfl rfl (by decide) rfl rfl (op_call1 Try.func25 rfl rfl rfl ((loose_calls _ ((act d2 xe).1) _ _ (dsk_says (hN.says 0 _ rfl)) (hfit2.act xe) (by omega)).mono ?_))
            rintro _ w12 ⟨rfl, he_⟩
            replace hN := hN.ext he_
            clear he_
            refine RL.onEv rfl rfl (by decide) rfl rfl ev_move ?_
            refine RL.onEv rfl rfl (by decide) rfl rfl (ev_false (ev_neq rfl rfl) (fun h => h (by rw [act_err hq0]))) ?_
            refine RL.onEv rfl rfl (by decide) rfl rfl (ev_pickF rfl) ?_
            refine RL.onEv rfl rfl (by decide) rfl rfl (ev_pickT rfl) ?_
            refine RL.ev rfl rfl (ev_pickF rfl) ?_
            refine RL.ev rfl rfl ev_move ?_
            by_cases hq11 : (act d2 xe).2 = 11
            · skip
              refine RL.onEv rfl rfl (by decide) rfl rfl ev_move ?_
              refine RL.onEv rfl rfl (by decide) rfl rfl (ev_true (ev_eql rfl rfl) hq11) ?_
              refine RL.onEv rfl rfl (by decide) rfl rfl ev_move ?_
              refine RL.onEv rfl rfl (by decide) rfl rfl ev_move ?_
              refine RL.onEv rfl rfl (by decide) rfl rfl ev_move ?_
              refine RL.onEv rfl rfl (by decide) rfl rfl ev_move ?_
              refine RL.onEv rfl rfl (by decide) rfl rfl (ev_indexM Try.underlying22 sz33 ocells_len (by decide) (hL.o.now hN) rfl rfl (by omega) (by omega)) ?_
              refine RL.onEv rfl rfl (by decide) rfl rfl (ev_fieldM (m := i) (b := 0) Try.underlying33 rfl sz23 (by decide) ocells_len (hL.o.now hN) hae rfl rfl) ?_
              refine RL.onEv rfl rfl (by decide) rfl rfl (ev_loadMF (m := i) (j := 3) (a := (xe.kind, xe.name, xe.to, hxe)) Try.underlying23 rfl ocells_len (hL.o.now hN) rfl hae rfl) ?_
              have hL_13 := (hde.now hN).len_le
              refine RL.onEv rfl rfl (by decide) rfl rfl (ev_lenS Try.underlying23 (hde.now hN) rfl) ?_
              refine RL.onEv rfl rfl (by decide) rfl rfl (ev_arith rfl rfl rfl (add64 (by omega) (by omega))) ?_
              refine RL.onEv rfl rfl (by decide) rfl rfl ev_move ?_
              refine RL.onEv rfl rfl (by decide) rfl rfl (ev_conv Try.underlying5 Try.underlying3 rfl (wr_i64 (by omega) (by omega))) ?_
              refine RL.onEv rfl rfl (by decide) rfl rfl (ev_false (ev_leq rfl rfl) (by have h := act_full hq11; rw [hrm] at h; omega)) ?_
              refine RL.onEv rfl rfl (by decide) rfl rfl (ev_pickT rfl) ?_
              refine RL.ev rfl rfl (ev_pickF rfl) ?_
              refine RL.nil ?_
              refine thenN ?_
              refine RW.condF rfl ?_
              refine RW.skip ?_
              refine blockN ?_
              refine thenN ?_
              refine RW.region ?_
              refine RL.ev rfl rfl ev_move ?_
              refine RL.ev rfl rfl (ev_arith rfl rfl rfl (add64 (by omega) (by omega))) ?_
              refine RL.ev rfl rfl ev_assign ?_
              refine RL.nil ?_
              refine thenN ?_
              exact ⟨k - 1, by omega, (act d2 xe).1, B8, i + 1, rfl, rfl, rfl, rfl, hN, by omega, (hfit2.act xe), (by rw [act_room]; exact hrm)⟩
            · skip
              refine RL.onEv rfl rfl (by decide) rfl rfl ev_move ?_
              refine RL.onEv rfl rfl (by decide) rfl rfl (ev_false (ev_eql rfl rfl) hq11) ?_
              refine RL.onEv rfl rfl (by decide) rfl rfl ev_move ?_
              refine RL.off rfl rfl (by decide) rfl rfl ?_
              refine RL.off rfl rfl (by decide) rfl rfl ?_
              refine RL.off rfl rfl (by decide) rfl rfl ?_
              refine RL.off rfl rfl (by decide) rfl rfl ?_
              refine RL.off rfl rfl (by decide) rfl rfl ?_
              refine RL.off rfl rfl (by decide) rfl rfl ?_
              refine RL.off rfl rfl (by decide) rfl rfl ?_
              refine RL.off rfl rfl (by decide) rfl rfl ?_
              refine RL.off rfl rfl (by decide) rfl rfl ?_
              refine RL.off rfl rfl (by decide) rfl rfl ?_
              refine RL.off rfl rfl (by decide) rfl rfl ?_
              refine RL.onEv rfl rfl (by decide) rfl rfl (ev_pickF rfl) ?_
              refine RL.ev rfl rfl (ev_pickF rfl) ?_
              refine RL.nil ?_
              refine thenN ?_
              refine RW.condF rfl ?_
              refine RW.skip ?_
              refine blockN ?_
              refine thenN ?_
              refine RW.region ?_
              refine RL.ev rfl rfl ev_move ?_
              refine RL.ev rfl rfl (ev_arith rfl rfl rfl (add64 (by omega) (by omega))) ?_
              refine RL.ev rfl rfl ev_assign ?_
              refine RL.nil ?_
              refine thenN ?_
              exact ⟨k - 1, by omega, (act d2 xe).1, B8, i + 1, rfl, rfl, rfl, rfl, hN, by omega, (hfit2.act xe), (by rw [act_room]; exact hrm)⟩
        · skip
          refine RW.exit ?_
          refine thenX ?_
          refine thenX ?_
          refine blockHit ?_
          refine thenN ?_
          refine RW.seq ?_
          refine RW.region ?_
          refine RL.op rfl rfl (op_call0 Try.func11 rfl rfl ((known_calls _).mono ?_))
          rintro _ w14 ⟨rfl, he_⟩
          replace hN := hN.ext he_
          clear he_
          refine RL.ev rfl rfl ev_assign ?_
          refine RL.nil ?_
          refine thenN ?_
          refine RW.ret ?_
          refine retI (RV.tmp rfl) ?_
          exact ⟨rfl, hN.ext0⟩

end Go.Proofs.Ytlblpiapeieofaa
