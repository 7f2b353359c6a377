import Derived.Test.YtlblpiapeieofaaDiskL0
import Derived.Test.YtlblpiapeieofaaDiskOpen
import Derived.Test.YtlblpiapeieofaaDiskPlain2
set_option linter.unusedVariables false
set_option linter.unusedSimpArgs false
namespace Go.Proofs.Ytlblpiapeieofaa
open Go.RowKit Go.Rl

open Go.Disk
set_option maxHeartbeats 4000000 in
set_option maxRecDepth 100000 in
/-- postroad/postroadlaw04.DiskCrashes -/
theorem diskCrashes_calls (Lv : Value) (os : List OH) (xs : List Disk.Op) (Mv : Value) (ms : List Int) (w : World) (hL : Sm ocells w Lv os) (hel : OEls none_ w os xs) (hS0 : ∀ x ∈ xs, SmallOp x) (hM : Sl vI w Mv ms) : Gives Try.prog 7 #[Lv, Mv] w fun r w' => r = .bool true ∧ Ext w w' := by
  refine Gives.start Try.func7 rfl (Nat.le_of_ble_eq_true rfl) ?_
  rw [args2]
  have hN := Now.nil w none_
  have hle := hel.1
  have hB : ∀ x ∈ xs, x.data.length ≤ 140737488355328 ∧ x.name.length ≤ 140737488355328 ∧ x.to.length ≤ 140737488355328 := fun x hx => ⟨by have := (hS0 x hx).1; omega, by have := (hS0 x hx).2.1; omega, by have := (hS0 x hx).2.2; omega⟩
  refine RW.seq ?_
  refine RW.region ?_
  refine RL.ev rfl rfl ev_assign ?_
  refine RL.nil ?_
  refine thenN ?_
  refine RW.seq ?_
  refine RW.seq ?_
  refine RW.region ?_
  refine RL.ev rfl rfl ev_move ?_
  refine RL.op rfl rfl (op_call1 Try.func10 rfl rfl rfl ((long_calls _ os xs _ (hL.o.now hN) (OEls.nowN hel hN) hB).mono ?_))
  rintro _ w1 ⟨z1, rfl, hz1, he_⟩
  replace hN := hN.ext he_
  clear he_
  refine RL.ev rfl rfl (ev_gtr rfl rfl) ?_
  refine RL.ev rfl rfl ev_move ?_
  by_cases hg1_3 : 1000 < z1
  · skip
    rw [decide_eq_true hg1_3]
    refine RL.off rfl rfl (by decide) rfl rfl ?_
    refine RL.off rfl rfl (by decide) rfl rfl ?_
    refine RL.off rfl rfl (by decide) rfl rfl ?_
    refine RL.ev rfl rfl (ev_pickT rfl) ?_
    refine RL.ev rfl rfl ev_move ?_
    refine RL.off rfl rfl (by decide) rfl rfl ?_
    refine RL.off rfl rfl (by decide) rfl rfl ?_
    refine RL.off rfl rfl (by decide) rfl rfl ?_
    refine RL.ev rfl rfl (ev_pickT rfl) ?_
    refine RL.nil ?_
    refine thenN ?_
    refine RW.condT rfl ?_
    refine RW.seq ?_
    refine RW.region ?_
    refine RL.op rfl rfl (op_call0 Try.func11 rfl rfl ((known_calls _).mono ?_))
    rintro _ w2 ⟨rfl, he_⟩
    replace hN := hN.ext he_
    clear he_
    refine RL.ev rfl rfl ev_assign ?_
    refine RL.nil ?_
    refine thenN ?_
    refine RW.ret ?_
    refine thenR ?_
    refine retI (RV.tmp rfl) ?_
    exact ⟨rfl, hN.ext0⟩
  · skip
    rw [decide_eq_false hg1_3]
    refine RL.onEv rfl rfl (by decide) rfl rfl ev_move ?_
    have hL_3 := (hL.o.now hN).len_le
    refine RL.onEv rfl rfl (by decide) rfl rfl (ev_lenM Try.underlying22 (hL.o.now hN) rfl) ?_
    refine RL.onEv rfl rfl (by decide) rfl rfl (ev_gtr rfl rfl) ?_
    refine RL.ev rfl rfl (ev_pickF rfl) ?_
    refine RL.ev rfl rfl ev_move ?_
    by_cases hg1_8 : 60 < (os.length : Int)
    · skip
      rw [decide_eq_true hg1_8]
      refine RL.off rfl rfl (by decide) rfl rfl ?_
      refine RL.off rfl rfl (by decide) rfl rfl ?_
      refine RL.off rfl rfl (by decide) rfl rfl ?_
      refine RL.ev rfl rfl (ev_pickT rfl) ?_
      refine RL.nil ?_
      refine thenN ?_
      refine RW.condT rfl ?_
      refine RW.seq ?_
      refine RW.region ?_
      refine RL.op rfl rfl (op_call0 Try.func11 rfl rfl ((known_calls _).mono ?_))
      rintro _ w4 ⟨rfl, he_⟩
      replace hN := hN.ext he_
      clear he_
      refine RL.ev rfl rfl ev_assign ?_
      refine RL.nil ?_
      refine thenN ?_
      refine RW.ret ?_
      refine thenR ?_
      refine retI (RV.tmp rfl) ?_
      exact ⟨rfl, hN.ext0⟩
    · skip
      rw [decide_eq_false hg1_8]
      refine RL.onEv rfl rfl (by decide) rfl rfl ev_move ?_
      have hL_5 := (hM.o.now hN).len_le
      refine RL.onEv rfl rfl (by decide) rfl rfl (ev_lenS Try.underlying24 (hM.o.now hN) rfl) ?_
      refine RL.onEv rfl rfl (by decide) rfl rfl (ev_gtr rfl rfl) ?_
      refine RL.ev rfl rfl (ev_pickF rfl) ?_
      refine RL.nil ?_
      refine thenN ?_
      refine RW.condP _ rfl (fun hc22 => ?_) (fun hc22 => ?_)
      · skip
        refine RW.seq ?_
        refine RW.region ?_
        refine RL.op rfl rfl (op_call0 Try.func11 rfl rfl ((known_calls _).mono ?_))
        rintro _ w6 ⟨rfl, he_⟩
        replace hN := hN.ext he_
        clear he_
        refine RL.ev rfl rfl ev_assign ?_
        refine RL.nil ?_
        refine thenN ?_
        refine RW.ret ?_
        refine thenR ?_
        refine retI (RV.tmp rfl) ?_
        exact ⟨rfl, hN.ext0⟩
      · skip
        refine RW.skip ?_
        refine thenN ?_
        refine RW.seq ?_
        have h60 : xs.length ≤ 60 := by omega
        have hzl := hz1 (by omega)
        have hdl : ∀ x ∈ xs, x.data.length ≤ 1099511627776 := fun x hx => by have := longT_mem hx; omega
        refine RW.region ?_
        refine RL.op rfl rfl (op_call1 Try.func12 rfl rfl rfl ((new_calls (5000) _ (by decide) (by decide)).mono ?_))
        rintro _ w7 ⟨g7, B7, rfl, hC_⟩
        have hN_ := hN.call0 hC_
        clear hC_
        clear hN
        have hN : Now w none_ w7 [_] := hN_
        clear hN_
        replace hN : Now w none_ w7 [dskA 64 71 23 g7 (⟨5000, []⟩ : Dk) B7] := hN
        refine RL.ev rfl rfl ev_assign ?_
        refine RL.nil ?_
        refine thenN ?_
        refine RW.seq ?_
        refine RW.region ?_
        refine RL.ev rfl rfl (ev_buildL (cs := [.int .i64 (5000), .slice none 0 0]) Try.underlying45 zero45 (places := #[(0, 1), (1, 1)]) (by intro w; kernel_rfl) (pl := [(0, .const (.int .i64 (5000)))]) rfl (ps := [(0, .int .i64 (5000))]) rfl (zc := [.int .i64 (0), .slice none 0 0]) rfl (fill_step (vs := [.int .i64 (5000)]) rfl rfl (Nat.le_of_ble_eq_true rfl) rfl)) ?_
        refine RL.ev rfl rfl ev_move ?_
        refine RL.op rfl rfl (op_call2 Try.func26 rfl rfl rfl rfl ((refRun_calls (foots [dskA 64 71 23 g7 (⟨5000, []⟩ : Dk) B7]) (fun k hk => hN.feetLt hk) (⟨5000, []⟩ : Dk) _ ([]) 0 _ os xs (SmO.nil _ _ _) (Pair.nil _) (Fits.new (by decide) (by decide)) (by omega) (SmO.step ocells_ne hL.o hN) (OEls.step hel hN) hdl _ rfl).mono ?_))
        rintro _ w8 ⟨Lv8, hs8, rfl, hS8, hE8, he_⟩
        replace hN := hN.ext he_
        clear he_
        have hF9 := hN
        clear hN
        have hN := hF9.here
        replace hN : Now w8 (foots [dskA 64 71 23 g7 (⟨5000, []⟩ : Dk) B7]) w8 [dskA 64 71 23 g7 (⟨5000, []⟩ : Dk) B7] := hN
        refine RL.ev rfl rfl ev_move ?_
        refine RL.ev rfl rfl (ev_extract rfl rfl) ?_
        refine RL.ev rfl rfl (ev_extract rfl rfl) ?_
        refine RL.op rfl rfl (opN_alloc (cs := [.int .i64 (0), .slice none 0 0]) zero45 rfl hN ?_)
        intro g10 w10 hN_
        clear hN
        have hN : Now w8 (foots [dskA 64 71 23 g7 (⟨5000, []⟩ : Dk) B7]) w10 [_, _] := hN_
        clear hN_
        refine RL.op rfl rfl (opN_storeAll (vs := [.int .i64 ((run (⟨5000, []⟩ : Dk) xs).1.room), Lv8]) sz45 rfl rfl rfl (by intro u hu; simp only [List.mem_cons, List.not_mem_nil, or_false] at hu; rcases hu with rfl | rfl <;> first | rfl | exact (hS8.now hN).one1) hN 0 rfl rfl ?_)
        intro w11 hN_
        clear hN
        have hN : Now w8 (foots [dskA 64 71 23 g7 (⟨5000, []⟩ : Dk) B7]) w11 [_, _] := hN_
        clear hN_
        refine RL.ev rfl rfl ev_assign ?_
        refine RL.nil ?_
        refine thenN ?_
        refine RW.seq ?_
        refine RW.region ?_
        refine RL.ev rfl rfl ev_move ?_
        refine RL.ev rfl rfl ev_move ?_
        refine RL.op rfl rfl (op_call2 Try.func13 rfl rfl rfl rfl ((run_calls g7 (⟨5000, []⟩ : Dk) B7 0 _ os xs _ (hN.pickL (M := [_]) [1] (by decide) rfl) (Fits.new (by decide) (by decide)) (by omega) (SmO.at ocells_ne (SmO.step ocells_ne hL.o hF9) hN 1 rfl) (OEls.at (OEls.step hel hF9) hN 1 rfl) hdl _ rfl).mono ?_))
        rintro _ w12 ⟨B12, rfl, hC_⟩
        have hN_ := Now.callA (M := [_]) (N := [_]) (hN.sub [1, 0] (by decide) rfl) hC_
        clear hC_
        clear hN
        have hN : Now w8 (foots [dskA 64 71 23 g7 (⟨5000, []⟩ : Dk) B7]) w12 [_, _] := hN_
        clear hN_
        replace hN : Now w8 (foots [dskA 64 71 23 g7 (⟨5000, []⟩ : Dk) B7]) w12 [dskA 64 71 23 g7 ((run (⟨5000, []⟩ : Dk) xs).1) B12, .blk g10 [.int .i64 ((run (⟨5000, []⟩ : Dk) xs).1.room), Lv8] 45] := hN
        refine RL.ev rfl rfl ev_assign ?_
        refine RL.nil ?_
        refine thenN ?_
        refine RW.seq ?_
        refine RW.region ?_
        refine RL.ev rfl rfl ev_move ?_
        refine RL.op rfl rfl (op_call1 Try.func27 rfl rfl rfl ((copy_disk g7 ((run (⟨5000, []⟩ : Dk) xs).1) _ _ (dsk_says (hN.says 0 _ rfl)) (run_fits xs (Fits.new (by decide) (by decide))) (by omega)).mono ?_))
        rintro _ w13 ⟨g13, B13, rfl, hC_⟩
        have hN_ := hN.call0 hC_
        clear hC_
        clear hN
        have hN : Now w8 (foots [dskA 64 71 23 g7 (⟨5000, []⟩ : Dk) B7]) w13 [_, _, _] := hN_
        clear hN_
        replace hN : Now w8 (foots [dskA 64 71 23 g7 (⟨5000, []⟩ : Dk) B7]) w13 [dskA 64 71 23 g13 ((run (⟨5000, []⟩ : Dk) xs).1) B13, dskA 64 71 23 g7 ((run (⟨5000, []⟩ : Dk) xs).1) B12, .blk g10 [.int .i64 ((run (⟨5000, []⟩ : Dk) xs).1.room), Lv8] 45] := hN
        refine RL.ev rfl rfl ev_assign ?_
        refine RL.nil ?_
        refine thenN ?_
        refine RW.seq ?_
        refine RW.region ?_
        refine RL.ev rfl rfl ev_move ?_
        refine RL.ev rfl rfl ev_move ?_
        refine RL.op rfl rfl (op_call2 Try.func17 rfl rfl rfl rfl ((crash_calls g7 ((run (⟨5000, []⟩ : Dk) xs).1) B12 (0 + xs.length) _ ms _ (hN.pickL (M := [_]) [1] (by decide) rfl) (run_fits xs (Fits.new (by decide) (by decide))) (by omega) (SlO.at (hM.o.step hF9) hN 1 rfl)).mono ?_))
        rintro _ w14 ⟨B14, rfl, hC_⟩
        have hN_ := Now.callA (M := [_]) (N := [_, _]) (hN.sub [1, 0, 2] (by decide) rfl) hC_
        clear hC_
        clear hN
        have hN : Now w8 (foots [dskA 64 71 23 g7 (⟨5000, []⟩ : Dk) B7]) w14 [_, _, _] := hN_
        clear hN_
        replace hN : Now w8 (foots [dskA 64 71 23 g7 (⟨5000, []⟩ : Dk) B7]) w14 [dskA 64 71 23 g7 (⟨((run (⟨5000, []⟩ : Dk) xs).1).room, crash ms ((run (⟨5000, []⟩ : Dk) xs).1).fs⟩ : Dk) B14, dskA 64 71 23 g13 ((run (⟨5000, []⟩ : Dk) xs).1) B13, .blk g10 [.int .i64 ((run (⟨5000, []⟩ : Dk) xs).1.room), Lv8] 45] := hN
        refine RL.nil ?_
        refine thenN ?_
        refine RW.seq ?_
        refine RW.region ?_
        refine RL.ev rfl rfl ev_move ?_
        refine RL.ev rfl rfl ev_move ?_
        refine RL.ev rfl rfl (ev_true (ev_eql rfl rfl) rfl) ?_
        refine RL.ev rfl rfl ev_move ?_
        refine RL.onEv rfl rfl (by decide) rfl rfl ev_move ?_
        refine RL.onEv rfl rfl (by decide) rfl rfl (ev_loadAll (cs := [.int .i64 ((run (⟨5000, []⟩ : Dk) xs).1.room), Lv8]) Try.underlying45 rfl sz45 rfl (hN.blk 2 rfl)) ?_
        refine RL.on rfl rfl (by decide) rfl rfl (op_call2 Try.func23 rfl rfl rfl rfl ((dsame_calls g13 ((run (⟨5000, []⟩ : Dk) xs).1) _ _ hs8 _ (dsk_says (hN.says 1 _ rfl)) (hS8.now hN) (FEls.nowN hE8 hN) (run_fits xs (Fits.new (by decide) (by decide))) (by omega)).mono ?_))
        rintro _ w15 ⟨rfl, he_⟩
        replace hN := hN.ext he_
        clear he_
        refine RL.ev rfl rfl (ev_pickT rfl) ?_
        refine RL.ev rfl rfl ev_move ?_
        refine RL.onEv rfl rfl (by decide) rfl rfl ev_move ?_
        refine RL.onEv rfl rfl (by decide) rfl rfl (ev_loadAll (cs := [.int .i64 ((run (⟨5000, []⟩ : Dk) xs).1.room), Lv8]) Try.underlying45 rfl sz45 rfl (hN.blk 2 rfl)) ?_
        refine RL.onEv rfl rfl (by decide) rfl rfl ev_move ?_
        refine RL.on rfl rfl (by decide) rfl rfl (op_call2 Try.func28 rfl rfl rfl rfl ((refCrash_calls (foots [dskA 64 71 23 g7 (⟨((run (⟨5000, []⟩ : Dk) xs).1).room, crash ms ((run (⟨5000, []⟩ : Dk) xs).1).fs⟩ : Dk) B14, dskA 64 71 23 g13 ((run (⟨5000, []⟩ : Dk) xs).1) B13, .blk g10 [.int .i64 ((run (⟨5000, []⟩ : Dk) xs).1.room), Lv8] 45]) (fun k hk => hN.feetLt hk) ((run (⟨5000, []⟩ : Dk) xs).1) _ hs8 (0 + xs.length) _ ms (SmO.step fcells_ne hS8 hN) (FEls.step hE8 hN) (run_fits xs (Fits.new (by decide) (by decide))) (by omega) ((hM.o.step hF9).now hN)).mono ?_))
        rintro _ w16 ⟨Lv16, hs16, rfl, hS16, hE16, he_⟩
        replace hN := hN.ext he_
        clear he_
        have hF17 := hN
        clear hN
        have hN := hF17.here
        replace hN : Now w16 (foots [dskA 64 71 23 g7 (⟨((run (⟨5000, []⟩ : Dk) xs).1).room, crash ms ((run (⟨5000, []⟩ : Dk) xs).1).fs⟩ : Dk) B14, dskA 64 71 23 g13 ((run (⟨5000, []⟩ : Dk) xs).1) B13, .blk g10 [.int .i64 ((run (⟨5000, []⟩ : Dk) xs).1.room), Lv8] 45]) w16 [dskA 64 71 23 g7 (⟨((run (⟨5000, []⟩ : Dk) xs).1).room, crash ms ((run (⟨5000, []⟩ : Dk) xs).1).fs⟩ : Dk) B14, dskA 64 71 23 g13 ((run (⟨5000, []⟩ : Dk) xs).1) B13, .blk g10 [.int .i64 ((run (⟨5000, []⟩ : Dk) xs).1.room), Lv8] 45] := hN
        refine RL.on rfl rfl (by decide) rfl rfl (op_call2 Try.func23 rfl rfl rfl rfl ((dsame_calls g7 (⟨((run (⟨5000, []⟩ : Dk) xs).1).room, crash ms ((run (⟨5000, []⟩ : Dk) xs).1).fs⟩ : Dk) _ _ hs16 _ (dsk_says (hN.says 0 _ rfl)) (hS16.now hN) (FEls.nowN hE16 hN) ((run_fits xs (Fits.new (by decide) (by decide))).crashed ms) (by omega)).mono ?_))
        rintro _ w18 ⟨rfl, he_⟩
        replace hN := hN.ext he_
        clear he_
        refine RL.ev rfl rfl (ev_pickT rfl) ?_
        refine RL.ev rfl rfl ev_move ?_
        refine RL.onEv rfl rfl (by decide) rfl rfl ev_move ?_
        refine RL.on rfl rfl (by decide) rfl rfl (op_call1 Try.func25 rfl rfl rfl ((loose_calls _ (⟨((run (⟨5000, []⟩ : Dk) xs).1).room, crash ms ((run (⟨5000, []⟩ : Dk) xs).1).fs⟩ : Dk) _ _ (dsk_says (hN.says 0 _ rfl)) ((run_fits xs (Fits.new (by decide) (by decide))).crashed ms) (by omega)).mono ?_))
        rintro _ w19 ⟨rfl, he_⟩
        replace hN := hN.ext he_
        clear he_
        refine RL.onEv rfl rfl (by decide) rfl rfl (ev_true (ev_eql rfl rfl) (congrArg (Nat.cast : Nat → Int) (crash_loose _ _))) ?_
        refine RL.ev rfl rfl (ev_pickT rfl) ?_
        refine RL.ev rfl rfl ev_move ?_
        refine RL.on rfl rfl (by decide) rfl rfl (op_call0 Try.func11 rfl rfl ((known_calls _).mono ?_))
        rintro _ w20 ⟨rfl, he_⟩
        replace hN := hN.ext he_
        clear he_
        refine RL.ev rfl rfl (ev_pickT rfl) ?_
        refine RL.ev rfl rfl ev_assign ?_
        refine RL.nil ?_
        refine thenN ?_
        refine RW.ret ?_
        refine retI (RV.tmp rfl) ?_
        exact ⟨rfl, (hF9.back (hF17.back hN)).ext0⟩

end Go.Proofs.Ytlblpiapeieofaa
