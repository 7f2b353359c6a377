import Derived.Test.YtlblpiapeieofaaDiskL0
import Derived.Test.YtlblpiapeieofaaDiskOpen
import Derived.Test.YtlblpiapeieofaaDiskPlain2
set_option linter.unusedVariables false
set_option linter.unusedSimpArgs false
namespace Go.Proofs.Ytlblpiapeieofaa
open Go.RowKit Go.Rl

open Go.Disk
set_option maxHeartbeats 4000000 in
set_option maxRecDepth 100000 in
/-- postroad/postroadlaw04.DiskSyncs -/
theorem diskSyncs_calls (Lv : Value) (os : List OH) (xs : List Disk.Op) (Mv : Value) (ms : List Int) (w : World) (hL : Sm ocells w Lv os) (hel : OEls none_ w os xs) (hS0 : ∀ x ∈ xs, SmallOp x) (hM : Sl vI w Mv ms) : Gives Try.prog 9 #[Lv, Mv] w fun r w' => r = .bool true ∧ Ext w w' := by
  refine Gives.start Try.func9 rfl (Nat.le_of_ble_eq_true rfl) ?_
  rw [args2]
  have hN := Now.nil w none_
  have hle := hel.1
  have hB : ∀ x ∈ xs, x.data.length ≤ 140737488355328 ∧ x.name.length ≤ 140737488355328 ∧ x.to.length ≤ 140737488355328 := fun x hx => ⟨by have := (hS0 x hx).1; omega, by have := (hS0 x hx).2.1; omega, by have := (hS0 x hx).2.2; omega⟩
  refine RW.seq ?_
  refine RW.region ?_
  refine RL.ev rfl rfl ev_assign ?_
  refine RL.nil ?_
  refine thenN ?_
  refine RW.seq ?_
  refine RW.seq ?_
  refine RW.region ?_
  refine RL.ev rfl rfl ev_move ?_
  refine RL.op rfl rfl (op_call1 Try.func10 rfl rfl rfl ((long_calls _ os xs _ (hL.o.now hN) (OEls.nowN hel hN) hB).mono ?_))
  rintro _ w1 ⟨z1, rfl, hz1, he_⟩
  replace hN := hN.ext he_
  clear he_
  refine RL.ev rfl rfl (ev_gtr rfl rfl) ?_
  refine RL.ev rfl rfl ev_move ?_
  by_cases hg1_3 : 800 < z1
  · skip
    rw [decide_eq_true hg1_3]
    refine RL.off rfl rfl (by decide) rfl rfl ?_
    refine RL.off rfl rfl (by decide) rfl rfl ?_
    refine RL.off rfl rfl (by decide) rfl rfl ?_
    refine RL.ev rfl rfl (ev_pickT rfl) ?_
    refine RL.ev rfl rfl ev_move ?_
    refine RL.off rfl rfl (by decide) rfl rfl ?_
    refine RL.off rfl rfl (by decide) rfl rfl ?_
    refine RL.off rfl rfl (by decide) rfl rfl ?_
    refine RL.ev rfl rfl (ev_pickT rfl) ?_
    refine RL.nil ?_
    refine thenN ?_
    refine RW.condT rfl ?_
    refine RW.seq ?_
    refine RW.region ?_
    refine RL.op rfl rfl (op_call0 Try.func11 rfl rfl ((known_calls _).mono ?_))
    rintro _ w2 ⟨rfl, he_⟩
    replace hN := hN.ext he_
    clear he_
    refine RL.ev rfl rfl ev_assign ?_
    refine RL.nil ?_
    refine thenN ?_
    refine RW.ret ?_
    refine thenR ?_
    refine retI (RV.tmp rfl) ?_
    exact ⟨rfl, hN.ext0⟩
  · skip
    rw [decide_eq_false hg1_3]
    refine RL.onEv rfl rfl (by decide) rfl rfl ev_move ?_
    have hL_3 := (hL.o.now hN).len_le
    refine RL.onEv rfl rfl (by decide) rfl rfl (ev_lenM Try.underlying22 (hL.o.now hN) rfl) ?_
    refine RL.onEv rfl rfl (by decide) rfl rfl (ev_gtr rfl rfl) ?_
    refine RL.ev rfl rfl (ev_pickF rfl) ?_
    refine RL.ev rfl rfl ev_move ?_
    by_cases hg1_8 : 50 < (os.length : Int)
    · skip
      rw [decide_eq_true hg1_8]
      refine RL.off rfl rfl (by decide) rfl rfl ?_
      refine RL.off rfl rfl (by decide) rfl rfl ?_
      refine RL.off rfl rfl (by decide) rfl rfl ?_
      refine RL.ev rfl rfl (ev_pickT rfl) ?_
      refine RL.nil ?_
      refine thenN ?_
      refine RW.condT rfl ?_
      refine RW.seq ?_
      refine RW.region ?_
      refine RL.op rfl rfl (op_call0 Try.func11 rfl rfl ((known_calls _).mono ?_))
      rintro _ w4 ⟨rfl, he_⟩
      replace hN := hN.ext he_
      clear he_
      refine RL.ev rfl rfl ev_assign ?_
      refine RL.nil ?_
      refine thenN ?_
      refine RW.ret ?_
      refine thenR ?_
      refine retI (RV.tmp rfl) ?_
      exact ⟨rfl, hN.ext0⟩
    · skip
      rw [decide_eq_false hg1_8]
      refine RL.onEv rfl rfl (by decide) rfl rfl ev_move ?_
      have hL_5 := (hM.o.now hN).len_le
      refine RL.onEv rfl rfl (by decide) rfl rfl (ev_lenS Try.underlying24 (hM.o.now hN) rfl) ?_
      refine RL.onEv rfl rfl (by decide) rfl rfl (ev_gtr rfl rfl) ?_
      refine RL.ev rfl rfl (ev_pickF rfl) ?_
      refine RL.nil ?_
      refine thenN ?_
      refine RW.condP _ rfl (fun hc27 => ?_) (fun hc27 => ?_)
      · skip
        refine RW.seq ?_
        refine RW.region ?_
        refine RL.op rfl rfl (op_call0 Try.func11 rfl rfl ((known_calls _).mono ?_))
        rintro _ w6 ⟨rfl, he_⟩
        replace hN := hN.ext he_
        clear he_
        refine RL.ev rfl rfl ev_assign ?_
        refine RL.nil ?_
        refine thenN ?_
        refine RW.ret ?_
        refine thenR ?_
        refine retI (RV.tmp rfl) ?_
        exact ⟨rfl, hN.ext0⟩
      · skip
        refine RW.skip ?_
        refine thenN ?_
        refine RW.seq ?_
        have h60 : xs.length ≤ 50 := by omega
        have hzl := hz1 (by omega)
        have hdl : ∀ x ∈ xs, x.data.length ≤ 1099511627776 := fun x hx => by have := longT_mem hx; omega
        refine RW.region ?_
        refine RL.op rfl rfl (op_call1 Try.func12 rfl rfl rfl ((new_calls (5000) _ (by decide) (by decide)).mono ?_))
        rintro _ w7 ⟨g7, B7, rfl, hC_⟩
        have hN_ := hN.call0 hC_
        clear hC_
        clear hN
        have hN : Now w none_ w7 [_] := hN_
        clear hN_
        replace hN : Now w none_ w7 [dskA 64 71 23 g7 (⟨5000, []⟩ : Dk) B7] := hN
        refine RL.ev rfl rfl ev_assign ?_
        refine RL.nil ?_
        refine thenN ?_
        refine RW.seq ?_
        refine RW.region ?_
        refine RL.ev rfl rfl ev_move ?_
        refine RL.ev rfl rfl ev_move ?_
        refine RL.op rfl rfl (op_call2 Try.func13 rfl rfl rfl rfl ((run_calls g7 (⟨5000, []⟩ : Dk) B7 0 _ os xs _ (hN.pickL (M := [_]) [0] (by decide) rfl) (Fits.new (by decide) (by decide)) (by omega) (SmO.at ocells_ne hL.o hN 0 rfl) (OEls.at hel hN 0 rfl) hdl _ rfl).mono ?_))
        rintro _ w8 ⟨B8, rfl, hC_⟩
        have hN_ := Now.callA (M := [_]) (N := []) (hN.sub [0] (by decide) rfl) hC_
        clear hC_
        clear hN
        have hN : Now w none_ w8 [_] := hN_
        clear hN_
        replace hN : Now w none_ w8 [dskA 64 71 23 g7 ((run (⟨5000, []⟩ : Dk) xs).1) B8] := hN
        have hfit1 : Fits xs.length (run (⟨5000, []⟩ : Dk) xs).1 := by have h := run_fits xs (Fits.new (room := 5000) (by decide) (by decide)); rw [Nat.zero_add] at h; exact h
        have hrs1 : size (run (⟨5000, []⟩ : Dk) xs).1.fs ≤ longT xs := by have h := run_size xs (d := ⟨5000, []⟩) List.Pairwise.nil; exact Nat.le_trans h (by show size [] + _ ≤ _; rw [show size [] = 0 from rfl]; omega)
        have hrr1 : (run (⟨5000, []⟩ : Dk) xs).1.room = 5000 := run_room xs _
        generalize (run (⟨5000, []⟩ : Dk) xs).1 = d1 at hN hfit1 hrs1 hrr1
        replace hN : Now w none_ w8 [dskA 64 71 23 g7 d1 B8] := hN
        refine RL.nil ?_
        refine thenN ?_
        refine RW.seq ?_
        refine RW.region ?_
        refine RL.ev rfl rfl ev_move ?_
        refine RL.op rfl rfl (op_call1 Try.func16 rfl rfl rfl ((names_calls _ d1 _ _ (dsk_says (hN.says 0 _ rfl)) hfit1 (by omega)).mono ?_))
        rintro v9 w9 ⟨ho_, he_⟩
        have hN_ := hN.pushOwn (l := names d1.fs) ho_ he_
        clear ho_ he_
        clear hN
        have hN : Now w none_ w9 [_, _] := hN_
        clear hN_
        refine RL.ev rfl rfl ev_assign ?_
        refine RL.nil ?_
        refine thenN ?_
        refine RW.seq ?_
        refine RW.seq ?_
        have hnl : (names d1.fs).length = d1.fs.length := by simp [names]
        refine RW.region ?_
        refine RL.ev rfl rfl ev_assign ?_
        refine RL.nil ?_
        refine thenN ?_
        refine RW.block ?_
        refine RW.loop (fun k R0 w0' => ∃ B2 : Nat → Prop, ∃ j : Nat, R0 1 = Mv ∧ R0 5 = .pointer (some ⟨g7, 0, none⟩) ∧ R0 6 = v9 ∧ R0 7 = .int .i64 ((j : Int)) ∧ Now w none_ w0' [.own str 9 (v9) (names d1.fs), dskA 64 71 23 g7 (syncD d1 j) B2] ∧ (j + k = d1.fs.length)) (d1.fs.length) ?_ ?_
        · skip
          exact ⟨B8, 0, rfl, rfl, rfl, rfl, hN, by omega⟩
        · skip
          clear hN
          rintro k R0 w0' ⟨B2, j, hr1_, hr5_, hr6_, hr7_, hN, hjk⟩
          have hR_ : ∃ R0_, R0 = (upd (upd (upd (upd R0_ 1 _) 5 _) 6 _) 7 _) := ⟨R0, by rw [upd_self hr1_, upd_self hr5_, upd_self hr6_, upd_self hr7_]⟩
          obtain ⟨R0_, rfl⟩ := hR_
          clear hr1_ hr5_ hr6_ hr7_
          refine RW.seq ?_
          refine RW.seq ?_
          refine RW.region ?_
          refine RL.ev rfl rfl ev_move ?_
          refine RL.ev rfl rfl ev_move ?_
          have hL_10 := (hN.sl 0 rfl).len_le
          refine RL.ev rfl rfl (ev_lenS Try.underlying36 (hN.sl 0 rfl) rfl) ?_
          refine RL.ev rfl rfl (ev_lss rfl rfl) ?_
          refine RL.nil ?_
          refine thenN ?_
          refine RW.condP _ rfl (fun hlt => ?_) (fun hlt => ?_)
          · skip
            refine RW.skip ?_
            refine thenN ?_
            refine RW.seq ?_
            refine RW.block ?_
            refine RW.seq ?_
            refine RW.region ?_
            refine RL.ev rfl rfl ev_move ?_
            refine RL.ev rfl rfl ev_move ?_
            refine RL.ev rfl rfl ev_move ?_
            refine RL.ev rfl rfl (ev_index Try.underlying36 sz9 (hN.sl 0 rfl) rfl rfl (by omega) (by omega)) ?_
            have hOb_ : ∃ a_, ((names d1.fs))[j]? = some a_ := ⟨_, List.getElem?_eq_getElem (by omega)⟩
            obtain ⟨ae, hae⟩ := hOb_
            refine RL.ev rfl rfl (ev_loadG (m := j) (a := ae) Try.underlying9 rfl (hN.sl 0 rfl) rfl hae) ?_
            have hst : act (syncD d1 j) ⟨2, ae, [], []⟩ = (syncD d1 (j + 1), 0) := by
              have hOb_ := names_get hae
              obtain ⟨f, hf, hfn⟩ := hOb_
              rw [← hfn]; exact sync_step hfit1 hf
            have hst1 : (act (syncD d1 j) ⟨2, ae, [], []⟩).1 = syncD d1 (j + 1) := by rw [hst]
            refine RL.ev rfl rfl (ev_buildL (cs := [.int .i64 (2), (str ae), .string ByteArray.empty, .slice none 0 0]) Try.underlying33 zero33 (places := #[(0, 1), (1, 1), (2, 1), (3, 1)]) (by intro w; kernel_rfl) (pl := [(0, .const (.int .i64 (2))), (1, .tmp 45)]) rfl (ps := [(0, .int .i64 (2)), (1, (str ae))]) rfl (zc := [.int .i64 (0), .string ByteArray.empty, .string ByteArray.empty, .slice none 0 0]) rfl (fill_step (vs := [.int .i64 (2)]) rfl rfl (Nat.le_of_ble_eq_true rfl) (fill_step (vs := [(str ae)]) rfl rfl (Nat.le_of_ble_eq_true rfl) rfl))) ?_
            refine RL.op rfl rfl (op_call2 Try.func14 rfl rfl rfl rfl ((do_calls g7 (syncD d1 j) B2 xs.length (⟨2, ae, [], []⟩ : Disk.Op) nilH _ (hN.pickL (M := [_]) [1] (by decide) rfl) (sync_fits hfit1 j) (by omega) (SlO.at (SlO.nil _ _ _) hN 1 rfl) (Nat.zero_le _) _ rfl).mono ?_))
            rintro _ w11 ⟨B11, rfl, hC_⟩
            have hN_ := Now.callA (M := [_]) (N := [_]) (hN.sub [1, 0] (by decide) rfl) hC_
            clear hC_
            clear hN
            have hN : Now w none_ w11 [_, _] := hN_
            clear hN_
            replace hN : Now w none_ w11 [dskA 64 71 23 g7 ((act (syncD d1 j) (⟨2, ae, [], []⟩ : Disk.Op)).1) B11, .own str 9 (v9) (names d1.fs)] := hN
            refine RL.ev rfl rfl (ev_false (ev_neq rfl rfl) (fun h => h (by rw [hst]))) ?_
            refine RL.nil ?_
            refine thenN ?_
            refine RW.condF rfl ?_
            refine RW.skip ?_
            refine blockN ?_
            refine thenN ?_
            refine RW.region ?_
            refine RL.ev rfl rfl ev_move ?_
            refine RL.ev rfl rfl (ev_arith rfl rfl rfl (add64 (by omega) (by omega))) ?_
            refine RL.ev rfl rfl ev_assign ?_
            refine RL.nil ?_
            refine thenN ?_
            rw [hst1] at hN
            replace hN : Now w none_ w11 [dskA 64 71 23 g7 (syncD d1 (j + 1)) B11, .own str 9 (v9) (names d1.fs)] := hN
            exact ⟨k - 1, by omega, B11, j + 1, rfl, rfl, rfl, rfl, (hN.sub [1, 0] (by decide) rfl), by omega⟩
          · skip
            refine RW.exit ?_
            refine thenX ?_
            refine thenX ?_
            refine blockHit ?_
            refine thenN ?_
            refine RW.seq ?_
            have hj_ : j = d1.fs.length := by omega
            have hlo := (sync_loose d1.fs d1.fs.length).2 (Nat.le_refl _)
            rw [hj_] at hN
            replace hN : Now w none_ w0' [.own str 9 (v9) (names d1.fs), dskA 64 71 23 g7 (syncD d1 d1.fs.length) B2] := hN
            refine RW.region ?_
            refine RL.ev rfl rfl ev_move ?_
            refine RL.op rfl rfl (op_call1 Try.func27 rfl rfl rfl ((copy_disk g7 (syncD d1 d1.fs.length) _ _ (dsk_says (hN.says 1 _ rfl)) (sync_fits hfit1 d1.fs.length) (by omega)).mono ?_))
            rintro _ w12 ⟨g12, B12, rfl, hC_⟩
            have hN_ := hN.call0 hC_
            clear hC_
            clear hN
            have hN : Now w none_ w12 [_, _, _] := hN_
            clear hN_
            replace hN : Now w none_ w12 [dskA 64 71 23 g12 (syncD d1 d1.fs.length) B12, .own str 9 (v9) (names d1.fs), dskA 64 71 23 g7 (syncD d1 d1.fs.length) B2] := hN
            refine RL.ev rfl rfl ev_assign ?_
            refine RL.nil ?_
            refine thenN ?_
            refine RW.seq ?_
            refine RW.region ?_
            refine RL.ev rfl rfl ev_move ?_
            refine RL.op rfl rfl (op_call1 Try.func24 rfl rfl rfl ((size_calls _ (syncD d1 d1.fs.length) _ _ (dsk_says (hN.says 2 _ rfl)) (sync_fits hfit1 d1.fs.length) (by omega)).mono ?_))
            rintro _ w13 ⟨rfl, he_⟩
            replace hN := hN.ext he_
            clear he_
            refine RL.ev rfl rfl ev_assign ?_
            refine RL.nil ?_
            refine thenN ?_
            refine RW.seq ?_
            refine RW.seq ?_
            refine RW.region ?_
            refine RL.ev rfl rfl ev_move ?_
            refine RL.op rfl rfl (op_call1 Try.func25 rfl rfl rfl ((loose_calls _ (syncD d1 d1.fs.length) _ _ (dsk_says (hN.says 2 _ rfl)) (sync_fits hfit1 d1.fs.length) (by omega)).mono ?_))
            rintro _ w14 ⟨rfl, he_⟩
            replace hN := hN.ext he_
            clear he_
            refine RL.ev rfl rfl (ev_false (ev_neq rfl rfl) (fun h => h (by rw [show loose (syncD d1 d1.fs.length).fs = 0 from hlo]; rfl))) ?_
            refine RL.nil ?_
            refine thenN ?_
            refine RW.condF rfl ?_
            refine RW.skip ?_
            refine thenN ?_
            refine RW.seq ?_
            refine RW.region ?_
            refine RL.ev rfl rfl ev_move ?_
            refine RL.ev rfl rfl ev_move ?_
            refine RL.op rfl rfl (op_call2 Try.func17 rfl rfl rfl rfl ((crash_calls g7 (syncD d1 d1.fs.length) B2 xs.length _ ms _ (hN.pickL (M := [_]) [2] (by decide) rfl) (sync_fits hfit1 d1.fs.length) (by omega) (SlO.at hM.o hN 2 rfl)).mono ?_))
            rintro _ w15 ⟨B15, rfl, hC_⟩
            have hN_ := Now.callA (M := [_]) (N := [_, _]) (hN.sub [2, 0, 1] (by decide) rfl) hC_
            clear hC_
            clear hN
            have hN : Now w none_ w15 [_, _, _] := hN_
            clear hN_
            replace hN : Now w none_ w15 [dskA 64 71 23 g7 (⟨(syncD d1 d1.fs.length).room, crash ms (syncD d1 d1.fs.length).fs⟩ : Dk) B15, dskA 64 71 23 g12 (syncD d1 d1.fs.length) B12, .own str 9 (v9) (names d1.fs)] := hN
            rw [crash_sync d1 ms] at hN
            replace hN : Now w none_ w15 [dskA 64 71 23 g7 (syncD d1 d1.fs.length) B15, dskA 64 71 23 g12 (syncD d1 d1.fs.length) B12, .own str 9 (v9) (names d1.fs)] := hN
            refine RL.nil ?_
            refine thenN ?_
            refine RW.seq ?_
            refine RW.seq ?_
            refine RW.region ?_
            refine RL.ev rfl rfl ev_assign ?_
            refine RL.nil ?_
            refine thenN ?_
            refine RW.block ?_
            refine RW.loop (fun k2 R1 w1' => ∃ q : Nat, R1 5 = .pointer (some ⟨g7, 0, none⟩) ∧ R1 6 = v9 ∧ R1 8 = .pointer (some ⟨g12, 0, none⟩) ∧ R1 9 = .int .i64 (((size (syncD d1 d1.fs.length).fs : Nat) : Int)) ∧ R1 10 = .int .i64 ((q : Int)) ∧ Now w none_ w1' [dskA 64 71 23 g7 (syncD d1 d1.fs.length) B15, dskA 64 71 23 g12 (syncD d1 d1.fs.length) B12, .own str 9 (v9) (names d1.fs)] ∧ (q + k2 = d1.fs.length)) (d1.fs.length) ?_ ?_
            · skip
              exact ⟨0, rfl, rfl, rfl, rfl, rfl, hN, by omega⟩
            · skip
              clear hN
              rintro k2 R1 w1' ⟨q, hr5_, hr6_, hr8_, hr9_, hr10_, hN, hqk⟩
              have hR_ : ∃ R1_, R1 = (upd (upd (upd (upd (upd R1_ 5 _) 6 _) 8 _) 9 _) 10 _) := ⟨R1, by rw [upd_self hr5_, upd_self hr6_, upd_self hr8_, upd_self hr9_, upd_self hr10_]⟩
              obtain ⟨R1_, rfl⟩ := hR_
              clear hr5_ hr6_ hr8_ hr9_ hr10_
              refine RW.seq ?_
              refine RW.seq ?_
              refine RW.region ?_
              refine RL.ev rfl rfl ev_move ?_
              refine RL.ev rfl rfl ev_move ?_
              refine RL.ev rfl rfl (ev_lenS Try.underlying36 (hN.sl 2 rfl) rfl) ?_
              refine RL.ev rfl rfl (ev_lss rfl rfl) ?_
              refine RL.nil ?_
              refine thenN ?_
              refine RW.condP _ rfl (fun hlt2 => ?_) (fun hlt2 => ?_)
              · skip
                refine RW.skip ?_
                refine thenN ?_
                refine RW.seq ?_
                refine RW.block ?_
                refine RW.seq ?_
                refine RW.region ?_
                refine RL.ev rfl rfl ev_move ?_
                refine RL.ev rfl rfl ev_move ?_
                refine RL.ev rfl rfl ev_move ?_
                refine RL.ev rfl rfl (ev_index Try.underlying36 sz9 (hN.sl 2 rfl) rfl rfl (by omega) (by omega)) ?_
                have hOb_ : ∃ a_, ((names d1.fs))[q]? = some a_ := ⟨_, List.getElem?_eq_getElem (by omega)⟩
                obtain ⟨ap, hap⟩ := hOb_
                refine RL.ev rfl rfl (ev_loadG (m := q) (a := ap) Try.underlying9 rfl (hN.sl 2 rfl) rfl hap) ?_
                refine RL.op rfl rfl (op_call2 Try.func15 rfl rfl rfl rfl ((read_calls _ (syncD d1 d1.fs.length) ap _ _ (dsk_says (hN.says 0 _ rfl)) (sync_fits hfit1 d1.fs.length) (by omega) _ rfl).mono ?_))
                rintro _ w16 ⟨v16, rfl, ho_, he_⟩
                have hN_ := hN.pushOwn ho_ he_
                clear ho_ he_
                clear hN
                have hN : Now w none_ w16 [_, _, _, _] := hN_
                clear hN_
                refine RL.ev rfl rfl ev_move ?_
                refine RL.ev rfl rfl (ev_extract rfl rfl) ?_
                refine RL.ev rfl rfl (ev_extract rfl rfl) ?_
                refine RL.ev rfl rfl ev_assign ?_
                refine RL.ev rfl rfl ev_assign ?_
                refine RL.nil ?_
                refine thenN ?_
                refine RW.seq ?_
                refine RW.region ?_
                refine RL.ev rfl rfl ev_move ?_
                refine RL.ev rfl rfl ev_move ?_
                refine RL.ev rfl rfl ev_move ?_
                refine RL.ev rfl rfl (ev_index Try.underlying36 sz9 (hN.sl 3 rfl) rfl rfl (by omega) (by omega)) ?_
                have hOb_ : ∃ a_, ((names d1.fs))[q]? = some a_ := ⟨_, List.getElem?_eq_getElem (by omega)⟩
                obtain ⟨ar, har⟩ := hOb_
                refine RL.ev rfl rfl (ev_loadG (m := q) (a := ar) Try.underlying9 rfl (hN.sl 3 rfl) rfl har) ?_
                refine RL.op rfl rfl (op_call2 Try.func15 rfl rfl rfl rfl ((read_calls _ (syncD d1 d1.fs.length) ar _ _ (dsk_says (hN.says 2 _ rfl)) (sync_fits hfit1 d1.fs.length) (by omega) _ rfl).mono ?_))
                rintro _ w17 ⟨v17, rfl, ho_, he_⟩
                have hN_ := hN.pushOwn ho_ he_
                clear ho_ he_
                clear hN
                have hN : Now w none_ w17 [_, _, _, _, _] := hN_
                clear hN_
                refine RL.ev rfl rfl ev_move ?_
                refine RL.ev rfl rfl (ev_extract rfl rfl) ?_
                refine RL.ev rfl rfl (ev_extract rfl rfl) ?_
                refine RL.ev rfl rfl ev_assign ?_
                refine RL.ev rfl rfl ev_assign ?_
                refine RL.nil ?_
                refine thenN ?_
                refine RW.seq ?_
                refine RW.region ?_
                refine RL.ev rfl rfl ev_move ?_
                refine RL.ev rfl rfl ev_move ?_
                refine RL.op rfl rfl (op_call2 Try.func18 rfl rfl rfl rfl ((same_true (hN.sl 1 rfl) (hN.sl 0 rfl) (by rw [show ap = ar from Option.some.inj (hap.symm.trans har)])).mono ?_))
                rintro _ _ ⟨rfl, rfl⟩
                refine RL.ev rfl rfl (ev_not rfl) ?_
                refine RL.nil ?_
                refine thenN ?_
                refine RW.condF rfl ?_
                refine RW.skip ?_
                refine blockN ?_
                refine thenN ?_
                refine RW.region ?_
                refine RL.ev rfl rfl ev_move ?_
                refine RL.ev rfl rfl (ev_arith rfl rfl rfl (add64 (by omega) (by omega))) ?_
                refine RL.ev rfl rfl ev_assign ?_
                refine RL.nil ?_
                refine thenN ?_
                exact ⟨k2 - 1, by omega, q + 1, rfl, rfl, rfl, rfl, rfl, (hN.sub [2, 3, 4] (by decide) rfl), by omega⟩
              · skip
                refine RW.exit ?_
                refine thenX ?_
                refine thenX ?_
                refine blockHit ?_
                refine thenN ?_
                refine RW.seq ?_
                refine RW.region ?_
                refine RL.ev rfl rfl ev_move ?_
                refine RL.op rfl rfl (op_call1 Try.func24 rfl rfl rfl ((size_calls _ (syncD d1 d1.fs.length) _ _ (dsk_says (hN.says 0 _ rfl)) (sync_fits hfit1 d1.fs.length) (by omega)).mono ?_))
                rintro _ w19 ⟨rfl, he_⟩
                replace hN := hN.ext he_
                clear he_
                refine RL.ev rfl rfl ev_move ?_
                refine RL.ev rfl rfl (ev_true (ev_eql rfl rfl) rfl) ?_
                refine RL.ev rfl rfl ev_move ?_
                refine RL.onEv rfl rfl (by decide) rfl rfl ev_move ?_
                refine RL.on rfl rfl (by decide) rfl rfl (op_call1 Try.func16 rfl rfl rfl ((names_calls _ (syncD d1 d1.fs.length) _ _ (dsk_says (hN.says 0 _ rfl)) (sync_fits hfit1 d1.fs.length) (by omega)).mono ?_))
                rintro v20 w20 ⟨ho_, he_⟩
                have hN_ := hN.pushOwn (l := names (syncD d1 d1.fs.length).fs) ho_ he_
                clear ho_ he_
                clear hN
                have hN : Now w none_ w20 [_, _, _, _] := hN_
                clear hN_
                refine RL.onEv rfl rfl (by decide) rfl rfl ev_move ?_
                refine RL.on rfl rfl (by decide) rfl rfl (op_call2 Try.func19 rfl rfl rfl rfl ((sameNames_true (hN.sl 0 rfl) (hN.sl 3 rfl) (sync_names _ _)).mono ?_))
                rintro _ w21 ⟨rfl, he_⟩
                replace hN := hN.ext he_
                clear he_
                refine RL.ev rfl rfl (ev_pickT rfl) ?_
                refine RL.ev rfl rfl ev_move ?_
                refine RL.on rfl rfl (by decide) rfl rfl (op_call0 Try.func11 rfl rfl ((known_calls _).mono ?_))
                rintro _ w22 ⟨rfl, he_⟩
                replace hN := hN.ext he_
                clear he_
                refine RL.ev rfl rfl (ev_pickT rfl) ?_
                refine RL.ev rfl rfl ev_assign ?_
                refine RL.nil ?_
                refine thenN ?_
                refine RW.ret ?_
                refine retI (RV.tmp rfl) ?_
                exact ⟨rfl, hN.ext0⟩

end Go.Proofs.Ytlblpiapeieofaa
