import Derived.Test.YtlblpiapeieofaaDiskL0
import Derived.Test.YtlblpiapeieofaaDiskOpen
import Derived.Test.YtlblpiapeieofaaDiskPlain2
set_option linter.unusedVariables false
set_option linter.unusedSimpArgs false
namespace Go.Proofs.Ytlblpiapeieofaa
open Go.RowKit Go.Rl

open Go.Disk
set_option maxHeartbeats 4000000 in
set_option maxRecDepth 100000 in
/-- postroad/postroadlaw04.DiskRenames -/
theorem diskRenames_calls (Lv : Value) (os : List OH) (xs : List Disk.Op) (an bn : List UInt8) (w : World) (hL : Sm ocells w Lv os) (hel : OEls none_ w os xs) (hS0 : ∀ x ∈ xs, SmallOp x) : Gives Try.prog 4 #[Lv, (str an), (str bn)] w fun r w' => r = .bool true ∧ Ext w w' := by
  refine Gives.start Try.func4 rfl (Nat.le_of_ble_eq_true rfl) ?_
  rw [args3]
  have hN := Now.nil w none_
  have hle := hel.1
  have hB : ∀ x ∈ xs, x.data.length ≤ 140737488355328 ∧ x.name.length ≤ 140737488355328 ∧ x.to.length ≤ 140737488355328 := fun x hx => ⟨by have := (hS0 x hx).1; omega, by have := (hS0 x hx).2.1; omega, by have := (hS0 x hx).2.2; omega⟩
  refine RW.seq ?_
  refine RW.region ?_
  refine RL.ev rfl rfl ev_assign ?_
  refine RL.nil ?_
  refine thenN ?_
  refine RW.seq ?_
  refine RW.seq ?_
  refine RW.region ?_
  refine RL.ev rfl rfl ev_move ?_
  refine RL.op rfl rfl (op_call1 Try.func10 rfl rfl rfl ((long_calls _ os xs _ (hL.o.now hN) (OEls.nowN hel hN) hB).mono ?_))
  rintro _ w1 ⟨z1, rfl, hz1, he_⟩
  replace hN := hN.ext he_
  clear he_
  refine RL.ev rfl rfl (ev_gtr rfl rfl) ?_
  refine RL.ev rfl rfl ev_move ?_
  by_cases hg1_3 : 800 < z1
  · skip
    rw [decide_eq_true hg1_3]
    refine RL.off rfl rfl (by decide) rfl rfl ?_
    refine RL.off rfl rfl (by decide) rfl rfl ?_
    refine RL.off rfl rfl (by decide) rfl rfl ?_
    refine RL.ev rfl rfl (ev_pickT rfl) ?_
    refine RL.ev rfl rfl ev_move ?_
    refine RL.off rfl rfl (by decide) rfl rfl ?_
    refine RL.off rfl rfl (by decide) rfl rfl ?_
    refine RL.off rfl rfl (by decide) rfl rfl ?_
    refine RL.ev rfl rfl (ev_pickT rfl) ?_
    refine RL.ev rfl rfl ev_move ?_
    refine RL.off rfl rfl (by decide) rfl rfl ?_
    refine RL.off rfl rfl (by decide) rfl rfl ?_
    refine RL.off rfl rfl (by decide) rfl rfl ?_
    refine RL.ev rfl rfl (ev_pickT rfl) ?_
    refine RL.ev rfl rfl ev_move ?_
    refine RL.off rfl rfl (by decide) rfl rfl ?_
    refine RL.off rfl rfl (by decide) rfl rfl ?_
    refine RL.off rfl rfl (by decide) rfl rfl ?_
    refine RL.ev rfl rfl (ev_pickT rfl) ?_
    refine RL.ev rfl rfl ev_move ?_
    refine RL.off rfl rfl (by decide) rfl rfl ?_
    refine RL.off rfl rfl (by decide) rfl rfl ?_
    refine RL.off rfl rfl (by decide) rfl rfl ?_
    refine RL.ev rfl rfl (ev_pickT rfl) ?_
    refine RL.nil ?_
    refine thenN ?_
    refine RW.condT rfl ?_
    refine RW.seq ?_
    refine RW.region ?_
    refine RL.op rfl rfl (op_call0 Try.func11 rfl rfl ((known_calls _).mono ?_))
    rintro _ w2 ⟨rfl, he_⟩
    replace hN := hN.ext he_
    clear he_
    refine RL.ev rfl rfl ev_assign ?_
    refine RL.nil ?_
    refine thenN ?_
    refine RW.ret ?_
    refine thenR ?_
    refine retI (RV.tmp rfl) ?_
    exact ⟨rfl, hN.ext0⟩
  · skip
    rw [decide_eq_false hg1_3]
    refine RL.onEv rfl rfl (by decide) rfl rfl ev_move ?_
    have hL_3 := (hL.o.now hN).len_le
    refine RL.onEv rfl rfl (by decide) rfl rfl (ev_lenM Try.underlying22 (hL.o.now hN) rfl) ?_
    refine RL.onEv rfl rfl (by decide) rfl rfl (ev_gtr rfl rfl) ?_
    refine RL.ev rfl rfl (ev_pickF rfl) ?_
    refine RL.ev rfl rfl ev_move ?_
    by_cases hg1_8 : 50 < (os.length : Int)
    · skip
      rw [decide_eq_true hg1_8]
      refine RL.off rfl rfl (by decide) rfl rfl ?_
      refine RL.off rfl rfl (by decide) rfl rfl ?_
      refine RL.off rfl rfl (by decide) rfl rfl ?_
      refine RL.ev rfl rfl (ev_pickT rfl) ?_
      refine RL.ev rfl rfl ev_move ?_
      refine RL.off rfl rfl (by decide) rfl rfl ?_
      refine RL.off rfl rfl (by decide) rfl rfl ?_
      refine RL.off rfl rfl (by decide) rfl rfl ?_
      refine RL.ev rfl rfl (ev_pickT rfl) ?_
      refine RL.ev rfl rfl ev_move ?_
      refine RL.off rfl rfl (by decide) rfl rfl ?_
      refine RL.off rfl rfl (by decide) rfl rfl ?_
      refine RL.off rfl rfl (by decide) rfl rfl ?_
      refine RL.ev rfl rfl (ev_pickT rfl) ?_
      refine RL.ev rfl rfl ev_move ?_
      refine RL.off rfl rfl (by decide) rfl rfl ?_
      refine RL.off rfl rfl (by decide) rfl rfl ?_
      refine RL.off rfl rfl (by decide) rfl rfl ?_
      refine RL.ev rfl rfl (ev_pickT rfl) ?_
      refine RL.nil ?_
      refine thenN ?_
      refine RW.condT rfl ?_
      refine RW.seq ?_
      refine RW.region ?_
      refine RL.op rfl rfl (op_call0 Try.func11 rfl rfl ((known_calls _).mono ?_))
      rintro _ w4 ⟨rfl, he_⟩
      replace hN := hN.ext he_
      clear he_
      refine RL.ev rfl rfl ev_assign ?_
      refine RL.nil ?_
      refine thenN ?_
      refine RW.ret ?_
      refine thenR ?_
      refine retI (RV.tmp rfl) ?_
      exact ⟨rfl, hN.ext0⟩
    · skip
      rw [decide_eq_false hg1_8]
      refine RL.onEv rfl rfl (by decide) rfl rfl ev_move ?_
      refine RL.onEv rfl rfl (by decide) rfl rfl (ev_lenS' Try.underlying9 rfl) ?_
      refine RL.onEv rfl rfl (by decide) rfl rfl (ev_lss rfl rfl) ?_
      refine RL.ev rfl rfl (ev_pickF rfl) ?_
      refine RL.ev rfl rfl ev_move ?_
      by_cases hg1_13 : (an.length : Int) < 1
      · skip
        rw [decide_eq_true hg1_13]
        refine RL.off rfl rfl (by decide) rfl rfl ?_
        refine RL.off rfl rfl (by decide) rfl rfl ?_
        refine RL.off rfl rfl (by decide) rfl rfl ?_
        refine RL.ev rfl rfl (ev_pickT rfl) ?_
        refine RL.ev rfl rfl ev_move ?_
        refine RL.off rfl rfl (by decide) rfl rfl ?_
        refine RL.off rfl rfl (by decide) rfl rfl ?_
        refine RL.off rfl rfl (by decide) rfl rfl ?_
        refine RL.ev rfl rfl (ev_pickT rfl) ?_
        refine RL.ev rfl rfl ev_move ?_
        refine RL.off rfl rfl (by decide) rfl rfl ?_
        refine RL.off rfl rfl (by decide) rfl rfl ?_
        refine RL.off rfl rfl (by decide) rfl rfl ?_
        refine RL.ev rfl rfl (ev_pickT rfl) ?_
        refine RL.nil ?_
        refine thenN ?_
        refine RW.condT rfl ?_
        refine RW.seq ?_
        refine RW.region ?_
        refine RL.op rfl rfl (op_call0 Try.func11 rfl rfl ((known_calls _).mono ?_))
        rintro _ w5 ⟨rfl, he_⟩
        replace hN := hN.ext he_
        clear he_
        refine RL.ev rfl rfl ev_assign ?_
        refine RL.nil ?_
        refine thenN ?_
        refine RW.ret ?_
        refine thenR ?_
        refine retI (RV.tmp rfl) ?_
        exact ⟨rfl, hN.ext0⟩
      · skip
        rw [decide_eq_false hg1_13]
        refine RL.onEv rfl rfl (by decide) rfl rfl ev_move ?_
        refine RL.onEv rfl rfl (by decide) rfl rfl (ev_lenS' Try.underlying9 rfl) ?_
        refine RL.onEv rfl rfl (by decide) rfl rfl (ev_gtr rfl rfl) ?_
        refine RL.ev rfl rfl (ev_pickF rfl) ?_
        refine RL.ev rfl rfl ev_move ?_
        by_cases hg1_18 : 60 < (an.length : Int)
        · skip
          rw [decide_eq_true hg1_18]
          refine RL.off rfl rfl (by decide) rfl rfl ?_
          refine RL.off rfl rfl (by decide) rfl rfl ?_
          refine RL.off rfl rfl (by decide) rfl rfl ?_
          refine RL.ev rfl rfl (ev_pickT rfl) ?_
          refine RL.ev rfl rfl ev_move ?_
          refine RL.off rfl rfl (by decide) rfl rfl ?_
          refine RL.off rfl rfl (by decide) rfl rfl ?_
          refine RL.off rfl rfl (by decide) rfl rfl ?_
          refine RL.ev rfl rfl (ev_pickT rfl) ?_
          refine RL.nil ?_
          refine thenN ?_
          refine RW.condT rfl ?_
          refine RW.seq ?_
          refine RW.region ?_
          refine RL.op rfl rfl (op_call0 Try.func11 rfl rfl ((known_calls _).mono ?_))
          rintro _ w6 ⟨rfl, he_⟩
          replace hN := hN.ext he_
          clear he_
          refine RL.ev rfl rfl ev_assign ?_
          refine RL.nil ?_
          refine thenN ?_
          refine RW.ret ?_
          refine thenR ?_
          refine retI (RV.tmp rfl) ?_
          exact ⟨rfl, hN.ext0⟩
        · skip
          rw [decide_eq_false hg1_18]
          refine RL.onEv rfl rfl (by decide) rfl rfl ev_move ?_
          refine RL.onEv rfl rfl (by decide) rfl rfl (ev_lenS' Try.underlying9 rfl) ?_
          refine RL.onEv rfl rfl (by decide) rfl rfl (ev_lss rfl rfl) ?_
          refine RL.ev rfl rfl (ev_pickF rfl) ?_
          refine RL.ev rfl rfl ev_move ?_
          by_cases hg1_23 : (bn.length : Int) < 1
          · skip
            rw [decide_eq_true hg1_23]
            refine RL.off rfl rfl (by decide) rfl rfl ?_
            refine RL.off rfl rfl (by decide) rfl rfl ?_
            refine RL.off rfl rfl (by decide) rfl rfl ?_
            refine RL.ev rfl rfl (ev_pickT rfl) ?_
            refine RL.nil ?_
            refine thenN ?_
            refine RW.condT rfl ?_
            refine RW.seq ?_
            refine RW.region ?_
            refine RL.op rfl rfl (op_call0 Try.func11 rfl rfl ((known_calls _).mono ?_))
            rintro _ w7 ⟨rfl, he_⟩
            replace hN := hN.ext he_
            clear he_
            refine RL.ev rfl rfl ev_assign ?_
            refine RL.nil ?_
            refine thenN ?_
            refine RW.ret ?_
            refine thenR ?_
            refine retI (RV.tmp rfl) ?_
            exact ⟨rfl, hN.ext0⟩
          · skip
            rw [decide_eq_false hg1_23]
            refine RL.onEv rfl rfl (by decide) rfl rfl ev_move ?_
            refine RL.onEv rfl rfl (by decide) rfl rfl (ev_lenS' Try.underlying9 rfl) ?_
            refine RL.onEv rfl rfl (by decide) rfl rfl (ev_gtr rfl rfl) ?_
            refine RL.ev rfl rfl (ev_pickF rfl) ?_
            refine RL.nil ?_
            refine thenN ?_
            refine RW.condP _ rfl (fun hc46 => ?_) (fun hc46 => ?_)
            · skip
              refine RW.seq ?_
              refine RW.region ?_
              refine RL.op rfl rfl (op_call0 Try.func11 rfl rfl ((known_calls _).mono ?_))
              rintro _ w8 ⟨rfl, he_⟩
              replace hN := hN.ext he_
              clear he_
              refine RL.ev rfl rfl ev_assign ?_
              refine RL.nil ?_
              refine thenN ?_
              refine RW.ret ?_
              refine thenR ?_
              refine retI (RV.tmp rfl) ?_
              exact ⟨rfl, hN.ext0⟩
            · skip
              refine RW.skip ?_
              refine thenN ?_
              refine RW.seq ?_
              have h60 : xs.length ≤ 50 := by omega
              have hzl := hz1 (by omega)
              have hdl : ∀ x ∈ xs, x.data.length ≤ 1099511627776 := fun x hx => by have := longT_mem hx; omega
              have hna : Disk.named an := ⟨by omega, by omega⟩
              have hnb : Disk.named bn := ⟨by omega, by omega⟩
              refine RW.region ?_
              refine RL.op rfl rfl (op_call1 Try.func12 rfl rfl rfl ((new_calls (5000) _ (by decide) (by decide)).mono ?_))
              rintro _ w9 ⟨g9, B9, rfl, hC_⟩
              have hN_ := hN.call0 hC_
              clear hC_
              clear hN
              have hN : Now w none_ w9 [_] := hN_
              clear hN_
              replace hN : Now w none_ w9 [dskA 64 71 23 g9 (⟨5000, []⟩ : Dk) B9] := hN
              refine RL.ev rfl rfl ev_assign ?_
              refine RL.nil ?_
              refine thenN ?_
              refine RW.seq ?_
              refine RW.region ?_
              refine RL.ev rfl rfl ev_move ?_
              refine RL.ev rfl rfl ev_move ?_
              refine RL.op rfl rfl (op_call2 Try.func13 rfl rfl rfl rfl ((run_calls g9 (⟨5000, []⟩ : Dk) B9 0 _ os xs _ (hN.pickL (M := [_]) [0] (by decide) rfl) (Fits.new (by decide) (by decide)) (by omega) (SmO.at ocells_ne hL.o hN 0 rfl) (OEls.at hel hN 0 rfl) hdl _ rfl).mono ?_))
              rintro _ w10 ⟨B10, rfl, hC_⟩
              have hN_ := Now.callA (M := [_]) (N := []) (hN.sub [0] (by decide) rfl) hC_
              clear hC_
              clear hN
              have hN : Now w none_ w10 [_] := hN_
              clear hN_
              replace hN : Now w none_ w10 [dskA 64 71 23 g9 ((run (⟨5000, []⟩ : Dk) xs).1) B10] := hN
              have hfit1 : Fits xs.length (run (⟨5000, []⟩ : Dk) xs).1 := by have h := run_fits xs (Fits.new (room := 5000) (by decide) (by decide)); rw [Nat.zero_add] at h; exact h
              have hrs1 : size (run (⟨5000, []⟩ : Dk) xs).1.fs ≤ longT xs := by have h := run_size xs (d := ⟨5000, []⟩) List.Pairwise.nil; exact Nat.le_trans h (by show size [] + _ ≤ _; rw [show size [] = 0 from rfl]; omega)
              have hrr1 : (run (⟨5000, []⟩ : Dk) xs).1.room = 5000 := run_room xs _
              generalize (run (⟨5000, []⟩ : Dk) xs).1 = d1 at hN hfit1 hrs1 hrr1
              replace hN : Now w none_ w10 [dskA 64 71 23 g9 d1 B10] := hN
              refine RL.nil ?_
              refine thenN ?_
              refine RW.seq ?_
              have hOb_ := opt_cases (find an d1.fs)
              rcases hOb_ with hfd | ⟨f, hfd⟩
              · skip
                have hOb_ := renames_none hna hnb hfd
                obtain ⟨hx1, hx2, hx3⟩ := hOb_
                refine RW.region ?_
                refine RL.ev rfl rfl ev_move ?_
                refine RL.ev rfl rfl ev_move ?_
                refine RL.op rfl rfl (op_call2 Try.func15 rfl rfl rfl rfl ((read_calls _ d1 an _ _ (dsk_says (hN.says 0 _ rfl)) hfit1 (by omega) _ rfl).mono ?_))
                rintro _ w11 ⟨v11, rfl, ho_, he_⟩
                have hN_ := hN.pushOwn ho_ he_
                clear ho_ he_
                clear hN
                have hN : Now w none_ w11 [_, _] := hN_
                clear hN_
                refine RL.ev rfl rfl ev_move ?_
                refine RL.ev rfl rfl (ev_extract rfl rfl) ?_
                refine RL.ev rfl rfl (ev_extract rfl rfl) ?_
                refine RL.ev rfl rfl ev_assign ?_
                refine RL.ev rfl rfl ev_assign ?_
                refine RL.nil ?_
                refine thenN ?_
                refine RW.seq ?_
                refine RW.region ?_
                refine RL.ev rfl rfl ev_move ?_
                refine RL.op rfl rfl (op_call1 Try.func16 rfl rfl rfl ((names_calls _ d1 _ _ (dsk_says (hN.says 1 _ rfl)) hfit1 (by omega)).mono ?_))
                rintro v12 w12 ⟨ho_, he_⟩
                have hN_ := hN.pushOwn (l := names d1.fs) ho_ he_
                clear ho_ he_
                clear hN
                have hN : Now w none_ w12 [_, _, _] := hN_
                clear hN_
                refine RL.ev rfl rfl ev_assign ?_
                refine RL.nil ?_
                refine thenN ?_
                refine RW.seq ?_
                refine RW.region ?_
                refine RL.ev rfl rfl ev_move ?_
                refine RL.ev rfl rfl ev_move ?_
                refine RL.ev rfl rfl ev_move ?_
                refine RL.ev rfl rfl (ev_buildL (cs := [.int .i64 (3), (str an), (str bn), .slice none 0 0]) Try.underlying33 zero33 (places := #[(0, 1), (1, 1), (2, 1), (3, 1)]) (by intro w; kernel_rfl) (pl := [(0, .const (.int .i64 (3))), (1, .tmp 61), (2, .tmp 62)]) rfl (ps := [(0, .int .i64 (3)), (1, (str an)), (2, (str bn))]) rfl (zc := [.int .i64 (0), .string ByteArray.empty, .string ByteArray.empty, .slice none 0 0]) rfl (fill_step (vs := [.int .i64 (3)]) rfl rfl (Nat.le_of_ble_eq_true rfl) (fill_step (vs := [(str an)]) rfl rfl (Nat.le_of_ble_eq_true rfl) (fill_step (vs := [(str bn)]) rfl rfl (Nat.le_of_ble_eq_true rfl) rfl)))) ?_
                refine RL.op rfl rfl (op_call2 Try.func14 rfl rfl rfl rfl ((do_calls g9 d1 B10 xs.length (⟨3, an, bn, []⟩ : Disk.Op) nilH _ (hN.pickL (M := [_]) [2] (by decide) rfl) hfit1 (by omega) (SlO.at (SlO.nil _ _ _) hN 2 rfl) (Nat.zero_le _) _ rfl).mono ?_))
                rintro _ w13 ⟨B13, rfl, hC_⟩
                have hN_ := Now.callA (M := [_]) (N := [_, _]) (hN.sub [2, 0, 1] (by decide) rfl) hC_
                clear hC_
                clear hN
                have hN : Now w none_ w13 [_, _, _] := hN_
                clear hN_
                replace hN : Now w none_ w13 [dskA 64 71 23 g9 ((act d1 (⟨3, an, bn, []⟩ : Disk.Op)).1) B13, .own str 9 (v12) (names d1.fs), .own vb 5 (v11) ((read d1 an).1)] := hN
                refine RL.ev rfl rfl ev_assign ?_
                refine RL.nil ?_
                refine thenN ?_
                refine RW.seq ?_
                refine RW.seq ?_
                refine RW.region ?_
                refine RL.ev rfl rfl ev_move ?_
                refine RL.ev rfl rfl ev_move ?_
                refine RL.ev rfl rfl (ev_false (ev_neq rfl rfl) (fun h => h (by rw [hx1, hx3]))) ?_
                refine RL.nil ?_
                refine thenN ?_
                refine RW.condF rfl ?_
                refine RW.skip ?_
                refine thenN ?_
                refine RW.seq ?_
                refine RW.seq ?_
                refine RW.region ?_
                refine RL.ev rfl rfl ev_move ?_
                refine RL.ev rfl rfl (ev_true (ev_neq rfl rfl) (by rw [hx3]; decide)) ?_
                refine RL.nil ?_
                refine thenN ?_
                refine RW.condT rfl ?_
                refine RW.seq ?_
                refine RW.region ?_
                refine RL.ev rfl rfl ev_move ?_
                refine RL.ev rfl rfl (ev_true (ev_eql rfl rfl) hx1) ?_
                refine RL.ev rfl rfl ev_move ?_
                refine RL.onEv rfl rfl (by decide) rfl rfl ev_move ?_
                refine RL.on rfl rfl (by decide) rfl rfl (op_call1 Try.func16 rfl rfl rfl ((names_calls _ ((act d1 (⟨3, an, bn, []⟩ : Disk.Op)).1) _ _ (dsk_says (hN.says 0 _ rfl)) (hfit1.act (⟨3, an, bn, []⟩ : Disk.Op)) (by omega)).mono ?_))
                rintro v14 w14 ⟨ho_, he_⟩
                have hN_ := hN.pushOwn (l := names ((act d1 (⟨3, an, bn, []⟩ : Disk.Op)).1).fs) ho_ he_
                clear ho_ he_
                clear hN
                have hN : Now w none_ w14 [_, _, _, _] := hN_
                clear hN_
                refine RL.onEv rfl rfl (by decide) rfl rfl ev_move ?_
                refine RL.on rfl rfl (by decide) rfl rfl (op_call2 Try.func19 rfl rfl rfl rfl ((sameNames_true (hN.sl 0 rfl) (hN.sl 2 rfl) (by rw [hx2])).mono ?_))
                rintro _ w15 ⟨rfl, he_⟩
                replace hN := hN.ext he_
                clear he_
                refine RL.ev rfl rfl (ev_pickT rfl) ?_
                refine RL.ev rfl rfl ev_move ?_
                refine RL.on rfl rfl (by decide) rfl rfl (op_call0 Try.func11 rfl rfl ((known_calls _).mono ?_))
                rintro _ w16 ⟨rfl, he_⟩
                replace hN := hN.ext he_
                clear he_
                refine RL.ev rfl rfl (ev_pickT rfl) ?_
                refine RL.ev rfl rfl ev_assign ?_
                refine RL.nil ?_
                refine thenN ?_
                refine RW.ret ?_
                refine thenR ?_
                refine retI (RV.tmp rfl) ?_
                exact ⟨rfl, hN.ext0⟩
              · skip
                have hOb_ := renames hna hnb hfd
                obtain ⟨hx1, hx2, hx3, hx4, hx5, hx6⟩ := hOb_
                refine RW.region ?_
                refine RL.ev rfl rfl ev_move ?_
                refine RL.ev rfl rfl ev_move ?_
                refine RL.op rfl rfl (op_call2 Try.func15 rfl rfl rfl rfl ((read_calls _ d1 an _ _ (dsk_says (hN.says 0 _ rfl)) hfit1 (by omega) _ rfl).mono ?_))
                rintro _ w17 ⟨v17, rfl, ho_, he_⟩
                have hN_ := hN.pushOwn ho_ he_
                clear ho_ he_
                clear hN
                have hN : Now w none_ w17 [_, _] := hN_
                clear hN_
                refine RL.ev rfl rfl ev_move ?_
                refine RL.ev rfl rfl (ev_extract rfl rfl) ?_
                refine RL.ev rfl rfl (ev_extract rfl rfl) ?_
                refine RL.ev rfl rfl ev_assign ?_
                refine RL.ev rfl rfl ev_assign ?_
                refine RL.nil ?_
                refine thenN ?_
                refine RW.seq ?_
                refine RW.region ?_
                refine RL.ev rfl rfl ev_move ?_
                refine RL.op rfl rfl (op_call1 Try.func16 rfl rfl rfl ((names_calls _ d1 _ _ (dsk_says (hN.says 1 _ rfl)) hfit1 (by omega)).mono ?_))
                rintro v18 w18 ⟨ho_, he_⟩
                have hN_ := hN.pushOwn (l := names d1.fs) ho_ he_
                clear ho_ he_
                clear hN
                have hN : Now w none_ w18 [_, _, _] := hN_
                clear hN_
                refine RL.ev rfl rfl ev_assign ?_
                refine RL.nil ?_
                refine thenN ?_
                refine RW.seq ?_
                refine RW.region ?_
                refine RL.ev rfl rfl ev_move ?_
                refine RL.ev rfl rfl ev_move ?_
                refine RL.ev rfl rfl ev_move ?_
                refine RL.ev rfl rfl (ev_buildL (cs := [.int .i64 (3), (str an), (str bn), .slice none 0 0]) Try.underlying33 zero33 (places := #[(0, 1), (1, 1), (2, 1), (3, 1)]) (by intro w; kernel_rfl) (pl := [(0, .const (.int .i64 (3))), (1, .tmp 61), (2, .tmp 62)]) rfl (ps := [(0, .int .i64 (3)), (1, (str an)), (2, (str bn))]) rfl (zc := [.int .i64 (0), .string ByteArray.empty, .string ByteArray.empty, .slice none 0 0]) rfl (fill_step (vs := [.int .i64 (3)]) rfl rfl (Nat.le_of_ble_eq_true rfl) (fill_step (vs := [(str an)]) rfl rfl (Nat.le_of_ble_eq_true rfl) (fill_step (vs := [(str bn)]) rfl rfl (Nat.le_of_ble_eq_true rfl) rfl)))) ?_
                refine RL.op rfl rfl (op_call2 Try.func14 rfl rfl rfl rfl ((do_calls g9 d1 B10 xs.length (⟨3, an, bn, []⟩ : Disk.Op) nilH _ (hN.pickL (M := [_]) [2] (by decide) rfl) hfit1 (by omega) (SlO.at (SlO.nil _ _ _) hN 2 rfl) (Nat.zero_le _) _ rfl).mono ?_))
                rintro _ w19 ⟨B19, rfl, hC_⟩
                have hN_ := Now.callA (M := [_]) (N := [_, _]) (hN.sub [2, 0, 1] (by decide) rfl) hC_
                clear hC_
                clear hN
                have hN : Now w none_ w19 [_, _, _] := hN_
                clear hN_
                replace hN : Now w none_ w19 [dskA 64 71 23 g9 ((act d1 (⟨3, an, bn, []⟩ : Disk.Op)).1) B19, .own str 9 (v18) (names d1.fs), .own vb 5 (v17) ((read d1 an).1)] := hN
                refine RL.ev rfl rfl ev_assign ?_
                refine RL.nil ?_
                refine thenN ?_
                refine RW.seq ?_
                refine RW.seq ?_
                refine RW.region ?_
                refine RL.ev rfl rfl ev_move ?_
                refine RL.ev rfl rfl ev_move ?_
                refine RL.ev rfl rfl (ev_false (ev_neq rfl rfl) (fun h => h (by rw [hx1, hx2]))) ?_
                refine RL.nil ?_
                refine thenN ?_
                refine RW.condF rfl ?_
                refine RW.skip ?_
                refine thenN ?_
                refine RW.seq ?_
                refine RW.seq ?_
                refine RW.region ?_
                refine RL.ev rfl rfl ev_move ?_
                refine RL.ev rfl rfl (ev_false (ev_neq rfl rfl) (fun h => h hx2)) ?_
                refine RL.nil ?_
                refine thenN ?_
                refine RW.condF rfl ?_
                refine RW.skip ?_
                refine thenN ?_
                refine RW.seq ?_
                refine RW.region ?_
                refine RL.ev rfl rfl ev_move ?_
                refine RL.ev rfl rfl ev_move ?_
                refine RL.op rfl rfl (op_call2 Try.func15 rfl rfl rfl rfl ((read_calls _ ((act d1 (⟨3, an, bn, []⟩ : Disk.Op)).1) bn _ _ (dsk_says (hN.says 0 _ rfl)) (hfit1.act (⟨3, an, bn, []⟩ : Disk.Op)) (by omega) _ rfl).mono ?_))
                rintro _ w20 ⟨v20, rfl, ho_, he_⟩
                have hN_ := hN.pushOwn ho_ he_
                clear ho_ he_
                clear hN
                have hN : Now w none_ w20 [_, _, _, _] := hN_
                clear hN_
                refine RL.ev rfl rfl ev_move ?_
                refine RL.ev rfl rfl (ev_extract rfl rfl) ?_
                refine RL.ev rfl rfl (ev_extract rfl rfl) ?_
                refine RL.ev rfl rfl ev_assign ?_
                refine RL.ev rfl rfl ev_assign ?_
                refine RL.nil ?_
                refine thenN ?_
                refine RW.seq ?_
                refine RW.region ?_
                refine RL.ev rfl rfl ev_move ?_
                refine RL.ev rfl rfl ev_move ?_
                refine RL.op rfl rfl (op_call2 Try.func15 rfl rfl rfl rfl ((read_calls _ ((act d1 (⟨3, an, bn, []⟩ : Disk.Op)).1) an _ _ (dsk_says (hN.says 1 _ rfl)) (hfit1.act (⟨3, an, bn, []⟩ : Disk.Op)) (by omega) _ rfl).mono ?_))
                rintro _ w21 ⟨v21, rfl, ho_, he_⟩
                have hN_ := hN.pushOwn ho_ he_
                clear ho_ he_
                clear hN
                have hN : Now w none_ w21 [_, _, _, _, _] := hN_
                clear hN_
                refine RL.ev rfl rfl ev_move ?_
                refine RL.ev rfl rfl (ev_extract rfl rfl) ?_
                refine RL.ev rfl rfl (ev_extract rfl rfl) ?_
                refine RL.ev rfl rfl ev_assign ?_
                refine RL.ev rfl rfl ev_assign ?_
                refine RL.nil ?_
                refine thenN ?_
                refine RW.seq ?_
                refine RW.seq ?_
                by_cases hab : an = bn
                · skip
                  refine RW.region ?_
                  refine RL.ev rfl rfl ev_move ?_
                  refine RL.ev rfl rfl (ev_false (ev_neq rfl rfl) (fun h => h (by rw [hx3]; exact hx2))) ?_
                  refine RL.ev rfl rfl ev_move ?_
                  refine RL.onEv rfl rfl (by decide) rfl rfl ev_move ?_
                  refine RL.onEv rfl rfl (by decide) rfl rfl ev_move ?_
                  refine RL.on rfl rfl (by decide) rfl rfl (op_call2 Try.func18 rfl rfl rfl rfl ((same_true (hN.sl 1 rfl) (hN.sl 4 rfl) (by rw [hx3])).mono ?_))
                  rintro _ _ ⟨rfl, rfl⟩
                  refine RL.onEv rfl rfl (by decide) rfl rfl (ev_not rfl) ?_
                  refine RL.ev rfl rfl (ev_pickF rfl) ?_
                  refine RL.ev rfl rfl ev_move ?_
                  refine RL.onEv rfl rfl (by decide) rfl rfl ev_move ?_
                  refine RL.onEv rfl rfl (by decide) rfl rfl (ev_true (ev_eql rfl rfl) (hx4.2 hab)) ?_
                  refine RL.onEv rfl rfl (by decide) rfl rfl ev_move ?_
                  refine RL.onEv rfl rfl (by decide) rfl rfl ev_move ?_
                  refine RL.onEv rfl rfl (by decide) rfl rfl (ev_true (ev_strEq rfl rfl) hab) ?_
                  refine RL.onEv rfl rfl (by decide) rfl rfl (ev_boolNe Try.underlying4 rfl rfl) ?_
                  refine RL.ev rfl rfl (ev_pickF rfl) ?_
                  refine RL.nil ?_
                  refine thenN ?_
                  refine RW.condF rfl ?_
                  refine RW.skip ?_
                  refine thenN ?_
                  refine RW.seq ?_
                  refine RW.region ?_
                  refine RL.ev rfl rfl ev_move ?_
                  refine RL.ev rfl rfl ev_move ?_
                  refine RL.ev rfl rfl (ev_buildL (cs := [.int .i64 (4), (str bn), .string ByteArray.empty, .slice none 0 0]) Try.underlying33 zero33 (places := #[(0, 1), (1, 1), (2, 1), (3, 1)]) (by intro w; kernel_rfl) (pl := [(0, .const (.int .i64 (4))), (1, .tmp 110)]) rfl (ps := [(0, .int .i64 (4)), (1, (str bn))]) rfl (zc := [.int .i64 (0), .string ByteArray.empty, .string ByteArray.empty, .slice none 0 0]) rfl (fill_step (vs := [.int .i64 (4)]) rfl rfl (Nat.le_of_ble_eq_true rfl) (fill_step (vs := [(str bn)]) rfl rfl (Nat.le_of_ble_eq_true rfl) rfl))) ?_
                  refine RL.op rfl rfl (op_call2 Try.func14 rfl rfl rfl rfl ((do_calls g9 ((act d1 (⟨3, an, bn, []⟩ : Disk.Op)).1) B19 (xs.length + 1) (⟨4, bn, [], []⟩ : Disk.Op) nilH _ (hN.pickL (M := [_]) [2] (by decide) rfl) (hfit1.act (⟨3, an, bn, []⟩ : Disk.Op)) (by omega) (SlO.at (SlO.nil _ _ _) hN 2 rfl) (Nat.zero_le _) _ rfl).mono ?_))
                  rintro _ w23 ⟨B23, rfl, hC_⟩
                  have hN_ := Now.callA (M := [_]) (N := [_, _, _, _]) (hN.sub [2, 0, 1, 3, 4] (by decide) rfl) hC_
                  clear hC_
                  clear hN
                  have hN : Now w none_ w23 [_, _, _, _, _] := hN_
                  clear hN_
                  replace hN : Now w none_ w23 [dskA 64 71 23 g9 ((act ((act d1 (⟨3, an, bn, []⟩ : Disk.Op)).1) (⟨4, bn, [], []⟩ : Disk.Op)).1) B23, .own vb 5 (v21) ((read ((act d1 (⟨3, an, bn, []⟩ : Disk.Op)).1) an).1), .own vb 5 (v20) ((read ((act d1 (⟨3, an, bn, []⟩ : Disk.Op)).1) bn).1), .own str 9 (v18) (names d1.fs), .own vb 5 (v17) ((read d1 an).1)] := hN
                  refine RL.ev rfl rfl ev_assign ?_
                  refine RL.nil ?_
                  refine thenN ?_
                  refine RW.seq ?_
                  refine RW.region ?_
                  refine RL.ev rfl rfl ev_move ?_
                  refine RL.ev rfl rfl ev_move ?_
                  refine RL.op rfl rfl (op_call2 Try.func15 rfl rfl rfl rfl ((read_calls _ ((act ((act d1 (⟨3, an, bn, []⟩ : Disk.Op)).1) (⟨4, bn, [], []⟩ : Disk.Op)).1) bn _ _ (dsk_says (hN.says 0 _ rfl)) ((hfit1.act (⟨3, an, bn, []⟩ : Disk.Op)).act (⟨4, bn, [], []⟩ : Disk.Op)) (by omega) _ rfl).mono ?_))
                  rintro _ w24 ⟨v24, rfl, ho_, he_⟩
                  have hN_ := hN.pushOwn ho_ he_
                  clear ho_ he_
                  clear hN
                  have hN : Now w none_ w24 [_, _, _, _, _, _] := hN_
                  clear hN_
                  refine RL.ev rfl rfl ev_move ?_
                  refine RL.ev rfl rfl (ev_extract rfl rfl) ?_
                  refine RL.ev rfl rfl (ev_extract rfl rfl) ?_
                  refine RL.ev rfl rfl ev_assign ?_
                  refine RL.ev rfl rfl ev_assign ?_
                  refine RL.nil ?_
                  refine thenN ?_
                  refine RW.seq ?_
                  refine RW.region ?_
                  refine RL.ev rfl rfl ev_move ?_
                  refine RL.ev rfl rfl (ev_true (ev_eql rfl rfl) hx5) ?_
                  refine RL.ev rfl rfl ev_move ?_
                  refine RL.onEv rfl rfl (by decide) rfl rfl ev_move ?_
                  refine RL.onEv rfl rfl (by decide) rfl rfl (ev_true (ev_eql rfl rfl) hx6) ?_
                  refine RL.ev rfl rfl (ev_pickT rfl) ?_
                  refine RL.ev rfl rfl ev_move ?_
                  refine RL.on rfl rfl (by decide) rfl rfl (op_call0 Try.func11 rfl rfl ((known_calls _).mono ?_))
                  rintro _ w25 ⟨rfl, he_⟩
                  replace hN := hN.ext he_
                  clear he_
                  refine RL.ev rfl rfl (ev_pickT rfl) ?_
                  refine RL.ev rfl rfl ev_assign ?_
                  refine RL.nil ?_
                  refine thenN ?_
                  refine RW.ret ?_
                  refine retI (RV.tmp rfl) ?_
                  exact ⟨rfl, hN.ext0⟩
                · skip
                  refine RW.region ?_
                  refine RL.ev rfl rfl ev_move ?_
                  refine RL.ev rfl rfl (ev_false (ev_neq rfl rfl) (fun h => h (by rw [hx3]; exact hx2))) ?_
                  refine RL.ev rfl rfl ev_move ?_
                  refine RL.onEv rfl rfl (by decide) rfl rfl ev_move ?_
                  refine RL.onEv rfl rfl (by decide) rfl rfl ev_move ?_
                  refine RL.on rfl rfl (by decide) rfl rfl (op_call2 Try.func18 rfl rfl rfl rfl ((same_true (hN.sl 1 rfl) (hN.sl 4 rfl) (by rw [hx3])).mono ?_))
                  rintro _ _ ⟨rfl, rfl⟩
                  refine RL.onEv rfl rfl (by decide) rfl rfl (ev_not rfl) ?_
                  refine RL.ev rfl rfl (ev_pickF rfl) ?_
                  refine RL.ev rfl rfl ev_move ?_
                  refine RL.onEv rfl rfl (by decide) rfl rfl ev_move ?_
                  refine RL.onEv rfl rfl (by decide) rfl rfl (ev_false (ev_eql rfl rfl) (fun h => hab (hx4.1 h))) ?_
                  refine RL.onEv rfl rfl (by decide) rfl rfl ev_move ?_
                  refine RL.onEv rfl rfl (by decide) rfl rfl ev_move ?_
                  refine RL.onEv rfl rfl (by decide) rfl rfl (ev_false (ev_strEq rfl rfl) hab) ?_
                  refine RL.onEv rfl rfl (by decide) rfl rfl (ev_boolNe Try.underlying4 rfl rfl) ?_
                  refine RL.ev rfl rfl (ev_pickF rfl) ?_
                  refine RL.nil ?_
                  refine thenN ?_
                  refine RW.condF rfl ?_
                  refine RW.skip ?_
                  refine thenN ?_
                  refine RW.seq ?_
                  refine RW.region ?_
                  refine RL.ev rfl rfl ev_move ?_
                  refine RL.ev rfl rfl ev_move ?_
                  refine RL.ev rfl rfl (ev_buildL (cs := [.int .i64 (4), (str bn), .string ByteArray.empty, .slice none 0 0]) Try.underlying33 zero33 (places := #[(0, 1), (1, 1), (2, 1), (3, 1)]) (by intro w; kernel_rfl) (pl := [(0, .const (.int .i64 (4))), (1, .tmp 110)]) rfl (ps := [(0, .int .i64 (4)), (1, (str bn))]) rfl (zc := [.int .i64 (0), .string ByteArray.empty, .string ByteArray.empty, .slice none 0 0]) rfl (fill_step (vs := [.int .i64 (4)]) rfl rfl (Nat.le_of_ble_eq_true rfl) (fill_step (vs := [(str bn)]) rfl rfl (Nat.le_of_ble_eq_true rfl) rfl))) ?_
                  refine RL.op rfl rfl (op_call2 Try.func14 rfl rfl rfl rfl ((do_calls g9 ((act d1 (⟨3, an, bn, []⟩ : Disk.Op)).1) B19 (xs.length + 1) (⟨4, bn, [], []⟩ : Disk.Op) nilH _ (hN.pickL (M := [_]) [2] (by decide) rfl) (hfit1.act (⟨3, an, bn, []⟩ : Disk.Op)) (by omega) (SlO.at (SlO.nil _ _ _) hN 2 rfl) (Nat.zero_le _) _ rfl).mono ?_))
                  rintro _ w27 ⟨B27, rfl, hC_⟩
                  have hN_ := Now.callA (M := [_]) (N := [_, _, _, _]) (hN.sub [2, 0, 1, 3, 4] (by decide) rfl) hC_
                  clear hC_
                  clear hN
                  have hN : Now w none_ w27 [_, _, _, _, _] := hN_
                  clear hN_
                  replace hN : Now w none_ w27 [dskA 64 71 23 g9 ((act ((act d1 (⟨3, an, bn, []⟩ : Disk.Op)).1) (⟨4, bn, [], []⟩ : Disk.Op)).1) B27, .own vb 5 (v21) ((read ((act d1 (⟨3, an, bn, []⟩ : Disk.Op)).1) an).1), .own vb 5 (v20) ((read ((act d1 (⟨3, an, bn, []⟩ : Disk.Op)).1) bn).1), .own str 9 (v18) (names d1.fs), .own vb 5 (v17) ((read d1 an).1)] := hN
                  refine RL.ev rfl rfl ev_assign ?_
                  refine RL.nil ?_
                  refine thenN ?_
                  refine RW.seq ?_
                  refine RW.region ?_
                  refine RL.ev rfl rfl ev_move ?_
                  refine RL.ev rfl rfl ev_move ?_
                  refine RL.op rfl rfl (op_call2 Try.func15 rfl rfl rfl rfl ((read_calls _ ((act ((act d1 (⟨3, an, bn, []⟩ : Disk.Op)).1) (⟨4, bn, [], []⟩ : Disk.Op)).1) bn _ _ (dsk_says (hN.says 0 _ rfl)) ((hfit1.act (⟨3, an, bn, []⟩ : Disk.Op)).act (⟨4, bn, [], []⟩ : Disk.Op)) (by omega) _ rfl).mono ?_))
                  rintro _ w28 ⟨v28, rfl, ho_, he_⟩
                  have hN_ := hN.pushOwn ho_ he_
                  clear ho_ he_
                  clear hN
                  have hN : Now w none_ w28 [_, _, _, _, _, _] := hN_
                  clear hN_
                  refine RL.ev rfl rfl ev_move ?_
                  refine RL.ev rfl rfl (ev_extract rfl rfl) ?_
                  refine RL.ev rfl rfl (ev_extract rfl rfl) ?_
                  refine RL.ev rfl rfl ev_assign ?_
                  refine RL.ev rfl rfl ev_assign ?_
                  refine RL.nil ?_
                  refine thenN ?_
                  refine RW.seq ?_
                  refine RW.region ?_
                  refine RL.ev rfl rfl ev_move ?_
                  refine RL.ev rfl rfl (ev_true (ev_eql rfl rfl) hx5) ?_
                  refine RL.ev rfl rfl ev_move ?_
                  refine RL.onEv rfl rfl (by decide) rfl rfl ev_move ?_
                  refine RL.onEv rfl rfl (by decide) rfl rfl (ev_true (ev_eql rfl rfl) hx6) ?_
                  refine RL.ev rfl rfl (ev_pickT rfl) ?_
                  refine RL.ev rfl rfl ev_move ?_
                  refine RL.on rfl rfl (by decide) rfl rfl (op_call0 Try.func11 rfl rfl ((known_calls _).mono ?_))
                  rintro _ w29 ⟨rfl, he_⟩
                  replace hN := hN.ext he_
                  clear he_
                  refine RL.ev rfl rfl (ev_pickT rfl) ?_
                  refine RL.ev rfl rfl ev_assign ?_
                  refine RL.nil ?_
                  refine thenN ?_
                  refine RW.ret ?_
                  refine retI (RV.tmp rfl) ?_
                  exact ⟨rfl, hN.ext0⟩

end Go.Proofs.Ytlblpiapeieofaa
