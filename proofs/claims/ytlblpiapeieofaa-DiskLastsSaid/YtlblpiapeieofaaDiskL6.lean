import Derived.Test.YtlblpiapeieofaaDiskL0
import Derived.Test.YtlblpiapeieofaaDiskOpen
import Derived.Test.YtlblpiapeieofaaDiskPlain2
set_option linter.unusedVariables false
set_option linter.unusedSimpArgs false
namespace Go.Proofs.Ytlblpiapeieofaa
open Go.RowKit Go.Rl

open Go.Disk
set_option maxHeartbeats 4000000 in
set_option maxRecDepth 100000 in
/-- postroad/postroadlaw04.DiskLasts -/
theorem diskLasts_calls (Lv : Value) (os : List OH) (xs : List Disk.Op) (an : List UInt8) (hm : Hd) (more : List UInt8) (Mv : Value) (ms : List Int) (w : World) (hL : Sm ocells w Lv os) (hel : OEls none_ w os xs) (hS0 : ∀ x ∈ xs, SmallOp x) (hmore : Sl vb w (vh hm) more) (hM : Sl vI w Mv ms) : Gives Try.prog 3 #[Lv, (str an), (vh hm), Mv] w fun r w' => r = .bool true ∧ Ext w w' := by
  refine Gives.start Try.func3 rfl (Nat.le_of_ble_eq_true rfl) ?_
  rw [args4]
  have hN := Now.nil w none_
  have hle := hel.1
  have hB : ∀ x ∈ xs, x.data.length ≤ 140737488355328 ∧ x.name.length ≤ 140737488355328 ∧ x.to.length ≤ 140737488355328 := fun x hx => ⟨by have := (hS0 x hx).1; omega, by have := (hS0 x hx).2.1; omega, by have := (hS0 x hx).2.2; omega⟩
  refine RW.seq ?_
  refine RW.region ?_
  refine RL.ev rfl rfl ev_assign ?_
  refine RL.nil ?_
  refine thenN ?_
  refine RW.seq ?_
  refine RW.seq ?_
  refine RW.region ?_
  refine RL.ev rfl rfl ev_move ?_
  refine RL.op rfl rfl (op_call1 Try.func10 rfl rfl rfl ((long_calls _ os xs _ (hL.o.now hN) (OEls.nowN hel hN) hB).mono ?_))
  rintro _ w1 ⟨z1, rfl, hz1, he_⟩
  replace hN := hN.ext he_
  clear he_
  refine RL.ev rfl rfl (ev_gtr rfl rfl) ?_
  refine RL.ev rfl rfl ev_move ?_
  by_cases hg1_3 : 800 < z1
  · skip
    rw [decide_eq_true hg1_3]
    refine RL.off rfl rfl (by decide) rfl rfl ?_
    refine RL.off rfl rfl (by decide) rfl rfl ?_
    refine RL.off rfl rfl (by decide) rfl rfl ?_
    refine RL.ev rfl rfl (ev_pickT rfl) ?_
    refine RL.ev rfl rfl ev_move ?_
    refine RL.off rfl rfl (by decide) rfl rfl ?_
    refine RL.off rfl rfl (by decide) rfl rfl ?_
    refine RL.off rfl rfl (by decide) rfl rfl ?_
    refine RL.ev rfl rfl (ev_pickT rfl) ?_
    refine RL.ev rfl rfl ev_move ?_
    refine RL.off rfl rfl (by decide) rfl rfl ?_
    refine RL.off rfl rfl (by decide) rfl rfl ?_
    refine RL.off rfl rfl (by decide) rfl rfl ?_
    refine RL.ev rfl rfl (ev_pickT rfl) ?_
    refine RL.ev rfl rfl ev_move ?_
    refine RL.off rfl rfl (by decide) rfl rfl ?_
    refine RL.off rfl rfl (by decide) rfl rfl ?_
    refine RL.off rfl rfl (by decide) rfl rfl ?_
    refine RL.ev rfl rfl (ev_pickT rfl) ?_
    refine RL.ev rfl rfl ev_move ?_
    refine RL.off rfl rfl (by decide) rfl rfl ?_
    refine RL.off rfl rfl (by decide) rfl rfl ?_
    refine RL.off rfl rfl (by decide) rfl rfl ?_
    refine RL.ev rfl rfl (ev_pickT rfl) ?_
    refine RL.nil ?_
    refine thenN ?_
    refine RW.condT rfl ?_
    refine RW.seq ?_
    refine RW.region ?_
    refine RL.op rfl rfl (op_call0 Try.func11 rfl rfl ((known_calls _).mono ?_))
    rintro _ w2 ⟨rfl, he_⟩
    replace hN := hN.ext he_
    clear he_
    refine RL.ev rfl rfl ev_assign ?_
    refine RL.nil ?_
    refine thenN ?_
    refine RW.ret ?_
    refine thenR ?_
    refine retI (RV.tmp rfl) ?_
    exact ⟨rfl, hN.ext0⟩
  · skip
    rw [decide_eq_false hg1_3]
    refine RL.onEv rfl rfl (by decide) rfl rfl ev_move ?_
    have hL_3 := (hL.o.now hN).len_le
    refine RL.onEv rfl rfl (by decide) rfl rfl (ev_lenM Try.underlying22 (hL.o.now hN) rfl) ?_
    refine RL.onEv rfl rfl (by decide) rfl rfl (ev_gtr rfl rfl) ?_
    refine RL.ev rfl rfl (ev_pickF rfl) ?_
    refine RL.ev rfl rfl ev_move ?_
    by_cases hg1_8 : 50 < (os.length : Int)
    · skip
      rw [decide_eq_true hg1_8]
      refine RL.off rfl rfl (by decide) rfl rfl ?_
      refine RL.off rfl rfl (by decide) rfl rfl ?_
      refine RL.off rfl rfl (by decide) rfl rfl ?_
      refine RL.ev rfl rfl (ev_pickT rfl) ?_
      refine RL.ev rfl rfl ev_move ?_
      refine RL.off rfl rfl (by decide) rfl rfl ?_
      refine RL.off rfl rfl (by decide) rfl rfl ?_
      refine RL.off rfl rfl (by decide) rfl rfl ?_
      refine RL.ev rfl rfl (ev_pickT rfl) ?_
      refine RL.ev rfl rfl ev_move ?_
      refine RL.off rfl rfl (by decide) rfl rfl ?_
      refine RL.off rfl rfl (by decide) rfl rfl ?_
      refine RL.off rfl rfl (by decide) rfl rfl ?_
      refine RL.ev rfl rfl (ev_pickT rfl) ?_
      refine RL.ev rfl rfl ev_move ?_
      refine RL.off rfl rfl (by decide) rfl rfl ?_
      refine RL.off rfl rfl (by decide) rfl rfl ?_
      refine RL.off rfl rfl (by decide) rfl rfl ?_
      refine RL.ev rfl rfl (ev_pickT rfl) ?_
      refine RL.nil ?_
      refine thenN ?_
      refine RW.condT rfl ?_
      refine RW.seq ?_
      refine RW.region ?_
      refine RL.op rfl rfl (op_call0 Try.func11 rfl rfl ((known_calls _).mono ?_))
      rintro _ w4 ⟨rfl, he_⟩
      replace hN := hN.ext he_
      clear he_
      refine RL.ev rfl rfl ev_assign ?_
      refine RL.nil ?_
      refine thenN ?_
      refine RW.ret ?_
      refine thenR ?_
      refine retI (RV.tmp rfl) ?_
      exact ⟨rfl, hN.ext0⟩
    · skip
      rw [decide_eq_false hg1_8]
      refine RL.onEv rfl rfl (by decide) rfl rfl ev_move ?_
      have hL_5 := (hmore.o.now hN).len_le
      refine RL.onEv rfl rfl (by decide) rfl rfl (ev_lenS Try.underlying23 (hmore.o.now hN) rfl) ?_
      refine RL.onEv rfl rfl (by decide) rfl rfl (ev_gtr rfl rfl) ?_
      refine RL.ev rfl rfl (ev_pickF rfl) ?_
      refine RL.ev rfl rfl ev_move ?_
      by_cases hg1_13 : 100 < (more.length : Int)
      · skip
        rw [decide_eq_true hg1_13]
        refine RL.off rfl rfl (by decide) rfl rfl ?_
        refine RL.off rfl rfl (by decide) rfl rfl ?_
        refine RL.off rfl rfl (by decide) rfl rfl ?_
        refine RL.ev rfl rfl (ev_pickT rfl) ?_
        refine RL.ev rfl rfl ev_move ?_
        refine RL.off rfl rfl (by decide) rfl rfl ?_
        refine RL.off rfl rfl (by decide) rfl rfl ?_
        refine RL.off rfl rfl (by decide) rfl rfl ?_
        refine RL.ev rfl rfl (ev_pickT rfl) ?_
        refine RL.ev rfl rfl ev_move ?_
        refine RL.off rfl rfl (by decide) rfl rfl ?_
        refine RL.off rfl rfl (by decide) rfl rfl ?_
        refine RL.off rfl rfl (by decide) rfl rfl ?_
        refine RL.ev rfl rfl (ev_pickT rfl) ?_
        refine RL.nil ?_
        refine thenN ?_
        refine RW.condT rfl ?_
        refine RW.seq ?_
        refine RW.region ?_
        refine RL.op rfl rfl (op_call0 Try.func11 rfl rfl ((known_calls _).mono ?_))
        rintro _ w6 ⟨rfl, he_⟩
        replace hN := hN.ext he_
        clear he_
        refine RL.ev rfl rfl ev_assign ?_
        refine RL.nil ?_
        refine thenN ?_
        refine RW.ret ?_
        refine thenR ?_
        refine retI (RV.tmp rfl) ?_
        exact ⟨rfl, hN.ext0⟩
      · skip
        rw [decide_eq_false hg1_13]
        refine RL.onEv rfl rfl (by decide) rfl rfl ev_move ?_
        have hL_7 := (hM.o.now hN).len_le
        refine RL.onEv rfl rfl (by decide) rfl rfl (ev_lenS Try.underlying24 (hM.o.now hN) rfl) ?_
        refine RL.onEv rfl rfl (by decide) rfl rfl (ev_gtr rfl rfl) ?_
        refine RL.ev rfl rfl (ev_pickF rfl) ?_
        refine RL.ev rfl rfl ev_move ?_
        by_cases hg1_18 : 60 < (ms.length : Int)
        · skip
          rw [decide_eq_true hg1_18]
          refine RL.off rfl rfl (by decide) rfl rfl ?_
          refine RL.off rfl rfl (by decide) rfl rfl ?_
          refine RL.off rfl rfl (by decide) rfl rfl ?_
          refine RL.ev rfl rfl (ev_pickT rfl) ?_
          refine RL.ev rfl rfl ev_move ?_
          refine RL.off rfl rfl (by decide) rfl rfl ?_
          refine RL.off rfl rfl (by decide) rfl rfl ?_
          refine RL.off rfl rfl (by decide) rfl rfl ?_
          refine RL.ev rfl rfl (ev_pickT rfl) ?_
          refine RL.nil ?_
          refine thenN ?_
          refine RW.condT rfl ?_
          refine RW.seq ?_
          refine RW.region ?_
          refine RL.op rfl rfl (op_call0 Try.func11 rfl rfl ((known_calls _).mono ?_))
          rintro _ w8 ⟨rfl, he_⟩
          replace hN := hN.ext he_
          clear he_
          refine RL.ev rfl rfl ev_assign ?_
          refine RL.nil ?_
          refine thenN ?_
          refine RW.ret ?_
          refine thenR ?_
          refine retI (RV.tmp rfl) ?_
          exact ⟨rfl, hN.ext0⟩
        · skip
          rw [decide_eq_false hg1_18]
          refine RL.onEv rfl rfl (by decide) rfl rfl ev_move ?_
          refine RL.onEv rfl rfl (by decide) rfl rfl (ev_lenS' Try.underlying9 rfl) ?_
          refine RL.onEv rfl rfl (by decide) rfl rfl (ev_lss rfl rfl) ?_
          refine RL.ev rfl rfl (ev_pickF rfl) ?_
          refine RL.ev rfl rfl ev_move ?_
          by_cases hg1_23 : (an.length : Int) < 1
          · skip
            rw [decide_eq_true hg1_23]
            refine RL.off rfl rfl (by decide) rfl rfl ?_
            refine RL.off rfl rfl (by decide) rfl rfl ?_
            refine RL.off rfl rfl (by decide) rfl rfl ?_
            refine RL.ev rfl rfl (ev_pickT rfl) ?_
            refine RL.nil ?_
            refine thenN ?_
            refine RW.condT rfl ?_
            refine RW.seq ?_
            refine RW.region ?_
            refine RL.op rfl rfl (op_call0 Try.func11 rfl rfl ((known_calls _).mono ?_))
            rintro _ w9 ⟨rfl, he_⟩
            replace hN := hN.ext he_
            clear he_
            refine RL.ev rfl rfl ev_assign ?_
            refine RL.nil ?_
            refine thenN ?_
            refine RW.ret ?_
            refine thenR ?_
            refine retI (RV.tmp rfl) ?_
            exact ⟨rfl, hN.ext0⟩
          · skip
            rw [decide_eq_false hg1_23]
            refine RL.onEv rfl rfl (by decide) rfl rfl ev_move ?_
            refine RL.onEv rfl rfl (by decide) rfl rfl (ev_lenS' Try.underlying9 rfl) ?_
            refine RL.onEv rfl rfl (by decide) rfl rfl (ev_gtr rfl rfl) ?_
            refine RL.ev rfl rfl (ev_pickF rfl) ?_
            refine RL.nil ?_
            refine thenN ?_
            refine RW.condP _ rfl (fun hc43 => ?_) (fun hc43 => ?_)
            · skip
              refine RW.seq ?_
              refine RW.region ?_
              refine RL.op rfl rfl (op_call0 Try.func11 rfl rfl ((known_calls _).mono ?_))
              rintro _ w10 ⟨rfl, he_⟩
              replace hN := hN.ext he_
              clear he_
              refine RL.ev rfl rfl ev_assign ?_
              refine RL.nil ?_
              refine thenN ?_
              refine RW.ret ?_
              refine thenR ?_
              refine retI (RV.tmp rfl) ?_
              exact ⟨rfl, hN.ext0⟩
            · skip
              refine RW.skip ?_
              refine thenN ?_
              refine RW.seq ?_
              have h60 : xs.length ≤ 50 := by omega
              have hzl := hz1 (by omega)
              have hdl : ∀ x ∈ xs, x.data.length ≤ 1099511627776 := fun x hx => by have := longT_mem hx; omega
              have hna : Disk.named an := ⟨by omega, by omega⟩
              refine RW.region ?_
              refine RL.op rfl rfl (op_call1 Try.func12 rfl rfl rfl ((new_calls (5000) _ (by decide) (by decide)).mono ?_))
              rintro _ w11 ⟨g11, B11, rfl, hC_⟩
              have hN_ := hN.call0 hC_
              clear hC_
              clear hN
              have hN : Now w none_ w11 [_] := hN_
              clear hN_
              replace hN : Now w none_ w11 [dskA 64 71 23 g11 (⟨5000, []⟩ : Dk) B11] := hN
              refine RL.ev rfl rfl ev_assign ?_
              refine RL.nil ?_
              refine thenN ?_
              refine RW.seq ?_
              refine RW.region ?_
              refine RL.ev rfl rfl ev_move ?_
              refine RL.ev rfl rfl ev_move ?_
              refine RL.op rfl rfl (op_call2 Try.func13 rfl rfl rfl rfl ((run_calls g11 (⟨5000, []⟩ : Dk) B11 0 _ os xs _ (hN.pickL (M := [_]) [0] (by decide) rfl) (Fits.new (by decide) (by decide)) (by omega) (SmO.at ocells_ne hL.o hN 0 rfl) (OEls.at hel hN 0 rfl) hdl _ rfl).mono ?_))
              rintro _ w12 ⟨B12, rfl, hC_⟩
              have hN_ := Now.callA (M := [_]) (N := []) (hN.sub [0] (by decide) rfl) hC_
              clear hC_
              clear hN
              have hN : Now w none_ w12 [_] := hN_
              clear hN_
              replace hN : Now w none_ w12 [dskA 64 71 23 g11 ((run (⟨5000, []⟩ : Dk) xs).1) B12] := hN
              have hfit1 : Fits xs.length (run (⟨5000, []⟩ : Dk) xs).1 := by have h := run_fits xs (Fits.new (room := 5000) (by decide) (by decide)); rw [Nat.zero_add] at h; exact h
              have hrs1 : size (run (⟨5000, []⟩ : Dk) xs).1.fs ≤ longT xs := by have h := run_size xs (d := ⟨5000, []⟩) List.Pairwise.nil; exact Nat.le_trans h (by show size [] + _ ≤ _; rw [show size [] = 0 from rfl]; omega)
              have hrr1 : (run (⟨5000, []⟩ : Dk) xs).1.room = 5000 := run_room xs _
              generalize (run (⟨5000, []⟩ : Dk) xs).1 = d1 at hN hfit1 hrs1 hrr1
              replace hN : Now w none_ w12 [dskA 64 71 23 g11 d1 B12] := hN
              refine RL.nil ?_
              refine thenN ?_
              refine RW.seq ?_
              have hOb_ := lasts (more := more) hfit1 hna (by rw [hrr1]; omega) ms
              obtain ⟨was, m, hmm, hx1, hx2, hx3, hx4⟩ := hOb_
              have hwl : was.length ≤ 1099511627776 := by have h := read_len ((hfit1.act (⟨1, an, [], []⟩ : Disk.Op)).act (⟨2, an, [], []⟩ : Disk.Op)) an; rw [hx2] at h; exact h
              have hlw : (was ++ more.take m).length = was.length + m := by rw [List.length_append, List.length_take]; omega
              refine RW.region ?_
              refine RL.ev rfl rfl ev_move ?_
              refine RL.ev rfl rfl ev_move ?_
              refine RL.ev rfl rfl (ev_buildL (cs := [.int .i64 (1), (str an), .string ByteArray.empty, .slice none 0 0]) Try.underlying33 zero33 (places := #[(0, 1), (1, 1), (2, 1), (3, 1)]) (by intro w; kernel_rfl) (pl := [(0, .const (.int .i64 (1))), (1, .tmp 50)]) rfl (ps := [(0, .int .i64 (1)), (1, (str an))]) rfl (zc := [.int .i64 (0), .string ByteArray.empty, .string ByteArray.empty, .slice none 0 0]) rfl (fill_step (vs := [.int .i64 (1)]) rfl rfl (Nat.le_of_ble_eq_true rfl) (fill_step (vs := [(str an)]) rfl rfl (Nat.le_of_ble_eq_true rfl) rfl))) ?_
              refine RL.op rfl rfl (op_call2 Try.func14 rfl rfl rfl rfl ((do_calls g11 d1 B12 xs.length (⟨1, an, [], []⟩ : Disk.Op) nilH _ (hN.pickL (M := [_]) [0] (by decide) rfl) hfit1 (by omega) (SlO.at (SlO.nil _ _ _) hN 0 rfl) (Nat.zero_le _) _ rfl).mono ?_))
              rintro _ w13 ⟨B13, rfl, hC_⟩
              have hN_ := Now.callA (M := [_]) (N := []) (hN.sub [0] (by decide) rfl) hC_
              clear hC_
              clear hN
              have hN : Now w none_ w13 [_] := hN_
              clear hN_
              replace hN : Now w none_ w13 [dskA 64 71 23 g11 ((act d1 (⟨1, an, [], []⟩ : Disk.Op)).1) B13] := hN
              refine RL.nil ?_
              refine thenN ?_
              refine RW.seq ?_
              refine RW.seq ?_
              refine RW.region ?_
              refine RL.ev rfl rfl ev_move ?_
              refine RL.ev rfl rfl ev_move ?_
              refine RL.ev rfl rfl (ev_buildL (cs := [.int .i64 (2), (str an), .string ByteArray.empty, .slice none 0 0]) Try.underlying33 zero33 (places := #[(0, 1), (1, 1), (2, 1), (3, 1)]) (by intro w; kernel_rfl) (pl := [(0, .const (.int .i64 (2))), (1, .tmp 54)]) rfl (ps := [(0, .int .i64 (2)), (1, (str an))]) rfl (zc := [.int .i64 (0), .string ByteArray.empty, .string ByteArray.empty, .slice none 0 0]) rfl (fill_step (vs := [.int .i64 (2)]) rfl rfl (Nat.le_of_ble_eq_true rfl) (fill_step (vs := [(str an)]) rfl rfl (Nat.le_of_ble_eq_true rfl) rfl))) ?_
              refine RL.op rfl rfl (op_call2 Try.func14 rfl rfl rfl rfl ((do_calls g11 ((act d1 (⟨1, an, [], []⟩ : Disk.Op)).1) B13 (xs.length + 1) (⟨2, an, [], []⟩ : Disk.Op) nilH _ (hN.pickL (M := [_]) [0] (by decide) rfl) (hfit1.act (⟨1, an, [], []⟩ : Disk.Op)) (by omega) (SlO.at (SlO.nil _ _ _) hN 0 rfl) (Nat.zero_le _) _ rfl).mono ?_))
              rintro _ w14 ⟨B14, rfl, hC_⟩
              have hN_ := Now.callA (M := [_]) (N := []) (hN.sub [0] (by decide) rfl) hC_
              clear hC_
              clear hN
              have hN : Now w none_ w14 [_] := hN_
              clear hN_
              replace hN : Now w none_ w14 [dskA 64 71 23 g11 ((act ((act d1 (⟨1, an, [], []⟩ : Disk.Op)).1) (⟨2, an, [], []⟩ : Disk.Op)).1) B14] := hN
              refine RL.ev rfl rfl (ev_false (ev_neq rfl rfl) (fun h => h hx1)) ?_
              refine RL.nil ?_
              refine thenN ?_
              refine RW.condF rfl ?_
              refine RW.skip ?_
              refine thenN ?_
              refine RW.seq ?_
              refine RW.region ?_
              refine RL.ev rfl rfl ev_move ?_
              refine RL.ev rfl rfl ev_move ?_
              refine RL.op rfl rfl (op_call2 Try.func15 rfl rfl rfl rfl ((read_calls _ ((act ((act d1 (⟨1, an, [], []⟩ : Disk.Op)).1) (⟨2, an, [], []⟩ : Disk.Op)).1) an _ _ (dsk_says (hN.says 0 _ rfl)) ((hfit1.act (⟨1, an, [], []⟩ : Disk.Op)).act (⟨2, an, [], []⟩ : Disk.Op)) (by omega) _ rfl).mono ?_))
              rintro _ w15 ⟨v15, rfl, ho_, he_⟩
              have hN_ := hN.pushOwn ho_ he_
              clear ho_ he_
              clear hN
              have hN : Now w none_ w15 [_, _] := hN_
              clear hN_
              replace hN := hN.relist 0 rfl (show _ = was from (by rw [hx2]))
              replace hN : Now w none_ w15 [_, _] := hN
              refine RL.ev rfl rfl ev_move ?_
              refine RL.ev rfl rfl (ev_extract rfl rfl) ?_
              refine RL.ev rfl rfl (ev_extract rfl rfl) ?_
              refine RL.ev rfl rfl ev_assign ?_
              refine RL.ev rfl rfl ev_assign ?_
              refine RL.nil ?_
              refine thenN ?_
              refine RW.seq ?_
              refine RW.region ?_
              refine RL.ev rfl rfl ev_move ?_
              refine RL.op rfl rfl (op_call1 Try.func16 rfl rfl rfl ((names_calls _ ((act ((act d1 (⟨1, an, [], []⟩ : Disk.Op)).1) (⟨2, an, [], []⟩ : Disk.Op)).1) _ _ (dsk_says (hN.says 1 _ rfl)) ((hfit1.act (⟨1, an, [], []⟩ : Disk.Op)).act (⟨2, an, [], []⟩ : Disk.Op)) (by omega)).mono ?_))
              rintro v16 w16 ⟨ho_, he_⟩
              have hN_ := hN.pushOwn (l := names ((act ((act d1 (⟨1, an, [], []⟩ : Disk.Op)).1) (⟨2, an, [], []⟩ : Disk.Op)).1).fs) ho_ he_
              clear ho_ he_
              clear hN
              have hN : Now w none_ w16 [_, _, _] := hN_
              clear hN_
              refine RL.ev rfl rfl ev_assign ?_
              refine RL.nil ?_
              refine thenN ?_
              refine RW.seq ?_
              refine RW.region ?_
              refine RL.ev rfl rfl ev_move ?_
              refine RL.ev rfl rfl ev_move ?_
              refine RL.ev rfl rfl ev_move ?_
              refine RL.ev rfl rfl (ev_buildL (cs := [.int .i64 (1), (str an), .string ByteArray.empty, (vh hm)]) Try.underlying33 zero33 (places := #[(0, 1), (1, 1), (2, 1), (3, 1)]) (by intro w; kernel_rfl) (pl := [(0, .const (.int .i64 (1))), (1, .tmp 67), (3, .tmp 68)]) rfl (ps := [(0, .int .i64 (1)), (1, (str an)), (3, (vh hm))]) rfl (zc := [.int .i64 (0), .string ByteArray.empty, .string ByteArray.empty, .slice none 0 0]) rfl (fill_step (vs := [.int .i64 (1)]) rfl rfl (Nat.le_of_ble_eq_true rfl) (fill_step (vs := [(str an)]) rfl rfl (Nat.le_of_ble_eq_true rfl) (fill_step (vs := [(vh hm)]) rfl rfl (Nat.le_of_ble_eq_true rfl) rfl)))) ?_
              refine RL.op rfl rfl (op_call2 Try.func14 rfl rfl rfl rfl ((do_calls g11 ((act ((act d1 (⟨1, an, [], []⟩ : Disk.Op)).1) (⟨2, an, [], []⟩ : Disk.Op)).1) B14 ((xs.length + 1) + 1) (⟨1, an, [], more⟩ : Disk.Op) hm _ (hN.pickL (M := [_]) [2] (by decide) rfl) ((hfit1.act (⟨1, an, [], []⟩ : Disk.Op)).act (⟨2, an, [], []⟩ : Disk.Op)) (by omega) (SlO.at hmore.o hN 2 rfl) (show more.length ≤ 1099511627776 by omega) _ rfl).mono ?_))
              rintro _ w17 ⟨B17, rfl, hC_⟩
              have hN_ := Now.callA (M := [_]) (N := [_, _]) (hN.sub [2, 0, 1] (by decide) rfl) hC_
              clear hC_
              clear hN
              have hN : Now w none_ w17 [_, _, _] := hN_
              clear hN_
              replace hN : Now w none_ w17 [dskA 64 71 23 g11 ((act ((act ((act d1 (⟨1, an, [], []⟩ : Disk.Op)).1) (⟨2, an, [], []⟩ : Disk.Op)).1) (⟨1, an, [], more⟩ : Disk.Op)).1) B17, .own str 9 (v16) (names ((act ((act d1 (⟨1, an, [], []⟩ : Disk.Op)).1) (⟨2, an, [], []⟩ : Disk.Op)).1).fs), .own vb 5 (v15) (was)] := hN
              refine RL.nil ?_
              refine thenN ?_
              refine RW.seq ?_
              refine RW.region ?_
              refine RL.ev rfl rfl ev_move ?_
              refine RL.ev rfl rfl ev_move ?_
              refine RL.op rfl rfl (op_call2 Try.func17 rfl rfl rfl rfl ((crash_calls g11 ((act ((act ((act d1 (⟨1, an, [], []⟩ : Disk.Op)).1) (⟨2, an, [], []⟩ : Disk.Op)).1) (⟨1, an, [], more⟩ : Disk.Op)).1) B17 (((xs.length + 1) + 1) + 1) _ ms _ (hN.pickL (M := [_]) [0] (by decide) rfl) (((hfit1.act (⟨1, an, [], []⟩ : Disk.Op)).act (⟨2, an, [], []⟩ : Disk.Op)).act (⟨1, an, [], more⟩ : Disk.Op)) (by omega) (SlO.at hM.o hN 0 rfl)).mono ?_))
              rintro _ w18 ⟨B18, rfl, hC_⟩
              have hN_ := Now.callA (M := [_]) (N := [_, _]) (hN.sub [0, 1, 2] (by decide) rfl) hC_
              clear hC_
              clear hN
              have hN : Now w none_ w18 [_, _, _] := hN_
              clear hN_
              replace hN : Now w none_ w18 [dskA 64 71 23 g11 (⟨((act ((act ((act d1 (⟨1, an, [], []⟩ : Disk.Op)).1) (⟨2, an, [], []⟩ : Disk.Op)).1) (⟨1, an, [], more⟩ : Disk.Op)).1).room, crash ms ((act ((act ((act d1 (⟨1, an, [], []⟩ : Disk.Op)).1) (⟨2, an, [], []⟩ : Disk.Op)).1) (⟨1, an, [], more⟩ : Disk.Op)).1).fs⟩ : Dk) B18, .own str 9 (v16) (names ((act ((act d1 (⟨1, an, [], []⟩ : Disk.Op)).1) (⟨2, an, [], []⟩ : Disk.Op)).1).fs), .own vb 5 (v15) (was)] := hN
              refine RL.nil ?_
              refine thenN ?_
              refine RW.seq ?_
              refine RW.region ?_
              refine RL.ev rfl rfl ev_move ?_
              refine RL.ev rfl rfl ev_move ?_
              refine RL.op rfl rfl (op_call2 Try.func15 rfl rfl rfl rfl ((read_calls _ (⟨((act ((act ((act d1 (⟨1, an, [], []⟩ : Disk.Op)).1) (⟨2, an, [], []⟩ : Disk.Op)).1) (⟨1, an, [], more⟩ : Disk.Op)).1).room, crash ms ((act ((act ((act d1 (⟨1, an, [], []⟩ : Disk.Op)).1) (⟨2, an, [], []⟩ : Disk.Op)).1) (⟨1, an, [], more⟩ : Disk.Op)).1).fs⟩ : Dk) an _ _ (dsk_says (hN.says 0 _ rfl)) ((((hfit1.act (⟨1, an, [], []⟩ : Disk.Op)).act (⟨2, an, [], []⟩ : Disk.Op)).act (⟨1, an, [], more⟩ : Disk.Op)).crashed ms) (by omega) _ rfl).mono ?_))
              rintro _ w19 ⟨v19, rfl, ho_, he_⟩
              have hN_ := hN.pushOwn ho_ he_
              clear ho_ he_
              clear hN
              have hN : Now w none_ w19 [_, _, _, _] := hN_
              clear hN_
              replace hN := hN.relist 0 rfl (show _ = (was ++ more.take m) from (by rw [hx3]))
              replace hN : Now w none_ w19 [_, _, _, _] := hN
              refine RL.ev rfl rfl ev_move ?_
              refine RL.ev rfl rfl (ev_extract rfl rfl) ?_
              refine RL.ev rfl rfl (ev_extract rfl rfl) ?_
              refine RL.ev rfl rfl ev_assign ?_
              refine RL.ev rfl rfl ev_assign ?_
              refine RL.nil ?_
              refine thenN ?_
              refine RW.seq ?_
              refine RW.seq ?_
              refine RW.region ?_
              refine RL.ev rfl rfl ev_move ?_
              refine RL.ev rfl rfl (ev_false (ev_neq rfl rfl) (fun h => h (by rw [hx3]))) ?_
              refine RL.ev rfl rfl ev_move ?_
              refine RL.onEv rfl rfl (by decide) rfl rfl ev_move ?_
              have hL_20 := (hN.sl 0 rfl).len_le
              refine RL.onEv rfl rfl (by decide) rfl rfl (ev_lenS Try.underlying23 (hN.sl 0 rfl) rfl) ?_
              refine RL.onEv rfl rfl (by decide) rfl rfl ev_move ?_
              have hL_21 := (hN.sl 3 rfl).len_le
              refine RL.onEv rfl rfl (by decide) rfl rfl (ev_lenS Try.underlying23 (hN.sl 3 rfl) rfl) ?_
              refine RL.onEv rfl rfl (by decide) rfl rfl (ev_false (ev_lss rfl rfl) (by omega)) ?_
              refine RL.ev rfl rfl (ev_pickF rfl) ?_
              refine RL.ev rfl rfl ev_move ?_
              refine RL.onEv rfl rfl (by decide) rfl rfl ev_move ?_
              refine RL.onEv rfl rfl (by decide) rfl rfl (ev_lenS Try.underlying23 (hN.sl 0 rfl) rfl) ?_
              refine RL.onEv rfl rfl (by decide) rfl rfl ev_move ?_
              refine RL.onEv rfl rfl (by decide) rfl rfl (ev_lenS Try.underlying23 (hN.sl 3 rfl) rfl) ?_
              refine RL.onEv rfl rfl (by decide) rfl rfl ev_move ?_
              refine RL.onEv rfl rfl (by decide) rfl rfl (ev_lenS Try.underlying23 (hmore.o.now hN) rfl) ?_
              refine RL.onEv rfl rfl (by decide) rfl rfl (ev_arith rfl rfl rfl (add64 (by omega) (by omega))) ?_
              refine RL.onEv rfl rfl (by decide) rfl rfl (ev_false (ev_gtr rfl rfl) (by omega)) ?_
              refine RL.ev rfl rfl (ev_pickF rfl) ?_
              refine RL.ev rfl rfl ev_move ?_
              refine RL.onEv rfl rfl (by decide) rfl rfl ev_move ?_
              refine RL.onEv rfl rfl (by decide) rfl rfl ev_move ?_
              refine RL.onEv rfl rfl (by decide) rfl rfl (ev_lenS Try.underlying23 (hN.sl 3 rfl) rfl) ?_
              refine RL.onEv rfl rfl (by decide) rfl rfl (ev_cutTo Try.underlying23 sz5 (hN.sl 0 rfl) rfl rfl (by omega) (by omega)) ?_
              refine RL.onEv rfl rfl (by decide) rfl rfl ev_move ?_
              refine RL.on rfl rfl (by decide) rfl rfl (op_call2 Try.func18 rfl rfl rfl rfl ((same_true ((hN.sl 0 rfl).cutTo (by omega)) (hN.sl 3 rfl) (by rw [Int.toNat_natCast, List.take_append_of_le_length (Nat.le_refl _), List.take_length])).mono ?_))
              rintro _ _ ⟨rfl, rfl⟩
              refine RL.onEv rfl rfl (by decide) rfl rfl (ev_not rfl) ?_
              refine RL.ev rfl rfl (ev_pickF rfl) ?_
              refine RL.nil ?_
              refine thenN ?_
              refine RW.condF rfl ?_
              refine RW.skip ?_
              refine thenN ?_
              refine RW.seq ?_
              refine RW.seq ?_
              refine RW.region ?_
              refine RL.ev rfl rfl ev_move ?_
              refine RL.ev rfl rfl (ev_lenS Try.underlying23 (hN.sl 3 rfl) rfl) ?_
              refine RL.ev rfl rfl ev_assign ?_
              refine RL.nil ?_
              refine thenN ?_
              refine RW.block ?_
              refine RW.loop (fun k R0 w0' => ∃ q : Nat, R0 2 = (vh hm) ∧ R0 9 = .pointer (some ⟨g11, 0, none⟩) ∧ R0 10 = v15 ∧ R0 12 = v16 ∧ R0 13 = v19 ∧ R0 15 = .int .i64 ((q : Int)) ∧ Now w none_ w0' [.own vb 5 (v19) ((was ++ more.take m)), dskA 64 71 23 g11 (⟨((act ((act ((act d1 (⟨1, an, [], []⟩ : Disk.Op)).1) (⟨2, an, [], []⟩ : Disk.Op)).1) (⟨1, an, [], more⟩ : Disk.Op)).1).room, crash ms ((act ((act ((act d1 (⟨1, an, [], []⟩ : Disk.Op)).1) (⟨2, an, [], []⟩ : Disk.Op)).1) (⟨1, an, [], more⟩ : Disk.Op)).1).fs⟩ : Dk) B18, .own str 9 (v16) (names ((act ((act d1 (⟨1, an, [], []⟩ : Disk.Op)).1) (⟨2, an, [], []⟩ : Disk.Op)).1).fs), .own vb 5 (v15) (was)] ∧ (q + k = (was ++ more.take m).length) ∧ (was.length ≤ q)) (m) ?_ ?_
              · skip
                exact ⟨was.length, rfl, rfl, rfl, rfl, rfl, rfl, hN, by omega, Nat.le_refl _⟩
              · skip
                clear hN
                rintro k R0 w0' ⟨q, hr2_, hr9_, hr10_, hr12_, hr13_, hr15_, hN, hqk, hwq⟩
                have hR_ : ∃ R0_, R0 = (upd (upd (upd (upd (upd (upd R0_ 2 _) 9 _) 10 _) 12 _) 13 _) 15 _) := ⟨R0, by rw [upd_self hr2_, upd_self hr9_, upd_self hr10_, upd_self hr12_, upd_self hr13_, upd_self hr15_]⟩
                obtain ⟨R0_, rfl⟩ := hR_
                clear hr2_ hr9_ hr10_ hr12_ hr13_ hr15_
                refine RW.seq ?_
                refine RW.seq ?_
                refine RW.region ?_
                refine RL.ev rfl rfl ev_move ?_
                refine RL.ev rfl rfl ev_move ?_
                refine RL.ev rfl rfl (ev_lenS Try.underlying23 (hN.sl 0 rfl) rfl) ?_
                refine RL.ev rfl rfl (ev_lss rfl rfl) ?_
                refine RL.nil ?_
                refine thenN ?_
                refine RW.condP _ rfl (fun hlt => ?_) (fun hlt => ?_)
                · skip
                  refine RW.skip ?_
                  refine thenN ?_
                  refine RW.seq ?_
                  refine RW.block ?_
                  refine RW.seq ?_
                  refine RW.draw rfl (fun u => Now w none_ u [.own vb 5 (v19) ((was ++ more.take m)), dskA 64 71 23 g11 (⟨((act ((act ((act d1 (⟨1, an, [], []⟩ : Disk.Op)).1) (⟨2, an, [], []⟩ : Disk.Op)).1) (⟨1, an, [], more⟩ : Disk.Op)).1).room, crash ms ((act ((act ((act d1 (⟨1, an, [], []⟩ : Disk.Op)).1) (⟨2, an, [], []⟩ : Disk.Op)).1) (⟨1, an, [], more⟩ : Disk.Op)).1).fs⟩ : Dk) B18, .own str 9 (v16) (names ((act ((act d1 (⟨1, an, [], []⟩ : Disk.Op)).1) (⟨2, an, [], []⟩ : Disk.Op)).1).fs), .own vb 5 (v15) (was)]) ?_
                  replace hN := hN.ext (Ext.drew w0')
                  refine RA.take (i := 0) rfl rfl (by kernel_rfl) (by kernel_rfl) (by kernel_rfl) (by intro _ _ _ h; exact h) rfl hN (fun w hS => ev_move) ?_
                  refine RA.take (i := 1) rfl rfl (by kernel_rfl) (by kernel_rfl) (by kernel_rfl) (by intro _ _ _ h; exact h) rfl hN (fun w hS => ev_move) ?_
                  refine RA.take (i := 2) rfl rfl (by kernel_rfl) (by kernel_rfl) (by kernel_rfl) (by intro _ _ _ h; exact h) rfl hN (fun w hS => (ev_index Try.underlying23 sz5 (hS.sl 0 rfl) rfl rfl (by omega) (by omega))) ?_
                  have hOb_ : ∃ a_, ((was ++ more.take m))[q]? = some a_ := ⟨_, List.getElem?_eq_getElem (by omega)⟩
                  obtain ⟨ap, hap⟩ := hOb_
                  have hlt_ap := UInt8.toNat_lt ap
                  refine RA.take (i := 3) rfl rfl (by kernel_rfl) (by kernel_rfl) (by kernel_rfl) (by intro _ _ _ h; exact h) rfl hN (fun w hS => (ev_loadG (m := q) (a := ap) Try.underlying5 rfl (hS.sl 0 rfl) rfl hap)) ?_
                  refine RA.take (i := 4) rfl rfl (by kernel_rfl) (by kernel_rfl) (by kernel_rfl) (by intro _ _ _ h; exact h) rfl hN (fun w hS => ev_move) ?_
                  refine RA.take (i := 5) rfl rfl (by kernel_rfl) (by kernel_rfl) (by kernel_rfl) (by intro _ _ _ h; exact h) rfl hN (fun w hS => ev_move) ?_
                  refine RA.take (i := 6) rfl rfl (by kernel_rfl) (by kernel_rfl) (by kernel_rfl) (by intro _ _ _ h; exact h) rfl hN (fun w hS => ev_move) ?_
                  refine RA.take (i := 7) rfl rfl (by kernel_rfl) (by kernel_rfl) (by kernel_rfl) (by intro _ _ _ h; exact h) rfl hN (fun w hS => (ev_lenS Try.underlying23 (hS.sl 3 rfl) rfl)) ?_
                  refine RA.take (i := 8) rfl rfl (by kernel_rfl) (by kernel_rfl) (by kernel_rfl) (by intro _ _ _ h; exact h) rfl hN (fun w hS => (ev_arith rfl rfl rfl (sub64 (by omega) (by omega)))) ?_
                  refine RA.take (i := 9) rfl rfl (by kernel_rfl) (by kernel_rfl) (by kernel_rfl) (by intro _ _ _ h; exact h) rfl hN (fun w hS => (ev_index Try.underlying23 sz5 (hmore.o.now hS) rfl rfl (by omega) (by omega))) ?_
                  have hOb_ : ∃ a_, (more)[((q : Int) - (was.length : Int)).toNat]? = some a_ := ⟨_, List.getElem?_eq_getElem (by omega)⟩
                  obtain ⟨ar, har⟩ := hOb_
                  have hlt_ar := UInt8.toNat_lt ar
                  refine RA.take (i := 10) rfl rfl (by kernel_rfl) (by kernel_rfl) (by kernel_rfl) (by intro _ _ _ h; exact h) rfl hN (fun w hS => (ev_loadG (m := ((q : Int) - (was.length : Int)).toNat) (a := ar) Try.underlying5 rfl (hmore.o.now hS) rfl har)) ?_
                  refine RA.take (i := 11) rfl rfl (by kernel_rfl) (by kernel_rfl) (by kernel_rfl) (by intro _ _ _ h; exact h) rfl hN (fun w hS => (ev_false (ev_neq rfl rfl) (fun h => h (by rw [lasts_get hap hwq har])))) ?_
                  refine RA.take (i := 12) rfl rfl (by kernel_rfl) (by kernel_rfl) (by kernel_rfl) (by intro _ _ _ h; exact h) rfl hN (fun w hS => ev_move) ?_
                  refine RA.takeOff (i := 13) rfl rfl rfl (by decide) rfl (by kernel_rfl) (by kernel_rfl) (by kernel_rfl) (by intro _ _ _ h; exact h) rfl hN ?_
                  refine RA.takeOff (i := 14) rfl rfl rfl (by decide) rfl (by kernel_rfl) (by kernel_rfl) (by kernel_rfl) (by intro _ _ _ h; exact h) rfl hN ?_
                  refine RA.takeOff (i := 15) rfl rfl rfl (by decide) rfl (by kernel_rfl) (by kernel_rfl) (by kernel_rfl) (by intro _ _ _ h; exact h) rfl hN ?_
                  refine RA.takeOff (i := 16) rfl rfl rfl (by decide) rfl (by kernel_rfl) (by kernel_rfl) (by kernel_rfl) (by intro _ _ _ h; exact h) rfl hN ?_
                  refine RA.takeOff (i := 17) rfl rfl rfl (by decide) rfl (by kernel_rfl) (by kernel_rfl) (by kernel_rfl) (by intro _ _ _ h; exact h) rfl hN ?_
                  refine RA.take (i := 18) rfl rfl (by kernel_rfl) (by kernel_rfl) (by kernel_rfl) (by intro _ _ _ h; exact h) rfl hN (fun w hS => (ev_pickF rfl)) ?_
                  refine RA.done (by kernel_rfl) ?_
                  refine thenN ?_
                  refine RW.condF rfl ?_
                  refine RW.skip ?_
                  refine blockN ?_
                  refine thenN ?_
                  refine RW.region ?_
                  refine RL.ev rfl rfl ev_move ?_
                  refine RL.ev rfl rfl (ev_arith rfl rfl rfl (add64 (by omega) (by omega))) ?_
                  refine RL.ev rfl rfl ev_assign ?_
                  refine RL.nil ?_
                  refine thenN ?_
                  exact ⟨k - 1, by omega, q + 1, rfl, rfl, rfl, rfl, rfl, rfl, hN, by omega, by omega⟩
                · skip
                  refine RW.exit ?_
                  refine thenX ?_
                  refine thenX ?_
                  refine blockHit ?_
                  refine thenN ?_
                  refine RW.seq ?_
                  refine RW.region ?_
                  refine RL.ev rfl rfl ev_move ?_
                  refine RL.op rfl rfl (op_call1 Try.func16 rfl rfl rfl ((names_calls _ (⟨((act ((act ((act d1 (⟨1, an, [], []⟩ : Disk.Op)).1) (⟨2, an, [], []⟩ : Disk.Op)).1) (⟨1, an, [], more⟩ : Disk.Op)).1).room, crash ms ((act ((act ((act d1 (⟨1, an, [], []⟩ : Disk.Op)).1) (⟨2, an, [], []⟩ : Disk.Op)).1) (⟨1, an, [], more⟩ : Disk.Op)).1).fs⟩ : Dk) _ _ (dsk_says (hN.says 1 _ rfl)) ((((hfit1.act (⟨1, an, [], []⟩ : Disk.Op)).act (⟨2, an, [], []⟩ : Disk.Op)).act (⟨1, an, [], more⟩ : Disk.Op)).crashed ms) (by omega)).mono ?_))
                  rintro v23 w23 ⟨ho_, he_⟩
                  have hN_ := hN.pushOwn (l := names (⟨((act ((act ((act d1 (⟨1, an, [], []⟩ : Disk.Op)).1) (⟨2, an, [], []⟩ : Disk.Op)).1) (⟨1, an, [], more⟩ : Disk.Op)).1).room, crash ms ((act ((act ((act d1 (⟨1, an, [], []⟩ : Disk.Op)).1) (⟨2, an, [], []⟩ : Disk.Op)).1) (⟨1, an, [], more⟩ : Disk.Op)).1).fs⟩ : Dk).fs) ho_ he_
                  clear ho_ he_
                  clear hN
                  have hN : Now w none_ w23 [_, _, _, _, _] := hN_
                  clear hN_
                  refine RL.ev rfl rfl ev_move ?_
                  refine RL.op rfl rfl (op_call2 Try.func19 rfl rfl rfl rfl ((sameNames_true (hN.sl 0 rfl) (hN.sl 3 rfl) hx4).mono ?_))
                  rintro _ w24 ⟨rfl, he_⟩
                  replace hN := hN.ext he_
                  clear he_
                  refine RL.ev rfl rfl ev_move ?_
                  refine RL.on rfl rfl (by decide) rfl rfl (op_call0 Try.func11 rfl rfl ((known_calls _).mono ?_))
                  rintro _ w25 ⟨rfl, he_⟩
                  replace hN := hN.ext he_
                  clear he_
                  refine RL.ev rfl rfl (ev_pickT rfl) ?_
                  refine RL.ev rfl rfl ev_assign ?_
                  refine RL.nil ?_
                  refine thenN ?_
                  refine RW.ret ?_
                  refine retI (RV.tmp rfl) ?_
                  exact ⟨rfl, hN.ext0⟩

end Go.Proofs.Ytlblpiapeieofaa
