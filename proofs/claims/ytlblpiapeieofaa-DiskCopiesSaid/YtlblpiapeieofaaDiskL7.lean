import Derived.Test.YtlblpiapeieofaaDiskL0
import Derived.Test.YtlblpiapeieofaaDiskOpen
import Derived.Test.YtlblpiapeieofaaDiskPlain2
set_option linter.unusedVariables false
set_option linter.unusedSimpArgs false
namespace Go.Proofs.Ytlblpiapeieofaa
open Go.RowKit Go.Rl

open Go.Disk
set_option maxHeartbeats 4000000 in
set_option maxRecDepth 100000 in
/-- postroad/postroadlaw04.DiskCopies -/
theorem diskCopies_calls (Lv : Value) (os : List OH) (xs : List Disk.Op) (x : Disk.Op) (hx : Hd) (w : World) (hL : Sm ocells w Lv os) (hel : OEls none_ w os xs) (hS0 : ∀ x ∈ xs, SmallOp x) (hdat : Sl vb w (vh hx) x.data) (hsx : SmallOp x) : Gives Try.prog 8 #[Lv, opV x hx] w fun r w' => r = .bool true ∧ Ext w w' := by
  unfold opV
  refine Gives.start Try.func8 rfl (Nat.le_of_ble_eq_true rfl) ?_
  rw [args2]
  have hN := Now.nil w none_
  have hle := hel.1
  have hB : ∀ x ∈ xs, x.data.length ≤ 140737488355328 ∧ x.name.length ≤ 140737488355328 ∧ x.to.length ≤ 140737488355328 := fun x hx => ⟨by have := (hS0 x hx).1; omega, by have := (hS0 x hx).2.1; omega, by have := (hS0 x hx).2.2; omega⟩
  have hsx1 := hsx.1
  refine RW.seq ?_
  refine RW.region ?_
  refine RL.op rfl rfl (opN_box (cs := [.int .i64 (x.kind), (str x.name), (str x.to), (vh hx)]) rfl rfl hN ?_)
  intro g1 w1 hN_
  clear hN
  have hN : Now w none_ w1 [_] := hN_
  clear hN_
  refine RL.ev rfl rfl ev_assign ?_
  refine RL.nil ?_
  refine thenN ?_
  refine RW.seq ?_
  refine RW.seq ?_
  refine RW.region ?_
  refine RL.ev rfl rfl ev_move ?_
  refine RL.op rfl rfl (op_call1 Try.func10 rfl rfl rfl ((long_calls _ os xs _ (hL.o.now hN) (OEls.nowN hel hN) hB).mono ?_))
  rintro _ w2 ⟨z2, rfl, hz2, he_⟩
  replace hN := hN.ext he_
  clear he_
  refine RL.ev rfl rfl (ev_gtr rfl rfl) ?_
  refine RL.ev rfl rfl ev_move ?_
  by_cases hg1_3 : 800 < z2
  · skip
    rw [decide_eq_true hg1_3]
    refine RL.off rfl rfl (by decide) rfl rfl ?_
    refine RL.off rfl rfl (by decide) rfl rfl ?_
    refine RL.off rfl rfl (by decide) rfl rfl ?_
    refine RL.ev rfl rfl (ev_pickT rfl) ?_
    refine RL.ev rfl rfl ev_move ?_
    refine RL.off rfl rfl (by decide) rfl rfl ?_
    refine RL.off rfl rfl (by decide) rfl rfl ?_
    refine RL.off rfl rfl (by decide) rfl rfl ?_
    refine RL.off rfl rfl (by decide) rfl rfl ?_
    refine RL.ev rfl rfl (ev_pickT rfl) ?_
    refine RL.ev rfl rfl ev_move ?_
    refine RL.off rfl rfl (by decide) rfl rfl ?_
    refine RL.off rfl rfl (by decide) rfl rfl ?_
    refine RL.off rfl rfl (by decide) rfl rfl ?_
    refine RL.off rfl rfl (by decide) rfl rfl ?_
    refine RL.ev rfl rfl (ev_pickT rfl) ?_
    refine RL.nil ?_
    refine thenN ?_
    refine RW.condT rfl ?_
    refine RW.seq ?_
    refine RW.region ?_
    refine RL.op rfl rfl (op_call0 Try.func11 rfl rfl ((known_calls _).mono ?_))
    rintro _ w3 ⟨rfl, he_⟩
    replace hN := hN.ext he_
    clear he_
    refine RL.ev rfl rfl ev_assign ?_
    refine RL.nil ?_
    refine thenN ?_
    refine RW.ret ?_
    refine thenR ?_
    refine retI (RV.tmp rfl) ?_
    exact ⟨rfl, hN.ext0⟩
  · skip
    rw [decide_eq_false hg1_3]
    refine RL.onEv rfl rfl (by decide) rfl rfl ev_move ?_
    have hL_4 := (hL.o.now hN).len_le
    refine RL.onEv rfl rfl (by decide) rfl rfl (ev_lenM Try.underlying22 (hL.o.now hN) rfl) ?_
    refine RL.onEv rfl rfl (by decide) rfl rfl (ev_gtr rfl rfl) ?_
    refine RL.ev rfl rfl (ev_pickF rfl) ?_
    refine RL.ev rfl rfl ev_move ?_
    by_cases hg1_8 : 50 < (os.length : Int)
    · skip
      rw [decide_eq_true hg1_8]
      refine RL.off rfl rfl (by decide) rfl rfl ?_
      refine RL.off rfl rfl (by decide) rfl rfl ?_
      refine RL.off rfl rfl (by decide) rfl rfl ?_
      refine RL.off rfl rfl (by decide) rfl rfl ?_
      refine RL.ev rfl rfl (ev_pickT rfl) ?_
      refine RL.ev rfl rfl ev_move ?_
      refine RL.off rfl rfl (by decide) rfl rfl ?_
      refine RL.off rfl rfl (by decide) rfl rfl ?_
      refine RL.off rfl rfl (by decide) rfl rfl ?_
      refine RL.off rfl rfl (by decide) rfl rfl ?_
      refine RL.ev rfl rfl (ev_pickT rfl) ?_
      refine RL.nil ?_
      refine thenN ?_
      refine RW.condT rfl ?_
      refine RW.seq ?_
      refine RW.region ?_
      refine RL.op rfl rfl (op_call0 Try.func11 rfl rfl ((known_calls _).mono ?_))
      rintro _ w5 ⟨rfl, he_⟩
      replace hN := hN.ext he_
      clear he_
      refine RL.ev rfl rfl ev_assign ?_
      refine RL.nil ?_
      refine thenN ?_
      refine RW.ret ?_
      refine thenR ?_
      refine retI (RV.tmp rfl) ?_
      exact ⟨rfl, hN.ext0⟩
    · skip
      rw [decide_eq_false hg1_8]
      refine RL.onEv rfl rfl (by decide) rfl rfl (ev_fieldAddr Try.underlying33 rfl sz23 (by decide) rfl) ?_
      refine RL.onEv rfl rfl (by decide) rfl rfl (ev_loadB Try.underlying23 rfl rfl (hN.blk 0 rfl) rfl) ?_
      have hL_6 := (hdat.o.now hN).len_le
      refine RL.onEv rfl rfl (by decide) rfl rfl (ev_lenS Try.underlying23 (hdat.o.now hN) rfl) ?_
      refine RL.onEv rfl rfl (by decide) rfl rfl (ev_gtr rfl rfl) ?_
      refine RL.ev rfl rfl (ev_pickF rfl) ?_
      refine RL.ev rfl rfl ev_move ?_
      by_cases hg1_14 : 100 < (x.data.length : Int)
      · skip
        rw [decide_eq_true hg1_14]
        refine RL.off rfl rfl (by decide) rfl rfl ?_
        refine RL.off rfl rfl (by decide) rfl rfl ?_
        refine RL.off rfl rfl (by decide) rfl rfl ?_
        refine RL.off rfl rfl (by decide) rfl rfl ?_
        refine RL.ev rfl rfl (ev_pickT rfl) ?_
        refine RL.nil ?_
        refine thenN ?_
        refine RW.condT rfl ?_
        refine RW.seq ?_
        refine RW.region ?_
        refine RL.op rfl rfl (op_call0 Try.func11 rfl rfl ((known_calls _).mono ?_))
        rintro _ w7 ⟨rfl, he_⟩
        replace hN := hN.ext he_
        clear he_
        refine RL.ev rfl rfl ev_assign ?_
        refine RL.nil ?_
        refine thenN ?_
        refine RW.ret ?_
        refine thenR ?_
        refine retI (RV.tmp rfl) ?_
        exact ⟨rfl, hN.ext0⟩
      · skip
        rw [decide_eq_false hg1_14]
        refine RL.onEv rfl rfl (by decide) rfl rfl (ev_fieldAddr Try.underlying33 rfl sz9 (by decide) rfl) ?_
        refine RL.onEv rfl rfl (by decide) rfl rfl (ev_loadB Try.underlying9 rfl rfl (hN.blk 0 rfl) rfl) ?_
        refine RL.onEv rfl rfl (by decide) rfl rfl (ev_lenS' Try.underlying9 rfl) ?_
        refine RL.onEv rfl rfl (by decide) rfl rfl (ev_gtr rfl rfl) ?_
        refine RL.ev rfl rfl (ev_pickF rfl) ?_
        refine RL.nil ?_
        refine thenN ?_
        refine RW.condP _ rfl (fun hc33 => ?_) (fun hc33 => ?_)
        · skip
          refine RW.seq ?_
          refine RW.region ?_
          refine RL.op rfl rfl (op_call0 Try.func11 rfl rfl ((known_calls _).mono ?_))
          rintro _ w8 ⟨rfl, he_⟩
          replace hN := hN.ext he_
          clear he_
          refine RL.ev rfl rfl ev_assign ?_
          refine RL.nil ?_
          refine thenN ?_
          refine RW.ret ?_
          refine thenR ?_
          refine retI (RV.tmp rfl) ?_
          exact ⟨rfl, hN.ext0⟩
        · skip
          refine RW.skip ?_
          refine thenN ?_
          refine RW.seq ?_
          have h60 : xs.length ≤ 50 := by omega
          have hzl := hz2 (by omega)
          have hdl : ∀ x ∈ xs, x.data.length ≤ 1099511627776 := fun x hx => by have := longT_mem hx; omega
          refine RW.region ?_
          refine RL.op rfl rfl (op_call1 Try.func12 rfl rfl rfl ((new_calls (5000) _ (by decide) (by decide)).mono ?_))
          rintro _ w9 ⟨g9, B9, rfl, hC_⟩
          have hN_ := hN.call0 hC_
          clear hC_
          clear hN
          have hN : Now w none_ w9 [_, _] := hN_
          clear hN_
          replace hN : Now w none_ w9 [dskA 64 71 23 g9 (⟨5000, []⟩ : Dk) B9, .blk g1 [.int .i64 (x.kind), (str x.name), (str x.to), (vh hx)] 33] := hN
          refine RL.ev rfl rfl ev_assign ?_
          refine RL.nil ?_
          refine thenN ?_
          refine RW.seq ?_
          refine RW.region ?_
          refine RL.ev rfl rfl (ev_fieldAddr Try.underlying33 rfl sz23 (by decide) rfl) ?_
          refine RL.ev rfl rfl (ev_loadB Try.underlying23 rfl rfl (hN.blk 1 rfl) rfl) ?_
          refine RL.op rfl rfl (op_call1 Try.func29 rfl rfl rfl ((copy_calls _ x.data _ (hdat.o.now hN) (by (try simp only [List.length_append, List.length_take, List.length_drop, List.length_nil, List.length_cons, List.length_replicate, List.length_append]); omega)).mono ?_))
          rintro v10 w10 ⟨ho_, he_⟩
          have hN_ := hN.pushOwn (l := x.data) ho_ he_
          clear ho_ he_
          clear hN
          have hN : Now w none_ w10 [_, _, _] := hN_
          clear hN_
          refine RL.ev rfl rfl ev_assign ?_
          refine RL.nil ?_
          refine thenN ?_
          refine RW.seq ?_
          refine RW.region ?_
          refine RL.ev rfl rfl ev_move ?_
          refine RL.ev rfl rfl ev_move ?_
          refine RL.op rfl rfl (op_call2 Try.func13 rfl rfl rfl rfl ((run_calls g9 (⟨5000, []⟩ : Dk) B9 0 _ os xs _ (hN.pickL (M := [_]) [1] (by decide) rfl) (Fits.new (by decide) (by decide)) (by omega) (SmO.at ocells_ne hL.o hN 1 rfl) (OEls.at hel hN 1 rfl) hdl _ rfl).mono ?_))
          rintro _ w11 ⟨B11, rfl, hC_⟩
          have hN_ := Now.callA (M := [_]) (N := [_, _]) (hN.sub [1, 0, 2] (by decide) rfl) hC_
          clear hC_
          clear hN
          have hN : Now w none_ w11 [_, _, _] := hN_
          clear hN_
          replace hN : Now w none_ w11 [dskA 64 71 23 g9 ((run (⟨5000, []⟩ : Dk) xs).1) B11, .own vb 5 (v10) (x.data), .blk g1 [.int .i64 (x.kind), (str x.name), (str x.to), (vh hx)] 33] := hN
          refine RL.nil ?_
          refine thenN ?_
          refine RW.seq ?_
          refine RW.region ?_
          refine RL.ev rfl rfl ev_move ?_
          refine RL.ev rfl rfl (ev_fieldAddr Try.underlying33 rfl sz3 (by decide) rfl) ?_
          refine RL.ev rfl rfl (ev_loadB Try.underlying3 rfl rfl (hN.blk 2 rfl) rfl) ?_
          refine RL.ev rfl rfl (ev_fieldAddr Try.underlying33 rfl sz9 (by decide) rfl) ?_
          refine RL.ev rfl rfl (ev_loadB Try.underlying9 rfl rfl (hN.blk 2 rfl) rfl) ?_
          refine RL.ev rfl rfl (ev_fieldAddr Try.underlying33 rfl sz9 (by decide) rfl) ?_
          refine RL.ev rfl rfl (ev_loadB Try.underlying9 rfl rfl (hN.blk 2 rfl) rfl) ?_
          refine RL.ev rfl rfl ev_move ?_
          refine RL.ev rfl rfl (ev_buildL (cs := [.int .i64 (x.kind), (str x.name), (str x.to), v10]) Try.underlying33 zero33 (places := #[(0, 1), (1, 1), (2, 1), (3, 1)]) (by intro w; kernel_rfl) (pl := [(0, .tmp 44), (1, .tmp 46), (2, .tmp 48), (3, .tmp 49)]) rfl (ps := [(0, .int .i64 (x.kind)), (1, (str x.name)), (2, (str x.to)), (3, v10)]) rfl (zc := [.int .i64 (0), .string ByteArray.empty, .string ByteArray.empty, .slice none 0 0]) rfl (fill_step (vs := [.int .i64 (x.kind)]) rfl rfl (Nat.le_of_ble_eq_true rfl) (fill_step (vs := [(str x.name)]) rfl rfl (Nat.le_of_ble_eq_true rfl) (fill_step (vs := [(str x.to)]) rfl rfl (Nat.le_of_ble_eq_true rfl) (fill_step (vs := [v10]) (hN.sl 1 rfl).cells1 rfl (Nat.le_of_ble_eq_true rfl) rfl))))) ?_
          have hOb_ := (hN.sl 1 rfl).hd
          obtain ⟨h13, hq_⟩ := hOb_
          subst hq_
          refine RL.op rfl rfl (op_call2 Try.func14 rfl rfl rfl rfl ((do_calls g9 ((run (⟨5000, []⟩ : Dk) xs).1) B11 (0 + xs.length) x h13 _ (hN.pickL (M := [_]) [0] (by decide) rfl) (run_fits xs (Fits.new (by decide) (by decide))) (by omega) (SlO.ofOwn hN 1 0 rfl rfl (by decide)) (by omega) _ rfl).mono ?_))
          rintro _ w12 ⟨B12, rfl, hC_⟩
          have hN_ := Now.callA (M := [_]) (N := [_, _]) (hN.sub [0, 1, 2] (by decide) rfl) hC_
          clear hC_
          clear hN
          have hN : Now w none_ w12 [_, _, _] := hN_
          clear hN_
          replace hN : Now w none_ w12 [dskA 64 71 23 g9 ((act ((run (⟨5000, []⟩ : Dk) xs).1) x).1) B12, .own vb 5 ((vh h13)) (x.data), .blk g1 [.int .i64 (x.kind), (str x.name), (str x.to), (vh hx)] 33] := hN
          refine RL.nil ?_
          refine thenN ?_
          refine RW.seq ?_
          refine RW.region ?_
          refine RL.ev rfl rfl (ev_buildL (cs := [.int .i64 (5000), .slice none 0 0]) Try.underlying45 zero45 (places := #[(0, 1), (1, 1)]) (by intro w; kernel_rfl) (pl := [(0, .const (.int .i64 (5000)))]) rfl (ps := [(0, .int .i64 (5000))]) rfl (zc := [.int .i64 (0), .slice none 0 0]) rfl (fill_step (vs := [.int .i64 (5000)]) rfl rfl (Nat.le_of_ble_eq_true rfl) rfl)) ?_
          refine RL.ev rfl rfl ev_move ?_
          refine RL.op rfl rfl (op_call2 Try.func26 rfl rfl rfl rfl ((refRun_calls (foots [dskA 64 71 23 g9 ((act ((run (⟨5000, []⟩ : Dk) xs).1) x).1) B12, .own vb 5 ((vh h13)) (x.data), .blk g1 [.int .i64 (x.kind), (str x.name), (str x.to), (vh hx)] 33]) (fun k hk => hN.feetLt hk) (⟨5000, []⟩ : Dk) _ ([]) 0 _ os xs (SmO.nil _ _ _) (Pair.nil _) (Fits.new (by decide) (by decide)) (by omega) (SmO.step ocells_ne hL.o hN) (OEls.step hel hN) hdl _ rfl).mono ?_))
          rintro _ w14 ⟨Lv14, hs14, rfl, hS14, hE14, he_⟩
          replace hN := hN.ext he_
          clear he_
          have hF15 := hN
          clear hN
          have hN := hF15.here
          replace hN : Now w14 (foots [dskA 64 71 23 g9 ((act ((run (⟨5000, []⟩ : Dk) xs).1) x).1) B12, .own vb 5 ((vh h13)) (x.data), .blk g1 [.int .i64 (x.kind), (str x.name), (str x.to), (vh hx)] 33]) w14 [dskA 64 71 23 g9 ((act ((run (⟨5000, []⟩ : Dk) xs).1) x).1) B12, .own vb 5 ((vh h13)) (x.data), .blk g1 [.int .i64 (x.kind), (str x.name), (str x.to), (vh hx)] 33] := hN
          refine RL.ev rfl rfl ev_move ?_
          refine RL.ev rfl rfl (ev_extract rfl rfl) ?_
          refine RL.ev rfl rfl (ev_extract rfl rfl) ?_
          refine RL.op rfl rfl (opN_alloc (cs := [.int .i64 (0), .slice none 0 0]) zero45 rfl hN ?_)
          intro g16 w16 hN_
          clear hN
          have hN : Now w14 (foots [dskA 64 71 23 g9 ((act ((run (⟨5000, []⟩ : Dk) xs).1) x).1) B12, .own vb 5 ((vh h13)) (x.data), .blk g1 [.int .i64 (x.kind), (str x.name), (str x.to), (vh hx)] 33]) w16 [_, _, _, _] := hN_
          clear hN_
          refine RL.op rfl rfl (opN_storeAll (vs := [.int .i64 ((run (⟨5000, []⟩ : Dk) xs).1.room), Lv14]) sz45 rfl rfl rfl (by intro u hu; simp only [List.mem_cons, List.not_mem_nil, or_false] at hu; rcases hu with rfl | rfl <;> first | rfl | exact (hS14.now hN).one1) hN 0 rfl rfl ?_)
          intro w17 hN_
          clear hN
          have hN : Now w14 (foots [dskA 64 71 23 g9 ((act ((run (⟨5000, []⟩ : Dk) xs).1) x).1) B12, .own vb 5 ((vh h13)) (x.data), .blk g1 [.int .i64 (x.kind), (str x.name), (str x.to), (vh hx)] 33]) w17 [_, _, _, _] := hN_
          clear hN_
          refine RL.ev rfl rfl ev_assign ?_
          refine RL.nil ?_
          refine thenN ?_
          refine RW.seq ?_
          refine RW.region ?_
          refine RL.ev rfl rfl (ev_loadAll (cs := [.int .i64 ((run (⟨5000, []⟩ : Dk) xs).1.room), Lv14]) Try.underlying45 rfl sz45 rfl (hN.blk 0 rfl)) ?_
          refine RL.ev rfl rfl (ev_loadAll (cs := [.int .i64 (x.kind), (str x.name), (str x.to), (vh hx)]) Try.underlying33 rfl sz33 rfl (hN.blk 3 rfl)) ?_
          refine RL.op rfl rfl (op_call2 Try.func21 rfl rfl rfl rfl ((refDo_calls (foots [.blk g16 [.int .i64 ((run (⟨5000, []⟩ : Dk) xs).1.room), Lv14] 45, dskA 64 71 23 g9 ((act ((run (⟨5000, []⟩ : Dk) xs).1) x).1) B12, .own vb 5 ((vh h13)) (x.data), .blk g1 [.int .i64 (x.kind), (str x.name), (str x.to), (vh hx)] 33]) (fun k hk => hN.feetLt hk) ((run (⟨5000, []⟩ : Dk) xs).1) _ hs14 (0 + xs.length) x hx (SmO.step fcells_ne hS14 hN) (FEls.step hE14 hN) (run_fits xs (Fits.new (by decide) (by decide))) (by omega) ((hdat.o.step hF15).step hN) (by omega) _ rfl).mono ?_))
          rintro _ w18 ⟨Lv18, hs18, rfl, hS18, hE18, he_⟩
          replace hN := hN.ext he_
          clear he_
          have hF20 := hN
          clear hN
          have hN := hF20.here
          replace hN : Now w18 (foots [.blk g16 [.int .i64 ((run (⟨5000, []⟩ : Dk) xs).1.room), Lv14] 45, dskA 64 71 23 g9 ((act ((run (⟨5000, []⟩ : Dk) xs).1) x).1) B12, .own vb 5 ((vh h13)) (x.data), .blk g1 [.int .i64 (x.kind), (str x.name), (str x.to), (vh hx)] 33]) w18 [.blk g16 [.int .i64 ((run (⟨5000, []⟩ : Dk) xs).1.room), Lv14] 45, dskA 64 71 23 g9 ((act ((run (⟨5000, []⟩ : Dk) xs).1) x).1) B12, .own vb 5 ((vh h13)) (x.data), .blk g1 [.int .i64 (x.kind), (str x.name), (str x.to), (vh hx)] 33] := hN
          refine RL.ev rfl rfl ev_move ?_
          refine RL.ev rfl rfl (ev_extract rfl rfl) ?_
          refine RL.ev rfl rfl (ev_extract rfl rfl) ?_
          refine RL.op rfl rfl (opN_storeAll (vs := [.int .i64 ((act ((run (⟨5000, []⟩ : Dk) xs).1) x).1.room), Lv18]) sz45 rfl rfl rfl (by intro u hu; simp only [List.mem_cons, List.not_mem_nil, or_false] at hu; rcases hu with rfl | rfl <;> first | rfl | exact (hS18.now hN).one1) hN 0 rfl rfl ?_)
          intro w21 hN_
          clear hN
          have hN : Now w18 (foots [.blk g16 [.int .i64 ((run (⟨5000, []⟩ : Dk) xs).1.room), Lv14] 45, dskA 64 71 23 g9 ((act ((run (⟨5000, []⟩ : Dk) xs).1) x).1) B12, .own vb 5 ((vh h13)) (x.data), .blk g1 [.int .i64 (x.kind), (str x.name), (str x.to), (vh hx)] 33]) w21 [_, _, _, _] := hN_
          clear hN_
          refine RL.nil ?_
          refine thenN ?_
          refine RW.seq ?_
          refine RW.seq ?_
          refine RW.region ?_
          refine RL.ev rfl rfl ev_assign ?_
          refine RL.nil ?_
          refine thenN ?_
          refine RW.block ?_
          refine RW.loop (fun ki R0 w0' => ∃ acc : List UInt8, ∃ i : Nat, R0 3 = .pointer (some ⟨g1, 0, none⟩) ∧ R0 5 = .pointer (some ⟨g9, 0, none⟩) ∧ R0 6 = (vh h13) ∧ R0 7 = .pointer (some ⟨g16, 0, none⟩) ∧ R0 9 = .int .i64 ((i : Int)) ∧ Now w18 (foots [.blk g16 [.int .i64 ((run (⟨5000, []⟩ : Dk) xs).1.room), Lv14] 45, dskA 64 71 23 g9 ((act ((run (⟨5000, []⟩ : Dk) xs).1) x).1) B12, .own vb 5 ((vh h13)) (x.data), .blk g1 [.int .i64 (x.kind), (str x.name), (str x.to), (vh hx)] 33]) w0' [.blk g16 [.int .i64 ((act ((run (⟨5000, []⟩ : Dk) xs).1) x).1.room), Lv18] 45, dskA 64 71 23 g9 ((act ((run (⟨5000, []⟩ : Dk) xs).1) x).1) B12, .own vb 5 ((vh h13)) (acc), .blk g1 [.int .i64 (x.kind), (str x.name), (str x.to), (vh hx)] 33] ∧ (i + ki = x.data.length) ∧ (acc.length = x.data.length)) (x.data.length) ?_ ?_
          · skip
            exact ⟨x.data, 0, rfl, rfl, rfl, rfl, rfl, hN, by omega, rfl⟩
          · skip
            clear hN
            rintro ki R0 w0' ⟨acc, i, hr3_, hr5_, hr6_, hr7_, hr9_, hN, hki, hla⟩
            have hR_ : ∃ R0_, R0 = (upd (upd (upd (upd (upd R0_ 3 _) 5 _) 6 _) 7 _) 9 _) := ⟨R0, by rw [upd_self hr3_, upd_self hr5_, upd_self hr6_, upd_self hr7_, upd_self hr9_]⟩
            obtain ⟨R0_, rfl⟩ := hR_
            clear hr3_ hr5_ hr6_ hr7_ hr9_
            refine RW.seq ?_
            refine RW.seq ?_
            refine RW.region ?_
            refine RL.ev rfl rfl ev_move ?_
            refine RL.ev rfl rfl ev_move ?_
            have hL_22 := (hN.sl 2 rfl).len_le
            refine RL.ev rfl rfl (ev_lenS Try.underlying23 (hN.sl 2 rfl) rfl) ?_
            refine RL.ev rfl rfl (ev_lss rfl rfl) ?_
            refine RL.nil ?_
            refine thenN ?_
            refine RW.condP _ rfl (fun hlt => ?_) (fun hlt => ?_)
            · skip
              refine RW.skip ?_
              refine thenN ?_
              refine RW.seq ?_
              refine RW.block ?_
              refine RW.region ?_
              refine RL.ev rfl rfl ev_move ?_
              refine RL.ev rfl rfl ev_move ?_
              refine RL.ev rfl rfl (ev_index Try.underlying23 sz5 (hN.sl 2 rfl) rfl rfl (by omega) (by omega)) ?_
              refine RL.op rfl rfl (opN_storeOwn (m := i) (a := 99) sz5 hN 2 rfl rfl (by omega) rfl rfl rfl rfl ?_)
              intro w23 hN_
              clear hN
              have hN : Now w18 (foots [.blk g16 [.int .i64 ((run (⟨5000, []⟩ : Dk) xs).1.room), Lv14] 45, dskA 64 71 23 g9 ((act ((run (⟨5000, []⟩ : Dk) xs).1) x).1) B12, .own vb 5 ((vh h13)) (x.data), .blk g1 [.int .i64 (x.kind), (str x.name), (str x.to), (vh hx)] 33]) w23 [_, _, _, _] := hN_
              clear hN_
              refine RL.nil ?_
              refine blockN ?_
              refine thenN ?_
              refine RW.region ?_
              refine RL.ev rfl rfl ev_move ?_
              refine RL.ev rfl rfl (ev_arith rfl rfl rfl (add64 (by omega) (by omega))) ?_
              refine RL.ev rfl rfl ev_assign ?_
              refine RL.nil ?_
              refine thenN ?_
              exact ⟨ki - 1, by omega, (acc).set i (99), i + 1, rfl, rfl, rfl, rfl, rfl, hN, by omega, by rw [List.length_set]; exact hla⟩
            · skip
              refine RW.exit ?_
              refine thenX ?_
              refine thenX ?_
              refine blockHit ?_
              refine thenN ?_
              refine RW.seq ?_
              refine RW.region ?_
              refine RL.ev rfl rfl ev_move ?_
              refine RL.op rfl rfl (op_call1 Try.func27 rfl rfl rfl ((copy_disk g9 ((act ((run (⟨5000, []⟩ : Dk) xs).1) x).1) _ _ (dsk_says (hN.says 1 _ rfl)) ((run_fits xs (Fits.new (by decide) (by decide))).act x) (by omega)).mono ?_))
              rintro _ w24 ⟨g24, B24, rfl, hC_⟩
              have hN_ := hN.call0 hC_
              clear hC_
              clear hN
              have hN : Now w18 (foots [.blk g16 [.int .i64 ((run (⟨5000, []⟩ : Dk) xs).1.room), Lv14] 45, dskA 64 71 23 g9 ((act ((run (⟨5000, []⟩ : Dk) xs).1) x).1) B12, .own vb 5 ((vh h13)) (x.data), .blk g1 [.int .i64 (x.kind), (str x.name), (str x.to), (vh hx)] 33]) w24 [_, _, _, _, _] := hN_
              clear hN_
              replace hN : Now w18 (foots [.blk g16 [.int .i64 ((run (⟨5000, []⟩ : Dk) xs).1.room), Lv14] 45, dskA 64 71 23 g9 ((act ((run (⟨5000, []⟩ : Dk) xs).1) x).1) B12, .own vb 5 ((vh h13)) (x.data), .blk g1 [.int .i64 (x.kind), (str x.name), (str x.to), (vh hx)] 33]) w24 [dskA 64 71 23 g24 ((act ((run (⟨5000, []⟩ : Dk) xs).1) x).1) B24, .blk g16 [.int .i64 ((act ((run (⟨5000, []⟩ : Dk) xs).1) x).1.room), Lv18] 45, dskA 64 71 23 g9 ((act ((run (⟨5000, []⟩ : Dk) xs).1) x).1) B12, .own vb 5 ((vh h13)) (acc), .blk g1 [.int .i64 (x.kind), (str x.name), (str x.to), (vh hx)] 33] := hN
              refine RL.ev rfl rfl ev_assign ?_
              refine RL.nil ?_
              refine thenN ?_
              refine RW.seq ?_
              refine RW.region ?_
              refine RL.ev rfl rfl ev_move ?_
              refine RL.ev rfl rfl (ev_fieldAddr Try.underlying33 rfl sz9 (by decide) rfl) ?_
              refine RL.ev rfl rfl (ev_loadB Try.underlying9 rfl rfl (hN.blk 4 rfl) rfl) ?_
              refine RL.op rfl rfl (op_call2 Try.func15 rfl rfl rfl rfl ((read_calls _ ((act ((run (⟨5000, []⟩ : Dk) xs).1) x).1) x.name _ _ (dsk_says (hN.says 2 _ rfl)) ((run_fits xs (Fits.new (by decide) (by decide))).act x) (by omega) _ rfl).mono ?_))
              rintro _ w25 ⟨v25, rfl, ho_, he_⟩
              have hN_ := hN.pushOwn ho_ he_
              clear ho_ he_
              clear hN
              have hN : Now w18 (foots [.blk g16 [.int .i64 ((run (⟨5000, []⟩ : Dk) xs).1.room), Lv14] 45, dskA 64 71 23 g9 ((act ((run (⟨5000, []⟩ : Dk) xs).1) x).1) B12, .own vb 5 ((vh h13)) (x.data), .blk g1 [.int .i64 (x.kind), (str x.name), (str x.to), (vh hx)] 33]) w25 [_, _, _, _, _, _] := hN_
              clear hN_
              refine RL.ev rfl rfl ev_move ?_
              refine RL.ev rfl rfl (ev_extract rfl rfl) ?_
              refine RL.ev rfl rfl (ev_extract rfl rfl) ?_
              refine RL.ev rfl rfl ev_assign ?_
              refine RL.ev rfl rfl ev_assign ?_
              refine RL.nil ?_
              refine thenN ?_
              refine RW.seq ?_
              refine RW.seq ?_
              have hrl := read_len ((run_fits xs (Fits.new (room := 5000) (by decide) (by decide))).act x) x.name
              refine RW.region ?_
              refine RL.ev rfl rfl ev_assign ?_
              refine RL.nil ?_
              refine thenN ?_
              refine RW.block ?_
              refine RW.loop (fun kq R1 w1' => ∃ acc2 : List UInt8, ∃ q : Nat, R1 3 = .pointer (some ⟨g1, 0, none⟩) ∧ R1 5 = .pointer (some ⟨g9, 0, none⟩) ∧ R1 7 = .pointer (some ⟨g16, 0, none⟩) ∧ R1 10 = .pointer (some ⟨g24, 0, none⟩) ∧ R1 11 = v25 ∧ R1 13 = .int .i64 ((q : Int)) ∧ Now w18 (foots [.blk g16 [.int .i64 ((run (⟨5000, []⟩ : Dk) xs).1.room), Lv14] 45, dskA 64 71 23 g9 ((act ((run (⟨5000, []⟩ : Dk) xs).1) x).1) B12, .own vb 5 ((vh h13)) (x.data), .blk g1 [.int .i64 (x.kind), (str x.name), (str x.to), (vh hx)] 33]) w1' [.own vb 5 (v25) (acc2), dskA 64 71 23 g24 ((act ((run (⟨5000, []⟩ : Dk) xs).1) x).1) B24, .blk g16 [.int .i64 ((act ((run (⟨5000, []⟩ : Dk) xs).1) x).1.room), Lv18] 45, dskA 64 71 23 g9 ((act ((run (⟨5000, []⟩ : Dk) xs).1) x).1) B12, .own vb 5 ((vh h13)) (acc), .blk g1 [.int .i64 (x.kind), (str x.name), (str x.to), (vh hx)] 33] ∧ (q + kq = (read ((act (run (⟨5000, []⟩ : Dk) xs).1 x).1) x.name).1.length) ∧ (acc2.length = (read ((act (run (⟨5000, []⟩ : Dk) xs).1 x).1) x.name).1.length)) ((read ((act (run (⟨5000, []⟩ : Dk) xs).1 x).1) x.name).1.length) ?_ ?_
              · skip
                exact ⟨(read ((act (run (⟨5000, []⟩ : Dk) xs).1 x).1) x.name).1, 0, rfl, rfl, rfl, rfl, rfl, rfl, hN, by omega, rfl⟩
              · skip
                clear hN
                rintro kq R1 w1' ⟨acc2, q, hr3_, hr5_, hr7_, hr10_, hr11_, hr13_, hN, hkq, hlb⟩
                have hR_ : ∃ R1_, R1 = (upd (upd (upd (upd (upd (upd R1_ 3 _) 5 _) 7 _) 10 _) 11 _) 13 _) := ⟨R1, by rw [upd_self hr3_, upd_self hr5_, upd_self hr7_, upd_self hr10_, upd_self hr11_, upd_self hr13_]⟩
                obtain ⟨R1_, rfl⟩ := hR_
                clear hr3_ hr5_ hr7_ hr10_ hr11_ hr13_
                refine RW.seq ?_
                refine RW.seq ?_
                refine RW.region ?_
                refine RL.ev rfl rfl ev_move ?_
                refine RL.ev rfl rfl ev_move ?_
                have hL_26 := (hN.sl 0 rfl).len_le
                refine RL.ev rfl rfl (ev_lenS Try.underlying23 (hN.sl 0 rfl) rfl) ?_
                refine RL.ev rfl rfl (ev_lss rfl rfl) ?_
                refine RL.nil ?_
                refine thenN ?_
                refine RW.condP _ rfl (fun hlt2 => ?_) (fun hlt2 => ?_)
                · skip
                  refine RW.skip ?_
                  refine thenN ?_
                  refine RW.seq ?_
                  refine RW.block ?_
                  refine RW.region ?_
                  refine RL.ev rfl rfl ev_move ?_
                  refine RL.ev rfl rfl ev_move ?_
                  refine RL.ev rfl rfl (ev_index Try.underlying23 sz5 (hN.sl 0 rfl) rfl rfl (by omega) (by omega)) ?_
                  refine RL.op rfl rfl (opN_storeOwn (m := q) (a := 98) sz5 hN 0 rfl rfl (by omega) rfl rfl rfl rfl ?_)
                  intro w27 hN_
                  clear hN
                  have hN : Now w18 (foots [.blk g16 [.int .i64 ((run (⟨5000, []⟩ : Dk) xs).1.room), Lv14] 45, dskA 64 71 23 g9 ((act ((run (⟨5000, []⟩ : Dk) xs).1) x).1) B12, .own vb 5 ((vh h13)) (x.data), .blk g1 [.int .i64 (x.kind), (str x.name), (str x.to), (vh hx)] 33]) w27 [_, _, _, _, _, _] := hN_
                  clear hN_
                  refine RL.nil ?_
                  refine blockN ?_
                  refine thenN ?_
                  refine RW.region ?_
                  refine RL.ev rfl rfl ev_move ?_
                  refine RL.ev rfl rfl (ev_arith rfl rfl rfl (add64 (by omega) (by omega))) ?_
                  refine RL.ev rfl rfl ev_assign ?_
                  refine RL.nil ?_
                  refine thenN ?_
                  exact ⟨kq - 1, by omega, (acc2).set q (98), q + 1, rfl, rfl, rfl, rfl, rfl, rfl, hN, by omega, by rw [List.length_set]; exact hlb⟩
                · skip
                  refine RW.exit ?_
                  refine thenX ?_
                  refine thenX ?_
                  refine blockHit ?_
                  refine thenN ?_
                  refine RW.seq ?_
                  refine RW.region ?_
                  refine RL.ev rfl rfl ev_move ?_
                  refine RL.op rfl rfl (op_call2 Try.func17 rfl rfl rfl rfl ((crash_calls g24 ((act ((run (⟨5000, []⟩ : Dk) xs).1) x).1) B24 ((0 + xs.length) + 1) _ ([]) _ (hN.pickL (M := [_]) [1] (by decide) rfl) ((run_fits xs (Fits.new (by decide) (by decide))).act x) (by omega) (SlO.nil _ _ _)).mono ?_))
                  rintro _ w28 ⟨B28, rfl, hC_⟩
                  have hN_ := Now.callA (M := [_]) (N := [_, _, _, _, _]) (hN.sub [1, 0, 2, 3, 4, 5] (by decide) rfl) hC_
                  clear hC_
                  clear hN
                  have hN : Now w18 (foots [.blk g16 [.int .i64 ((run (⟨5000, []⟩ : Dk) xs).1.room), Lv14] 45, dskA 64 71 23 g9 ((act ((run (⟨5000, []⟩ : Dk) xs).1) x).1) B12, .own vb 5 ((vh h13)) (x.data), .blk g1 [.int .i64 (x.kind), (str x.name), (str x.to), (vh hx)] 33]) w28 [_, _, _, _, _, _] := hN_
                  clear hN_
                  replace hN : Now w18 (foots [.blk g16 [.int .i64 ((run (⟨5000, []⟩ : Dk) xs).1.room), Lv14] 45, dskA 64 71 23 g9 ((act ((run (⟨5000, []⟩ : Dk) xs).1) x).1) B12, .own vb 5 ((vh h13)) (x.data), .blk g1 [.int .i64 (x.kind), (str x.name), (str x.to), (vh hx)] 33]) w28 [dskA 64 71 23 g24 (⟨((act ((run (⟨5000, []⟩ : Dk) xs).1) x).1).room, crash ([]) ((act ((run (⟨5000, []⟩ : Dk) xs).1) x).1).fs⟩ : Dk) B28, .own vb 5 (v25) (acc2), .blk g16 [.int .i64 ((act ((run (⟨5000, []⟩ : Dk) xs).1) x).1.room), Lv18] 45, dskA 64 71 23 g9 ((act ((run (⟨5000, []⟩ : Dk) xs).1) x).1) B12, .own vb 5 ((vh h13)) (acc), .blk g1 [.int .i64 (x.kind), (str x.name), (str x.to), (vh hx)] 33] := hN
                  refine RL.nil ?_
                  refine thenN ?_
                  refine RW.seq ?_
                  refine RW.region ?_
                  refine RL.ev rfl rfl ev_move ?_
                  refine RL.op rfl rfl (opN_lit (enc := vb) (l := [1]) (xs := [.const (.int .u8 (1))]) Try.underlying23 sz5 zr5 rfl rfl (fun _ => rfl) rfl (by decide) (by decide) hN ?_)
                  intro g29 w29 hN_
                  clear hN
                  have hN : Now w18 (foots [.blk g16 [.int .i64 ((run (⟨5000, []⟩ : Dk) xs).1.room), Lv14] 45, dskA 64 71 23 g9 ((act ((run (⟨5000, []⟩ : Dk) xs).1) x).1) B12, .own vb 5 ((vh h13)) (x.data), .blk g1 [.int .i64 (x.kind), (str x.name), (str x.to), (vh hx)] 33]) w29 [_, _, _, _, _, _, _] := hN_
                  clear hN_
                  refine RL.ev rfl rfl (ev_buildL (cs := [.int .i64 (1), str [122, 122], .string ByteArray.empty, .slice (some ⟨g29, 0, none⟩) 1 1]) Try.underlying33 zero33 (places := #[(0, 1), (1, 1), (2, 1), (3, 1)]) (by intro w; kernel_rfl) (pl := [(0, .const (.int .i64 (1))), (1, .const (str [122, 122])), (3, .tmp 94)]) rfl (ps := [(0, .int .i64 (1)), (1, str [122, 122]), (3, .slice (some ⟨g29, 0, none⟩) 1 1)]) rfl (zc := [.int .i64 (0), .string ByteArray.empty, .string ByteArray.empty, .slice none 0 0]) rfl (fill_step (vs := [.int .i64 (1)]) rfl rfl (Nat.le_of_ble_eq_true rfl) (fill_step (vs := [str [122, 122]]) rfl rfl (Nat.le_of_ble_eq_true rfl) (fill_step (vs := [.slice (some ⟨g29, 0, none⟩) 1 1]) (hN.sl 0 rfl).cells1 rfl (Nat.le_of_ble_eq_true rfl) rfl)))) ?_
                  refine RL.ev rfl rfl (ev_fieldAddr Try.underlying33 rfl sz9 (by decide) rfl) ?_
                  refine RL.ev rfl rfl (ev_loadB Try.underlying9 rfl rfl (hN.blk 6 rfl) rfl) ?_
                  refine RL.ev rfl rfl (ev_buildL (cs := [.int .i64 (4), (str x.name), .string ByteArray.empty, .slice none 0 0]) Try.underlying33 zero33 (places := #[(0, 1), (1, 1), (2, 1), (3, 1)]) (by intro w; kernel_rfl) (pl := [(0, .const (.int .i64 (4))), (1, .tmp 97)]) rfl (ps := [(0, .int .i64 (4)), (1, (str x.name))]) rfl (zc := [.int .i64 (0), .string ByteArray.empty, .string ByteArray.empty, .slice none 0 0]) rfl (fill_step (vs := [.int .i64 (4)]) rfl rfl (Nat.le_of_ble_eq_true rfl) (fill_step (vs := [(str x.name)]) rfl rfl (Nat.le_of_ble_eq_true rfl) rfl))) ?_
                  refine RL.op rfl rfl (opN_litM (cf := ocells) (s := 4) (pl := [(0, .tmp 95), (1, .tmp 98)]) (ps := [(0, .agg #[.int .i64 (1), str [122, 122], .string ByteArray.empty, .slice (some ⟨g29, 0, none⟩) 1 1]), (1, .agg #[.int .i64 (4), (str x.name), .string ByteArray.empty, .slice none 0 0])]) (zc := [.int .i64 (0), .string ByteArray.empty, .string ByteArray.empty, .slice none 0 0, .int .i64 (0), .string ByteArray.empty, .string ByteArray.empty, .slice none 0 0]) (l := [(1, [122, 122], [], (some ⟨g29, 0, none⟩, 1, 1)), (4, x.name, [], (none, 0, 0))]) Try.underlying22 inf33 (by kernel_rfl) rfl rfl (fill_step (vs := [.int .i64 (1), str [122, 122], .string ByteArray.empty, .slice (some ⟨g29, 0, none⟩) 1 1]) rfl rfl (Nat.le_of_ble_eq_true rfl) (fill_step (vs := [.int .i64 (4), (str x.name), .string ByteArray.empty, .slice none 0 0]) rfl rfl (Nat.le_of_ble_eq_true rfl) rfl)) ocells_len rfl (by decide) (by decide) (by decide) hN ?_)
                  intro g30 w30 hN_
                  clear hN
                  have hN : Now w18 (foots [.blk g16 [.int .i64 ((run (⟨5000, []⟩ : Dk) xs).1.room), Lv14] 45, dskA 64 71 23 g9 ((act ((run (⟨5000, []⟩ : Dk) xs).1) x).1) B12, .own vb 5 ((vh h13)) (x.data), .blk g1 [.int .i64 (x.kind), (str x.name), (str x.to), (vh hx)] 33]) w30 [_, _, _, _, _, _, _, _] := hN_
                  clear hN_
                  refine RL.op rfl rfl (op_call2 Try.func13 rfl rfl rfl rfl ((run_calls g24 (⟨((act ((run (⟨5000, []⟩ : Dk) xs).1) x).1).room, crash ([]) ((act ((run (⟨5000, []⟩ : Dk) xs).1) x).1).fs⟩ : Dk) B28 ((0 + xs.length) + 1) _ ([(1, [122, 122], [], (some ⟨g29, 0, none⟩, 1, 1)), (4, x.name, [], (none, 0, 0))]) ([⟨1, [122, 122], [], [1]⟩, ⟨4, x.name, [], []⟩] : List Disk.Op) _ (hN.pickL (M := [_]) [2] (by decide) rfl) (((run_fits xs (Fits.new (by decide) (by decide))).act x).crashed ([])) (by simp only [List.length_cons, List.length_nil]; omega) (SmO.ofOwn hN 0 2 rfl rfl (by decide)) (Pair.cons ⟨rfl, rfl, rfl, SlO.ofOwn hN 1 2 rfl rfl (by decide)⟩ (Pair.cons ⟨rfl, rfl, rfl, SlO.nil _ _ _⟩ (Pair.nil _))) (fun y hy => (List.mem_cons.1 hy).elim (fun e => by rw [e]; decide) fun hy => (List.mem_cons.1 hy).elim (fun e => by rw [e]; exact Nat.zero_le _) fun hy => (by cases hy)) _ rfl).mono ?_))
                  rintro _ w31 ⟨B31, rfl, hC_⟩
                  have hN_ := Now.callA (M := [_]) (N := [_, _, _, _, _, _, _]) (hN.sub [2, 0, 1, 3, 4, 5, 6, 7] (by decide) rfl) hC_
                  clear hC_
                  clear hN
                  have hN : Now w18 (foots [.blk g16 [.int .i64 ((run (⟨5000, []⟩ : Dk) xs).1.room), Lv14] 45, dskA 64 71 23 g9 ((act ((run (⟨5000, []⟩ : Dk) xs).1) x).1) B12, .own vb 5 ((vh h13)) (x.data), .blk g1 [.int .i64 (x.kind), (str x.name), (str x.to), (vh hx)] 33]) w31 [_, _, _, _, _, _, _, _] := hN_
                  clear hN_
                  replace hN : Now w18 (foots [.blk g16 [.int .i64 ((run (⟨5000, []⟩ : Dk) xs).1.room), Lv14] 45, dskA 64 71 23 g9 ((act ((run (⟨5000, []⟩ : Dk) xs).1) x).1) B12, .own vb 5 ((vh h13)) (x.data), .blk g1 [.int .i64 (x.kind), (str x.name), (str x.to), (vh hx)] 33]) w31 [dskA 64 71 23 g24 ((run (⟨((act ((run (⟨5000, []⟩ : Dk) xs).1) x).1).room, crash ([]) ((act ((run (⟨5000, []⟩ : Dk) xs).1) x).1).fs⟩ : Dk) ([⟨1, [122, 122], [], [1]⟩, ⟨4, x.name, [], []⟩] : List Disk.Op)).1) B31, .ownm ocells 4 33 (.slice (some ⟨g30, 0, none⟩) 2 2) ([(1, [122, 122], [], (some ⟨g29, 0, none⟩, 1, 1)), (4, x.name, [], (none, 0, 0))]), .own vb 5 (.slice (some ⟨g29, 0, none⟩) 1 1) ([1]), .own vb 5 (v25) (acc2), .blk g16 [.int .i64 ((act ((run (⟨5000, []⟩ : Dk) xs).1) x).1.room), Lv18] 45, dskA 64 71 23 g9 ((act ((run (⟨5000, []⟩ : Dk) xs).1) x).1) B12, .own vb 5 ((vh h13)) (acc), .blk g1 [.int .i64 (x.kind), (str x.name), (str x.to), (vh hx)] 33] := hN
                  refine RL.nil ?_
                  refine thenN ?_
                  refine RW.seq ?_
                  refine RW.region ?_
                  refine RL.ev rfl rfl ev_move ?_
                  refine RL.ev rfl rfl (ev_loadAll (cs := [.int .i64 ((act ((run (⟨5000, []⟩ : Dk) xs).1) x).1.room), Lv18]) Try.underlying45 rfl sz45 rfl (hN.blk 4 rfl)) ?_
                  refine RL.op rfl rfl (op_call2 Try.func23 rfl rfl rfl rfl ((dsame_calls g9 ((act ((run (⟨5000, []⟩ : Dk) xs).1) x).1) _ _ hs18 _ (dsk_says (hN.says 5 _ rfl)) (hS18.now hN) (FEls.nowN hE18 hN) ((run_fits xs (Fits.new (by decide) (by decide))).act x) (by omega)).mono ?_))
                  rintro _ w32 ⟨rfl, he_⟩
                  replace hN := hN.ext he_
                  clear he_
                  refine RL.ev rfl rfl ev_move ?_
                  refine RL.on rfl rfl (by decide) rfl rfl (op_call0 Try.func11 rfl rfl ((known_calls _).mono ?_))
                  rintro _ w33 ⟨rfl, he_⟩
                  replace hN := hN.ext he_
                  clear he_
                  refine RL.ev rfl rfl (ev_pickT rfl) ?_
                  refine RL.ev rfl rfl ev_assign ?_
                  refine RL.nil ?_
                  refine thenN ?_
                  refine RW.ret ?_
                  refine retI (RV.tmp rfl) ?_
                  exact ⟨rfl, (hF15.back (hF20.back hN)).ext0⟩

end Go.Proofs.Ytlblpiapeieofaa
