import Derived.Test.YtlblpiapeieofaaDiskR2
set_option linter.unusedVariables false
set_option linter.unusedSimpArgs false
namespace Go.Proofs.Ytlblpiapeieofaa
open Go.RowKit Go.Rl

open Go.Disk
set_option maxHeartbeats 4000000 in
set_option maxRecDepth 100000 in
/-- postroad/postroadref04.Long -/
theorem long_calls (Lv : Value) (os : List OH) (xs : List Disk.Op) (w : World) (hL : Sm ocells w Lv os) (hel : OEls none_ w os xs) (hB : ∀ x ∈ xs, x.data.length ≤ 140737488355328 ∧ x.name.length ≤ 140737488355328 ∧ x.to.length ≤ 140737488355328) : Gives Try.prog 10 #[Lv] w fun r w' => ∃ z : Int, r = .int .i64 z ∧ (xs.length ≤ 60 → z = (longT xs : Int)) ∧ Ext w w' := by
  refine Gives.start Try.func10 rfl (Nat.le_of_ble_eq_true rfl) ?_
  rw [args1]
  have hN := Now.nil w none_
  have hle := hel.1
  have hdl : ∀ x ∈ xs, x.data.length ≤ 140737488355328 := fun x hx => (hB x hx).1
  refine RW.seq ?_
  refine RW.region ?_
  refine RL.ev rfl rfl ev_assign ?_
  refine RL.nil ?_
  refine thenN ?_
  refine RW.seq ?_
  refine RW.region ?_
  refine RL.ev rfl rfl ev_assign ?_
  refine RL.nil ?_
  refine thenN ?_
  refine RW.seq ?_
  refine RW.seq ?_
  refine RW.region ?_
  refine RL.ev rfl rfl ev_assign ?_
  refine RL.nil ?_
  refine thenN ?_
  refine RW.block ?_
  refine RW.loop (fun k R0 w0' => ∃ z : Int, ∃ i : Nat, R0 0 = Lv ∧ R0 3 = .int .i64 (z) ∧ R0 4 = .int .i64 ((i : Int)) ∧ Now w none_ w0' [] ∧ (i + k = os.length) ∧ (xs.length ≤ 60 → z = (longT (xs.take i) : Int))) (os.length) ?_ ?_
  · skip
    exact ⟨0, 0, rfl, rfl, rfl, hN, by omega, fun _ => rfl⟩
  · skip
    clear hN
    rintro k R0 w0' ⟨z, i, hr0_, hr3_, hr4_, hN, hik, hz⟩
    have hR_ : ∃ R0_, R0 = (upd (upd (upd R0_ 0 _) 3 _) 4 _) := ⟨R0, by rw [upd_self hr0_, upd_self hr3_, upd_self hr4_]⟩
    obtain ⟨R0_, rfl⟩ := hR_
    clear hr0_ hr3_ hr4_
    refine RW.seq ?_
    refine RW.seq ?_
    refine RW.region ?_
    refine RL.ev rfl rfl ev_move ?_
    refine RL.ev rfl rfl ev_move ?_
    have hL_1 := (hL.o.now hN).len_le
    refine RL.ev rfl rfl (ev_lenM Try.underlying22 (hL.o.now hN) rfl) ?_
    refine RL.ev rfl rfl (ev_lss rfl rfl) ?_
    refine RL.nil ?_
    refine thenN ?_
    refine RW.condP _ rfl (fun hlt => ?_) (fun hlt => ?_)
    · skip
      refine RW.skip ?_
      refine thenN ?_
      refine RW.seq ?_
      refine RW.block ?_
      refine RW.draw rfl (fun u => Now w none_ u []) ?_
      replace hN := hN.ext (Ext.drew w0')
      refine RA.take (i := 0) rfl rfl (by kernel_rfl) (by kernel_rfl) (by kernel_rfl) (by intro _ _ _ h; exact h) rfl hN (fun w hS => ev_move) ?_
      refine RA.take (i := 1) rfl rfl (by kernel_rfl) (by kernel_rfl) (by kernel_rfl) (by intro _ _ _ h; exact h) rfl hN (fun w hS => (ev_arith rfl rfl rfl rfl)) ?_
      refine RA.take (i := 2) rfl rfl (by kernel_rfl) (by kernel_rfl) (by kernel_rfl) (by intro _ _ _ h; exact h) rfl hN (fun w hS => ev_move) ?_
      refine RA.take (i := 3) rfl rfl (by kernel_rfl) (by kernel_rfl) (by kernel_rfl) (by intro _ _ _ h; exact h) rfl hN (fun w hS => ev_move) ?_
      refine RA.take (i := 4) rfl rfl (by kernel_rfl) (by kernel_rfl) (by kernel_rfl) (by intro _ _ _ h; exact h) rfl hN (fun w hS => (ev_indexM Try.underlying22 sz33 ocells_len (by decide) (hL.o.now hS) rfl rfl (by omega) (by omega))) ?_
      have hOb_ := OEls.get hel i (by omega)
      obtain ⟨xp, hxp, hap, hxsp, hdp⟩ := hOb_
      have hdlp := hdl xp (List.mem_of_getElem? hxsp)
      refine RA.take (i := 5) rfl rfl (by kernel_rfl) (by kernel_rfl) (by kernel_rfl) (by intro _ _ _ h; exact h) rfl hN (fun w hS => (ev_fieldM (m := i) (b := 0) Try.underlying33 rfl sz23 (by decide) ocells_len (hL.o.now hS) hap rfl rfl)) ?_
      refine RA.take (i := 6) rfl rfl (by kernel_rfl) (by kernel_rfl) (by kernel_rfl) (by intro _ _ _ h; exact h) rfl hN (fun w hS => (ev_loadMF (m := i) (j := 3) (a := (xp.kind, xp.name, xp.to, hxp)) Try.underlying23 rfl ocells_len (hL.o.now hS) rfl hap rfl)) ?_
      have hL_2 := (hdp.now hN).len_le
      refine RA.take (i := 7) rfl rfl (by kernel_rfl) (by kernel_rfl) (by kernel_rfl) (by intro _ _ _ h; exact h) rfl hN (fun w hS => (ev_lenS Try.underlying23 (hdp.now hS) rfl)) ?_
      refine RA.take (i := 8) rfl rfl (by kernel_rfl) (by kernel_rfl) (by kernel_rfl) (by intro _ _ _ h; exact h) rfl hN (fun w hS => (ev_arith rfl rfl rfl rfl)) ?_
      refine RA.take (i := 9) rfl rfl (by kernel_rfl) (by kernel_rfl) (by kernel_rfl) (by intro _ _ _ h; exact h) rfl hN (fun w hS => ev_move) ?_
      refine RA.take (i := 10) rfl rfl (by kernel_rfl) (by kernel_rfl) (by kernel_rfl) (by intro _ _ _ h; exact h) rfl hN (fun w hS => ev_move) ?_
      refine RA.take (i := 11) rfl rfl (by kernel_rfl) (by kernel_rfl) (by kernel_rfl) (by intro _ _ _ h; exact h) rfl hN (fun w hS => (ev_indexM Try.underlying22 sz33 ocells_len (by decide) (hL.o.now hS) rfl rfl (by omega) (by omega))) ?_
      refine RA.take (i := 12) rfl rfl (by kernel_rfl) (by kernel_rfl) (by kernel_rfl) (by intro _ _ _ h; exact h) rfl hN (fun w hS => (ev_fieldM (m := i) (b := 0) Try.underlying33 rfl sz9 (by decide) ocells_len (hL.o.now hS) hap rfl rfl)) ?_
      refine RA.take (i := 13) rfl rfl (by kernel_rfl) (by kernel_rfl) (by kernel_rfl) (by intro _ _ _ h; exact h) rfl hN (fun w hS => (ev_loadMF (m := i) (j := 1) (a := (xp.kind, xp.name, xp.to, hxp)) Try.underlying9 rfl ocells_len (hL.o.now hS) rfl hap rfl)) ?_
      refine RA.take (i := 14) rfl rfl (by kernel_rfl) (by kernel_rfl) (by kernel_rfl) (by intro _ _ _ h; exact h) rfl hN (fun w hS => (ev_lenS' Try.underlying9 rfl)) ?_
      refine RA.take (i := 15) rfl rfl (by kernel_rfl) (by kernel_rfl) (by kernel_rfl) (by intro _ _ _ h; exact h) rfl hN (fun w hS => (ev_arith rfl rfl rfl rfl)) ?_
      refine RA.take (i := 16) rfl rfl (by kernel_rfl) (by kernel_rfl) (by kernel_rfl) (by intro _ _ _ h; exact h) rfl hN (fun w hS => ev_move) ?_
      refine RA.take (i := 17) rfl rfl (by kernel_rfl) (by kernel_rfl) (by kernel_rfl) (by intro _ _ _ h; exact h) rfl hN (fun w hS => ev_move) ?_
      refine RA.take (i := 18) rfl rfl (by kernel_rfl) (by kernel_rfl) (by kernel_rfl) (by intro _ _ _ h; exact h) rfl hN (fun w hS => (ev_indexM Try.underlying22 sz33 ocells_len (by decide) (hL.o.now hS) rfl rfl (by omega) (by omega))) ?_
      refine RA.take (i := 19) rfl rfl (by kernel_rfl) (by kernel_rfl) (by kernel_rfl) (by intro _ _ _ h; exact h) rfl hN (fun w hS => (ev_fieldM (m := i) (b := 0) Try.underlying33 rfl sz9 (by decide) ocells_len (hL.o.now hS) hap rfl rfl)) ?_
      refine RA.take (i := 20) rfl rfl (by kernel_rfl) (by kernel_rfl) (by kernel_rfl) (by intro _ _ _ h; exact h) rfl hN (fun w hS => (ev_loadMF (m := i) (j := 2) (a := (xp.kind, xp.name, xp.to, hxp)) Try.underlying9 rfl ocells_len (hL.o.now hS) rfl hap rfl)) ?_
      refine RA.take (i := 21) rfl rfl (by kernel_rfl) (by kernel_rfl) (by kernel_rfl) (by intro _ _ _ h; exact h) rfl hN (fun w hS => (ev_lenS' Try.underlying9 rfl)) ?_
      refine RA.take (i := 22) rfl rfl (by kernel_rfl) (by kernel_rfl) (by kernel_rfl) (by intro _ _ _ h; exact h) rfl hN (fun w hS => (ev_arith rfl rfl rfl rfl)) ?_
      refine RA.take (i := 23) rfl rfl (by kernel_rfl) (by kernel_rfl) (by kernel_rfl) (by intro _ _ _ h; exact h) rfl hN (fun w hS => ev_assign) ?_
      refine RA.done (by kernel_rfl) ?_
      refine blockN ?_
      refine thenN ?_
      refine RW.region ?_
      refine RL.ev rfl rfl ev_move ?_
      refine RL.ev rfl rfl (ev_arith rfl rfl rfl (add64 (by omega) (by omega))) ?_
      refine RL.ev rfl rfl ev_assign ?_
      refine RL.nil ?_
      refine thenN ?_
      have hpz : xs.length ≤ 60 → IntKind.i64.wrap (IntKind.i64.wrap (IntKind.i64.wrap (IntKind.i64.wrap (z + 2) + (xp.data.length : Int)) + (xp.name.length : Int)) + (xp.to.length : Int)) = (longT (xs.take (i + 1)) : Int) := by
        intro h60
        have h1 := longT_take hxsp
        have h2 := hB xp (List.mem_of_getElem? hxsp)
        have h3 := longT_le (xs := xs.take i) (B := 140737488355328) fun y hy => hB y (List.mem_of_mem_take hy)
        have h4 : (xs.take i).length ≤ 60 := by rw [List.length_take]; omega
        have h5 : (xs.take i).length * (2 + 3 * 140737488355328) ≤ 60 * (2 + 3 * 140737488355328) := Nat.mul_le_mul_right _ h4
        have hz := hz h60
        rw [wrap_i64 (a := z + 2) (by omega) (by omega), wrap_i64 (a := z + 2 + (xp.data.length : Int)) (by omega) (by omega), wrap_i64 (a := z + 2 + (xp.data.length : Int) + (xp.name.length : Int)) (by omega) (by omega), wrap_i64 (by omega) (by omega)]
        omega
      exact ⟨k - 1, by omega, IntKind.i64.wrap (IntKind.i64.wrap (IntKind.i64.wrap (IntKind.i64.wrap (z + 2) + (xp.data.length : Int)) + (xp.name.length : Int)) + (xp.to.length : Int)), i + 1, rfl, rfl, rfl, hN, by omega, hpz⟩
    · skip
      refine RW.exit ?_
      refine thenX ?_
      refine thenX ?_
      refine blockHit ?_
      refine thenN ?_
      refine RW.seq ?_
      refine RW.region ?_
      refine RL.ev rfl rfl ev_move ?_
      refine RL.ev rfl rfl ev_assign ?_
      refine RL.nil ?_
      refine thenN ?_
      refine RW.ret ?_
      refine retI (RV.tmp rfl) ?_
      refine ⟨z, rfl, fun h60 => ?_, hN.ext0⟩
      rw [hz h60, List.take_of_length_le (by omega)]

set_option maxHeartbeats 4000000 in
set_option maxRecDepth 100000 in
/-- postroad/postroadref04.Do -/
theorem refDo_calls {w : World} (F : Nat → Prop) (hF : ∀ k, F k → k < w.heap.size) (d : Dk) (Lv : Value) (hs : List FH) (n : Nat) (x : Disk.Op) (hx : Hd) (hL : SmO F fcells w Lv hs) (hel : FEls F w hs d.fs) (hfit : Fits n d) (hn : n ≤ 1048576) (hdat : SlO F vb w (vh hx) x.data) (hdl : x.data.length ≤ 1099511627776) (res : Dk × Int) (hres : act d x = res) : Gives Try.prog 21 #[.agg #[.int .i64 d.room, Lv], opV x hx] w fun r w' => ∃ Lv' hs', r = .tuple #[.agg #[.int .i64 res.1.room, Lv'], .int .i64 res.2] ∧ SmO F fcells w' Lv' hs' ∧ FEls F w' hs' res.1.fs ∧ Ext w w' := by
  unfold opV
  refine Gives.start Try.func21 rfl (Nat.le_of_ble_eq_true rfl) ?_
  rw [args2]
  have hN := Now.nil w none_
  have hfs := hfit.size
  have hfr := hfit.room
  have hfl := hfit.loose
  have hff := hfit.files
  have hle := hel.1
  have hel0 := FEls.none hel
  refine RW.seq ?_
  refine RW.region ?_
  refine RL.op rfl rfl (opN_box (cs := [.int .i64 (d.room), Lv]) rfl rfl hN ?_)
  intro g1 w1 hN_
  clear hN
  have hN : Now w none_ w1 [_] := hN_
  clear hN_
  refine RL.op rfl rfl (opN_box (cs := [.int .i64 (x.kind), (str x.name), (str x.to), (vh hx)]) rfl rfl hN ?_)
  intro g2 w2 hN_
  clear hN
  have hN : Now w none_ w2 [_, _] := hN_
  clear hN_
  refine RL.op rfl rfl (opN_alloc (cs := [.int .i64 (0), .slice none 0 0]) zero45 rfl hN ?_)
  intro g3 w3 hN_
  clear hN
  have hN : Now w none_ w3 [_, _, _] := hN_
  clear hN_
  refine RL.ev rfl rfl ev_assign ?_
  refine RL.nil ?_
  refine thenN ?_
  refine RW.seq ?_
  refine RW.seq ?_
  by_cases hbad : badOp x
  · skip
    have hr_ : res = (d, 2) := by
      rw [← hres]
      unfold Disk.act
      rw [if_pos hbad]
    subst hr_
    refine RW.region ?_
    refine RL.ev rfl rfl (ev_fieldAddr Try.underlying33 rfl sz3 (by decide) rfl) ?_
    refine RL.ev rfl rfl (ev_loadB Try.underlying3 rfl rfl (hN.blk 1 rfl) rfl) ?_
    refine RL.ev rfl rfl (ev_lss rfl rfl) ?_
    refine RL.ev rfl rfl ev_move ?_
    by_cases hg1_3 : x.kind < 1
    · skip
      rw [decide_eq_true hg1_3]
      refine RL.off rfl rfl (by decide) rfl rfl ?_
      refine RL.off rfl rfl (by decide) rfl rfl ?_
      refine RL.off rfl rfl (by decide) rfl rfl ?_
      refine RL.ev rfl rfl (ev_pickT rfl) ?_
      refine RL.ev rfl rfl ev_move ?_
      refine RL.off rfl rfl (by decide) rfl rfl ?_
      refine RL.off rfl rfl (by decide) rfl rfl ?_
      refine RL.off rfl rfl (by decide) rfl rfl ?_
      refine RL.off rfl rfl (by decide) rfl rfl ?_
      refine RL.ev rfl rfl (ev_pickT rfl) ?_
      refine RL.ev rfl rfl ev_move ?_
      refine RL.off rfl rfl (by decide) rfl rfl ?_
      refine RL.off rfl rfl (by decide) rfl rfl ?_
      refine RL.off rfl rfl (by decide) rfl rfl ?_
      refine RL.off rfl rfl (by decide) rfl rfl ?_
      refine RL.offU rfl rfl (by decide) rfl rfl ?_
      refine RL.offU rfl rfl (by decide) rfl rfl ?_
      refine RL.offU rfl rfl (by decide) rfl rfl ?_
      refine RL.offU rfl rfl (by decide) rfl rfl ?_
      refine RL.off rfl rfl (by decide) rfl rfl ?_
      refine RL.ev rfl rfl (ev_pickT rfl) ?_
      refine RL.nil ?_
      refine thenN ?_
      refine RW.condT rfl ?_
      refine RW.seq ?_
      refine RW.region ?_
      refine RL.ev rfl rfl (ev_loadAll (cs := [.int .i64 (d.room), Lv]) Try.underlying45 rfl sz45 rfl (hN.blk 2 rfl)) ?_
      refine RL.op rfl rfl (opN_storeAll (vs := [.int .i64 (d.room), Lv]) sz45 rfl rfl rfl (by intro u hu; simp only [List.mem_cons, List.not_mem_nil, or_false] at hu; rcases hu with rfl | rfl <;> first | rfl | exact (hL.1.o.now hN).one1) hN 0 rfl rfl ?_)
      intro w4 hN_
      clear hN
      have hN : Now w none_ w4 [_, _, _] := hN_
      clear hN_
      refine RL.ev rfl rfl ev_assign ?_
      refine RL.nil ?_
      refine thenN ?_
      refine RW.ret ?_
      refine thenR ?_
      refine retI (RV.cellTmp rfl rfl (run_cell (hN.blk 0 rfl) Try.underlying45 rfl sz45)) ?_
      exact ⟨_, _, rfl, hL.ext hN.ext0, FEls.ext hel hN.ext0, hN.ext0⟩
    · skip
      rw [decide_eq_false hg1_3]
      refine RL.onEv rfl rfl (by decide) rfl rfl (ev_fieldAddr Try.underlying33 rfl sz3 (by decide) rfl) ?_
      refine RL.onEv rfl rfl (by decide) rfl rfl (ev_loadB Try.underlying3 rfl rfl (hN.blk 1 rfl) rfl) ?_
      refine RL.onEv rfl rfl (by decide) rfl rfl (ev_gtr rfl rfl) ?_
      refine RL.ev rfl rfl (ev_pickF rfl) ?_
      refine RL.ev rfl rfl ev_move ?_
      by_cases hg1_8 : 4 < x.kind
      · skip
        rw [decide_eq_true hg1_8]
        refine RL.off rfl rfl (by decide) rfl rfl ?_
        refine RL.off rfl rfl (by decide) rfl rfl ?_
        refine RL.off rfl rfl (by decide) rfl rfl ?_
        refine RL.off rfl rfl (by decide) rfl rfl ?_
        refine RL.ev rfl rfl (ev_pickT rfl) ?_
        refine RL.ev rfl rfl ev_move ?_
        refine RL.off rfl rfl (by decide) rfl rfl ?_
        refine RL.off rfl rfl (by decide) rfl rfl ?_
        refine RL.off rfl rfl (by decide) rfl rfl ?_
        refine RL.off rfl rfl (by decide) rfl rfl ?_
        refine RL.offU rfl rfl (by decide) rfl rfl ?_
        refine RL.offU rfl rfl (by decide) rfl rfl ?_
        refine RL.offU rfl rfl (by decide) rfl rfl ?_
        refine RL.offU rfl rfl (by decide) rfl rfl ?_
        refine RL.off rfl rfl (by decide) rfl rfl ?_
        refine RL.ev rfl rfl (ev_pickT rfl) ?_
        refine RL.nil ?_
        refine thenN ?_
        refine RW.condT rfl ?_
        refine RW.seq ?_
        refine RW.region ?_
        refine RL.ev rfl rfl (ev_loadAll (cs := [.int .i64 (d.room), Lv]) Try.underlying45 rfl sz45 rfl (hN.blk 2 rfl)) ?_
        refine RL.op rfl rfl (opN_storeAll (vs := [.int .i64 (d.room), Lv]) sz45 rfl rfl rfl (by intro u hu; simp only [List.mem_cons, List.not_mem_nil, or_false] at hu; rcases hu with rfl | rfl <;> first | rfl | exact (hL.1.o.now hN).one1) hN 0 rfl rfl ?_)
        intro w5 hN_
        clear hN
        have hN : Now w none_ w5 [_, _, _] := hN_
        clear hN_
        refine RL.ev rfl rfl ev_assign ?_
        refine RL.nil ?_
        refine thenN ?_
        refine RW.ret ?_
        refine thenR ?_
        refine retI (RV.cellTmp rfl rfl (run_cell (hN.blk 0 rfl) Try.underlying45 rfl sz45)) ?_
        exact ⟨_, _, rfl, hL.ext hN.ext0, FEls.ext hel hN.ext0, hN.ext0⟩
      · skip
        rw [decide_eq_false hg1_8]
        refine RL.onEv rfl rfl (by decide) rfl rfl (ev_fieldAddr Try.underlying33 rfl sz9 (by decide) rfl) ?_
        refine RL.onEv rfl rfl (by decide) rfl rfl (ev_loadB Try.underlying9 rfl rfl (hN.blk 1 rfl) rfl) ?_
        refine RL.on rfl rfl (by decide) rfl rfl (op_call1 Try.func36 rfl rfl rfl ((refNamed_calls x.name _).mono ?_))
        rintro _ _ ⟨rfl, rfl⟩
        refine RL.onEv rfl rfl (by decide) rfl rfl (ev_notP rfl) ?_
        refine RL.ev rfl rfl (ev_pickF rfl) ?_
        refine RL.ev rfl rfl ev_move ?_
        by_cases hg1_14 : ¬ (Disk.named x.name)
        · skip
          rw [decide_eq_true hg1_14]
          refine RL.off rfl rfl (by decide) rfl rfl ?_
          refine RL.off rfl rfl (by decide) rfl rfl ?_
          refine RL.off rfl rfl (by decide) rfl rfl ?_
          refine RL.off rfl rfl (by decide) rfl rfl ?_
          refine RL.offU rfl rfl (by decide) rfl rfl ?_
          refine RL.offU rfl rfl (by decide) rfl rfl ?_
          refine RL.offU rfl rfl (by decide) rfl rfl ?_
          refine RL.offU rfl rfl (by decide) rfl rfl ?_
          refine RL.off rfl rfl (by decide) rfl rfl ?_
          refine RL.ev rfl rfl (ev_pickT rfl) ?_
          refine RL.nil ?_
          refine thenN ?_
          refine RW.condT rfl ?_
          refine RW.seq ?_
          refine RW.region ?_
          refine RL.ev rfl rfl (ev_loadAll (cs := [.int .i64 (d.room), Lv]) Try.underlying45 rfl sz45 rfl (hN.blk 2 rfl)) ?_
          refine RL.op rfl rfl (opN_storeAll (vs := [.int .i64 (d.room), Lv]) sz45 rfl rfl rfl (by intro u hu; simp only [List.mem_cons, List.not_mem_nil, or_false] at hu; rcases hu with rfl | rfl <;> first | rfl | exact (hL.1.o.now hN).one1) hN 0 rfl rfl ?_)
          intro w7 hN_
          clear hN
          have hN : Now w none_ w7 [_, _, _] := hN_
          clear hN_
          refine RL.ev rfl rfl ev_assign ?_
          refine RL.nil ?_
          refine thenN ?_
          refine RW.ret ?_
          refine thenR ?_
          refine retI (RV.cellTmp rfl rfl (run_cell (hN.blk 0 rfl) Try.underlying45 rfl sz45)) ?_
          exact ⟨_, _, rfl, hL.ext hN.ext0, FEls.ext hel hN.ext0, hN.ext0⟩
        · skip
          rw [decide_eq_false hg1_14]
          refine RL.onEv rfl rfl (by decide) rfl rfl (ev_fieldAddr Try.underlying33 rfl sz3 (by decide) rfl) ?_
          refine RL.onEv rfl rfl (by decide) rfl rfl (ev_loadB Try.underlying3 rfl rfl (hN.blk 1 rfl) rfl) ?_
          refine RL.onEv rfl rfl (by decide) rfl rfl (ev_eql rfl rfl) ?_
          refine RL.onEv rfl rfl (by decide) rfl rfl ev_move ?_
          by_cases hg1_18 : x.kind = 3
          · skip
            rw [decide_eq_true hg1_18]
            refine RL.onEv rfl rfl (by decide) rfl rfl (ev_fieldAddr Try.underlying33 rfl sz9 (by decide) rfl) ?_
            refine RL.onEv rfl rfl (by decide) rfl rfl (ev_loadB Try.underlying9 rfl rfl (hN.blk 1 rfl) rfl) ?_
            refine RL.on rfl rfl (by decide) rfl rfl (op_call1 Try.func36 rfl rfl rfl ((refNamed_calls x.to _).mono ?_))
            rintro _ _ ⟨rfl, rfl⟩
            refine RL.onEv rfl rfl (by decide) rfl rfl (ev_notP rfl) ?_
            refine RL.onEv rfl rfl (by decide) rfl rfl (ev_pickT rfl) ?_
            refine RL.ev rfl rfl (ev_pickF rfl) ?_
            refine RL.nil ?_
            refine thenN ?_
            refine RW.condP _ rfl (fun hc34 => ?_) (fun hc34 => ?_)
            · skip
              refine RW.seq ?_
              refine RW.region ?_
              refine RL.ev rfl rfl (ev_loadAll (cs := [.int .i64 (d.room), Lv]) Try.underlying45 rfl sz45 rfl (hN.blk 2 rfl)) ?_
              refine RL.op rfl rfl (opN_storeAll (vs := [.int .i64 (d.room), Lv]) sz45 rfl rfl rfl (by intro u hu; simp only [List.mem_cons, List.not_mem_nil, or_false] at hu; rcases hu with rfl | rfl <;> first | rfl | exact (hL.1.o.now hN).one1) hN 0 rfl rfl ?_)
              intro w9 hN_
              clear hN
              have hN : Now w none_ w9 [_, _, _] := hN_
              clear hN_
              refine RL.ev rfl rfl ev_assign ?_
              refine RL.nil ?_
              refine thenN ?_
              refine RW.ret ?_
              refine thenR ?_
              refine retI (RV.cellTmp rfl rfl (run_cell (hN.blk 0 rfl) Try.underlying45 rfl sz45)) ?_
              exact ⟨_, _, rfl, hL.ext hN.ext0, FEls.ext hel hN.ext0, hN.ext0⟩
            · skip
              rcases hbad with h | h | h | ⟨h, h'⟩
              · exact absurd h hg1_3
              · exact absurd h hg1_8
              · exact absurd h hg1_14
              · exact absurd h' hc34 -- closed
          · skip
            rw [decide_eq_false hg1_18]
            refine RL.off rfl rfl (by decide) rfl rfl ?_
            refine RL.off rfl rfl (by decide) rfl rfl ?_
            refine RL.off rfl rfl (by decide) rfl rfl ?_
            refine RL.off rfl rfl (by decide) rfl rfl ?_
            refine RL.onEv rfl rfl (by decide) rfl rfl (ev_pickF rfl) ?_
            refine RL.ev rfl rfl (ev_pickF rfl) ?_
            refine RL.nil ?_
            refine thenN ?_
            refine RW.condF rfl ?_
            refine RW.skip ?_
            refine thenN ?_
            refine RW.seq ?_
            rcases hbad with h | h | h | ⟨h, h'⟩
            · exact absurd h hg1_3
            · exact absurd h hg1_8
            · exact absurd h hg1_14
            · exact absurd h hg1_18
  · skip
    have hb1 : ¬ x.kind < 1 := fun h => hbad (.inl h)
    have hb2 : ¬ 4 < x.kind := fun h => hbad (.inr (.inl h))
    have hb3 : Disk.named x.name := Decidable.byContradiction fun h => hbad (.inr (.inr (.inl h)))
    have hb4 : x.kind = 3 → Disk.named x.to := fun h3 => Decidable.byContradiction fun h => hbad (.inr (.inr (.inr ⟨h3, h⟩)))
    refine RW.region ?_
    refine RL.ev rfl rfl (ev_fieldAddr Try.underlying33 rfl sz3 (by decide) rfl) ?_
    refine RL.ev rfl rfl (ev_loadB Try.underlying3 rfl rfl (hN.blk 1 rfl) rfl) ?_
    refine RL.ev rfl rfl (ev_false (ev_lss rfl rfl) hb1) ?_
    refine RL.ev rfl rfl ev_move ?_
    refine RL.onEv rfl rfl (by decide) rfl rfl (ev_fieldAddr Try.underlying33 rfl sz3 (by decide) rfl) ?_
    refine RL.onEv rfl rfl (by decide) rfl rfl (ev_loadB Try.underlying3 rfl rfl (hN.blk 1 rfl) rfl) ?_
    refine RL.onEv rfl rfl (by decide) rfl rfl (ev_false (ev_gtr rfl rfl) hb2) ?_
    refine RL.ev rfl rfl (ev_pickF rfl) ?_
    refine RL.ev rfl rfl ev_move ?_
    refine RL.onEv rfl rfl (by decide) rfl rfl (ev_fieldAddr Try.underlying33 rfl sz9 (by decide) rfl) ?_
    refine RL.onEv rfl rfl (by decide) rfl rfl (ev_loadB Try.underlying9 rfl rfl (hN.blk 1 rfl) rfl) ?_
    refine RL.on rfl rfl (by decide) rfl rfl (op_call1 Try.func36 rfl rfl rfl ((refNamed_true x.name _ hb3).mono ?_))
    rintro _ _ ⟨rfl, rfl⟩
    refine RL.onEv rfl rfl (by decide) rfl rfl (ev_not rfl) ?_
    refine RL.ev rfl rfl (ev_pickF rfl) ?_
    refine RL.ev rfl rfl ev_move ?_
    refine RL.onEv rfl rfl (by decide) rfl rfl (ev_fieldAddr Try.underlying33 rfl sz3 (by decide) rfl) ?_
    refine RL.onEv rfl rfl (by decide) rfl rfl (ev_loadB Try.underlying3 rfl rfl (hN.blk 1 rfl) rfl) ?_
    refine RL.onEv rfl rfl (by decide) rfl rfl (ev_eql rfl rfl) ?_
    refine RL.onEv rfl rfl (by decide) rfl rfl ev_move ?_
    by_cases hg1_18 : x.kind = 3
    · skip
      rw [decide_eq_true hg1_18]
      refine RL.onEv rfl rfl (by decide) rfl rfl (ev_fieldAddr Try.underlying33 rfl sz9 (by decide) rfl) ?_
      refine RL.onEv rfl rfl (by decide) rfl rfl (ev_loadB Try.underlying9 rfl rfl (hN.blk 1 rfl) rfl) ?_
      refine RL.on rfl rfl (by decide) rfl rfl (op_call1 Try.func36 rfl rfl rfl ((refNamed_true x.to _ (hb4 hg1_18)).mono ?_))
      rintro _ _ ⟨rfl, rfl⟩
      refine RL.onEv rfl rfl (by decide) rfl rfl (ev_not rfl) ?_
      refine RL.onEv rfl rfl (by decide) rfl rfl (ev_pickT rfl) ?_
      refine RL.ev rfl rfl (ev_pickF rfl) ?_
      refine RL.nil ?_
      refine thenN ?_
      refine RW.condF rfl ?_
      refine RW.skip ?_
      refine thenN ?_
      refine RW.seq ?_
      have hOb_ := findH_cases hel x.name
      rcases hOb_ with ⟨hfd, hfh⟩ | ⟨f, h, whs, hfd, hfh, hnf, hA, hB, hC⟩
      · skip
        refine RW.region ?_
        refine RL.ev rfl rfl (ev_loadAll (cs := [.int .i64 (d.room), Lv]) Try.underlying45 rfl sz45 rfl (hN.blk 2 rfl)) ?_
        refine RL.ev rfl rfl (ev_fieldAddr Try.underlying33 rfl sz9 (by decide) rfl) ?_
        refine RL.ev rfl rfl (ev_loadB Try.underlying9 rfl rfl (hN.blk 1 rfl) rfl) ?_
        refine RL.op rfl rfl (op_call2 Try.func37 rfl rfl rfl rfl ((refFind_calls (d.room) x.name _ hs _ (hL.1.o.now hN) none hfh).mono ?_))
        rintro _ w12 ⟨rfl, he_⟩
        replace hN := hN.ext he_
        clear he_
        refine RL.ev rfl rfl ev_move ?_
        refine RL.ev rfl rfl (ev_extract rfl rfl) ?_
        refine RL.ev rfl rfl (ev_extract rfl rfl) ?_
        refine RL.op rfl rfl (opN_alloc (cs := [.string ByteArray.empty, .slice none 0 0, .slice none 0 0]) zero78 rfl hN ?_)
        intro g13 w13 hN_
        clear hN
        have hN : Now w none_ w13 [_, _, _, _] := hN_
        clear hN_
        refine RL.op rfl rfl (opN_storeAll (vs := [(str x.name), .slice none 0 0, .slice none 0 0]) sz78 rfl rfl rfl (by intro u hu; simp only [List.mem_cons, List.not_mem_nil, or_false] at hu; rcases hu with rfl | rfl | rfl <;> first | rfl) hN 0 rfl rfl ?_)
        intro w14 hN_
        clear hN
        have hN : Now w none_ w14 [_, _, _, _] := hN_
        clear hN_
        refine RL.ev rfl rfl ev_assign ?_
        refine RL.nil ?_
        refine thenN ?_
        refine RW.seq ?_
        refine RW.seq ?_
        refine RW.region ?_
        refine RL.ev rfl rfl (ev_fieldAddr Try.underlying33 rfl sz3 (by decide) rfl) ?_
        refine RL.ev rfl rfl (ev_loadB Try.underlying3 rfl rfl (hN.blk 2 rfl) rfl) ?_
        refine RL.ev rfl rfl (ev_eql rfl rfl) ?_
        refine RL.nil ?_
        refine thenN ?_
        refine RW.condP _ rfl (fun hc45 => ?_) (fun hc45 => ?_)
        · skip
          refine RW.seq ?_
          refine RW.seq ?_
          refine RW.draw rfl (fun u => Now w none_ u [.blk g13 [(str x.name), .slice none 0 0, .slice none 0 0] 78, .blk g3 [.int .i64 (0), .slice none 0 0] 45, .blk g2 [.int .i64 (x.kind), (str x.name), (str x.to), (vh hx)] 33, .blk g1 [.int .i64 (d.room), Lv] 45]) ?_
          replace hN := hN.ext (Ext.drew w14)
          refine RA.take (i := 0) rfl rfl (by kernel_rfl) (by kernel_rfl) (by kernel_rfl) (by intro _ _ _ h; exact h) rfl hN (fun w hS => (ev_loadAll (cs := [.int .i64 (d.room), Lv]) Try.underlying45 rfl sz45 rfl (hS.blk 3 rfl))) ?_
          refine RA.take (i := 2) rfl rfl (by kernel_rfl) (by kernel_rfl) (by kernel_rfl) (by intro _ _ _ h; exact h) rfl hN (fun w hS => (ev_fieldAddr Try.underlying33 rfl sz23 (by decide) rfl)) ?_
          refine RA.take (i := 3) rfl rfl (by kernel_rfl) (by kernel_rfl) (by kernel_rfl) (by intro _ _ _ h; exact h) rfl hN (fun w hS => (ev_loadB Try.underlying23 rfl rfl (hS.blk 2 rfl) rfl)) ?_
          have hL_15 := (hdat.1.ext hN.ext0).len_le
          refine RA.take (i := 4) rfl rfl (by kernel_rfl) (by kernel_rfl) (by kernel_rfl) (by intro _ _ _ h; exact h) rfl hN (fun w hS => (ev_lenS Try.underlying23 (hdat.1.ext hS.ext0) rfl)) ?_
          refine RA.take (i := 6) rfl rfl (by kernel_rfl) (by kernel_rfl) (by kernel_rfl) (by intro _ _ _ h; exact h) rfl hN (fun w hS => (ev_fieldAddr Try.underlying45 rfl sz3 (by decide) rfl)) ?_
          refine RA.take (i := 7) rfl rfl (by kernel_rfl) (by kernel_rfl) (by kernel_rfl) (by intro _ _ _ h; exact h) rfl hN (fun w hS => (ev_loadB Try.underlying3 rfl rfl (hS.blk 3 rfl) rfl)) ?_
          refine RA.only (i := 1) (by kernel_rfl) rfl rfl rfl (op_call1 Try.func38 rfl rfl rfl ((refSize_calls d _ hs _ _ (hL.1.o.now hN) (FEls.nowN hel0 hN) hfit hn).mono ?_))
          rintro _ w16 ⟨rfl, he_⟩
          replace hN := hN.ext he_
          clear he_
          refine ⟨hN, ?_⟩
          refine RA.take (i := 5) rfl rfl (by kernel_rfl) (by kernel_rfl) (by kernel_rfl) (by intro _ _ _ h; exact h) rfl hN (fun w hS => (ev_arith rfl rfl rfl (add64 (by omega) (by omega)))) ?_
          refine RA.take (i := 8) rfl rfl (by kernel_rfl) (by kernel_rfl) (by kernel_rfl) (by intro _ _ _ h; exact h) rfl hN (fun w hS => (ev_gtr rfl rfl)) ?_
          refine RA.done (by kernel_rfl) ?_
          refine thenN ?_
          refine RW.condP _ rfl (fun hfull => ?_) (fun hfull => ?_)
          · skip
            refine RW.seq ?_
            refine RW.region ?_
            refine RL.ev rfl rfl (ev_loadAll (cs := [.int .i64 (d.room), Lv]) Try.underlying45 rfl sz45 rfl (hN.blk 3 rfl)) ?_
            refine RL.op rfl rfl (opN_storeAll (vs := [.int .i64 (d.room), Lv]) sz45 rfl rfl rfl (by intro u hu; simp only [List.mem_cons, List.not_mem_nil, or_false] at hu; rcases hu with rfl | rfl <;> first | rfl | exact (hL.1.o.now hN).one1) hN 1 rfl rfl ?_)
            intro w17 hN_
            clear hN
            have hN : Now w none_ w17 [_, _, _, _] := hN_
            clear hN_
            refine RL.ev rfl rfl ev_assign ?_
            refine RL.nil ?_
            refine thenN ?_
            refine RW.ret ?_
            refine thenR ?_
            refine thenR ?_
            refine retI (RV.cellTmp rfl rfl (run_cell (hN.blk 1 rfl) Try.underlying45 rfl sz45)) ?_
            have hr_ : res = (d, 11) := by
              rw [← hres]
              unfold Disk.act
              rw [if_neg hbad, if_pos hc45, if_pos (by omega)]
            subst hr_
            exact ⟨_, _, rfl, hL.ext hN.ext0, FEls.ext hel hN.ext0, hN.ext0⟩
          · skip
            refine RW.skip ?_
            refine thenN ?_
            refine RW.seq ?_
            refine RW.region ?_
            refine RL.ev rfl rfl ev_assign ?_
            refine RL.nil ?_
            refine thenN ?_
            refine RW.seq ?_
            refine RW.region ?_
            refine RL.ev rfl rfl ev_move ?_
            refine RL.ev rfl rfl (ev_fieldAddr Try.underlying78 rfl sz69 (by decide) rfl) ?_
            refine RL.ev rfl rfl (ev_loadB Try.underlying69 rfl rfl (hN.blk 0 rfl) rfl) ?_
            replace hN := hN.addNil vh 23
            refine RL.op rfl rfl (opN_append Try.underlying69 inf23 rfl vh_one hN 0 rfl rfl (Sl.nil _ _) rfl (by simp only [List.length_nil]; omega) (by decide) ?_)
            intro v18 w18 hN_
            clear hN
            have hN : Now w none_ w18 [_, _, _, _, _] := hN_
            clear hN_
            replace hN := hN.relist 0 rfl (show _ = [] from List.nil_append _)
            replace hN : Now w none_ w18 [_, _, _, _, _] := hN
            refine RL.ev rfl rfl ev_assign ?_
            refine RL.nil ?_
            refine thenN ?_
            refine RW.seq ?_
            refine RW.region ?_
            refine RL.ev rfl rfl ev_move ?_
            refine RL.ev rfl rfl (ev_fieldAddr Try.underlying33 rfl sz23 (by decide) rfl) ?_
            refine RL.ev rfl rfl (ev_loadB Try.underlying23 rfl rfl (hN.blk 3 rfl) rfl) ?_
            refine RL.op rfl rfl (opN_lit (enc := vh) (l := [hx]) (xs := [.tmp 62]) Try.underlying69 sz23 zr23 rfl rfl (fun _ => rfl) rfl (by decide) (by decide) hN ?_)
            intro g19 w19 hN_
            clear hN
            have hN : Now w none_ w19 [_, _, _, _, _, _] := hN_
            clear hN_
            refine RL.op rfl rfl (opN_append Try.underlying69 inf23 rfl vh_one hN 1 rfl rfl (hN.sl 0 rfl) rfl (by (try simp only [List.length_append, List.length_singleton, List.length_cons, List.length_nil]); omega) (by decide) ?_)
            intro v20 w20 hN_
            clear hN
            have hN : Now w none_ w20 [_, _, _, _, _, _] := hN_
            clear hN_
            replace hN := hN.relist 1 rfl (show _ = [hx] from List.nil_append _)
            replace hN : Now w none_ w20 [_, _, _, _, _, _] := hN
            refine RL.ev rfl rfl ev_assign ?_
            refine RL.nil ?_
            refine thenN ?_
            refine RW.seq ?_
            refine RW.region ?_
            refine RL.ev rfl rfl ev_move ?_
            refine RL.ev rfl rfl (ev_fieldAddr Try.underlying78 rfl sz69 (by decide) rfl) ?_
            refine RL.op rfl rfl (opN_store sz69 rfl rfl (hN.sl 1 rfl).cells1 (hN.sl 1 rfl).one1 hN 2 rfl (Nat.le_of_ble_eq_true rfl) ?_)
            intro w21 hN_
            clear hN
            have hN : Now w none_ w21 [_, _, _, _, _, _] := hN_
            clear hN_
            refine RL.nil ?_
            refine thenN ?_
            refine RW.seq ?_
            refine RW.region ?_
            refine RL.ev rfl rfl (ev_loadAll (cs := [.int .i64 (d.room), Lv]) Try.underlying45 rfl sz45 rfl (hN.blk 5 rfl)) ?_
            refine RL.ev rfl rfl (ev_loadAll (cs := [(str x.name), .slice none 0 0, v20]) Try.underlying78 rfl sz78 rfl (hN.blk 2 rfl)) ?_
            have hq_ := (hN.sl 1 rfl).hd
            obtain ⟨h23, hq_⟩ := hq_
            subst hq_
            refine RL.op rfl rfl (op_call2 Try.func39 rfl rfl rfl rfl ((refWith_calls (d.room) (x.name, nilH, h23) _ hs _ (hL.1.o.now hN) (by omega)).mono ?_))
            rintro _ w22 ⟨v22, rfl, ho_, he_⟩
            have hN_ := hN.pushOwnM ho_ he_
            clear ho_ he_
            clear hN
            have hN : Now w none_ w22 [_, _, _, _, _, _, _] := hN_
            clear hN_
            refine RL.op rfl rfl (opN_storeAll (vs := [.int .i64 (d.room), v22]) sz45 rfl rfl rfl (by intro u hu; simp only [List.mem_cons, List.not_mem_nil, or_false] at hu; rcases hu with rfl | rfl <;> first | rfl | exact (hN.sm 0 rfl).one1) hN 4 rfl rfl ?_)
            intro w24 hN_
            clear hN
            have hN : Now w none_ w24 [_, _, _, _, _, _, _] := hN_
            clear hN_
            refine RL.ev rfl rfl ev_assign ?_
            refine RL.nil ?_
            refine thenN ?_
            refine RW.ret ?_
            refine thenR ?_
            refine retI (RV.cellTmp rfl rfl (run_cell (hN.blk 4 rfl) Try.underlying45 rfl sz45)) ?_
            have hr_ : res = ((⟨d.room, putIn ⟨x.name, [], [] ++ [x.data]⟩ d.fs⟩ : Dk), 0) := by
              rw [← hres]
              unfold Disk.act
              rw [if_neg hbad, if_pos hc45, if_neg (by omega), hfd]
            subst hr_
            exact ⟨_, _, rfl, OwnM.smo (hN.ownmOut 0 rfl) hF, putIn_ok ⟨rfl, SlO.nil _ _ _, _, Own.slo (hN.ownOut 2 rfl) hF, Els.cons (hdat.1.ext hN.ext0) hdat.2 (Els.nil _ _ _)⟩ (FEls.ext hel hN.ext0), hN.ext0⟩
        · skip
          refine RW.skip ?_
          refine thenN ?_
          refine RW.seq ?_
          refine RW.seq ?_
          refine RW.region ?_
          refine RL.ev rfl rfl ev_move ?_
          refine RL.ev rfl rfl (ev_not rfl) ?_
          refine RL.nil ?_
          refine thenN ?_
          refine RW.condT rfl ?_
          refine RW.seq ?_
          refine RW.region ?_
          refine RL.ev rfl rfl (ev_loadAll (cs := [.int .i64 (d.room), Lv]) Try.underlying45 rfl sz45 rfl (hN.blk 3 rfl)) ?_
          refine RL.op rfl rfl (opN_storeAll (vs := [.int .i64 (d.room), Lv]) sz45 rfl rfl rfl (by intro u hu; simp only [List.mem_cons, List.not_mem_nil, or_false] at hu; rcases hu with rfl | rfl <;> first | rfl | exact (hL.1.o.now hN).one1) hN 1 rfl rfl ?_)
          intro w25 hN_
          clear hN
          have hN : Now w none_ w25 [_, _, _, _] := hN_
          clear hN_
          refine RL.ev rfl rfl ev_assign ?_
          refine RL.nil ?_
          refine thenN ?_
          refine RW.ret ?_
          refine thenR ?_
          refine retI (RV.cellTmp rfl rfl (run_cell (hN.blk 1 rfl) Try.underlying45 rfl sz45)) ?_
          have hr_ : res = (d, 4) := by
            rw [← hres]
            unfold Disk.act
            rw [if_neg hbad, if_neg hc45, hfd]
          subst hr_
          exact ⟨_, _, rfl, hL.ext hN.ext0, FEls.ext hel hN.ext0, hN.ext0⟩
      · skip
        have hfm := (find_some hfd).1
        have hln := hfit.fileLen2 hfm
        have hlw := hfit.fileWs2 hn hfm
        have hwl := hC.1
        refine RW.region ?_
        refine RL.ev rfl rfl (ev_loadAll (cs := [.int .i64 (d.room), Lv]) Try.underlying45 rfl sz45 rfl (hN.blk 2 rfl)) ?_
        refine RL.ev rfl rfl (ev_fieldAddr Try.underlying33 rfl sz9 (by decide) rfl) ?_
        refine RL.ev rfl rfl (ev_loadB Try.underlying9 rfl rfl (hN.blk 1 rfl) rfl) ?_
        refine RL.op rfl rfl (op_call2 Try.func37 rfl rfl rfl rfl ((refFind_calls (d.room) x.name _ hs _ (hL.1.o.now hN) (some h) hfh).mono ?_))
        rintro _ w26 ⟨rfl, he_⟩
        replace hN := hN.ext he_
        clear he_
        refine RL.ev rfl rfl ev_move ?_
        refine RL.ev rfl rfl (ev_extract rfl rfl) ?_
        refine RL.ev rfl rfl (ev_extract rfl rfl) ?_
        refine RL.op rfl rfl (opN_alloc (cs := [.string ByteArray.empty, .slice none 0 0, .slice none 0 0]) zero78 rfl hN ?_)
        intro g27 w27 hN_
        clear hN
        have hN : Now w none_ w27 [_, _, _, _] := hN_
        clear hN_
        refine RL.op rfl rfl (opN_storeAll (vs := [(str h.1), (vh h.2.1), (vh h.2.2)]) sz78 rfl rfl rfl (by intro u hu; simp only [List.mem_cons, List.not_mem_nil, or_false] at hu; rcases hu with rfl | rfl | rfl <;> first | rfl) hN 0 rfl rfl ?_)
        intro w28 hN_
        clear hN
        have hN : Now w none_ w28 [_, _, _, _] := hN_
        clear hN_
        refine RL.ev rfl rfl ev_assign ?_
        refine RL.nil ?_
        refine thenN ?_
        refine RW.seq ?_
        refine RW.seq ?_
        refine RW.region ?_
        refine RL.ev rfl rfl (ev_fieldAddr Try.underlying33 rfl sz3 (by decide) rfl) ?_
        refine RL.ev rfl rfl (ev_loadB Try.underlying3 rfl rfl (hN.blk 2 rfl) rfl) ?_
        refine RL.ev rfl rfl (ev_eql rfl rfl) ?_
        refine RL.nil ?_
        refine thenN ?_
        refine RW.condP _ rfl (fun hc45 => ?_) (fun hc45 => ?_)
        · skip
          refine RW.seq ?_
          refine RW.seq ?_
          refine RW.draw rfl (fun u => Now w none_ u [.blk g27 [(str h.1), (vh h.2.1), (vh h.2.2)] 78, .blk g3 [.int .i64 (0), .slice none 0 0] 45, .blk g2 [.int .i64 (x.kind), (str x.name), (str x.to), (vh hx)] 33, .blk g1 [.int .i64 (d.room), Lv] 45]) ?_
          replace hN := hN.ext (Ext.drew w28)
          refine RA.take (i := 0) rfl rfl (by kernel_rfl) (by kernel_rfl) (by kernel_rfl) (by intro _ _ _ h; exact h) rfl hN (fun w hS => (ev_loadAll (cs := [.int .i64 (d.room), Lv]) Try.underlying45 rfl sz45 rfl (hS.blk 3 rfl))) ?_
          refine RA.take (i := 2) rfl rfl (by kernel_rfl) (by kernel_rfl) (by kernel_rfl) (by intro _ _ _ h; exact h) rfl hN (fun w hS => (ev_fieldAddr Try.underlying33 rfl sz23 (by decide) rfl)) ?_
          refine RA.take (i := 3) rfl rfl (by kernel_rfl) (by kernel_rfl) (by kernel_rfl) (by intro _ _ _ h; exact h) rfl hN (fun w hS => (ev_loadB Try.underlying23 rfl rfl (hS.blk 2 rfl) rfl)) ?_
          have hL_29 := (hdat.1.ext hN.ext0).len_le
          refine RA.take (i := 4) rfl rfl (by kernel_rfl) (by kernel_rfl) (by kernel_rfl) (by intro _ _ _ h; exact h) rfl hN (fun w hS => (ev_lenS Try.underlying23 (hdat.1.ext hS.ext0) rfl)) ?_
          refine RA.take (i := 6) rfl rfl (by kernel_rfl) (by kernel_rfl) (by kernel_rfl) (by intro _ _ _ h; exact h) rfl hN (fun w hS => (ev_fieldAddr Try.underlying45 rfl sz3 (by decide) rfl)) ?_
          refine RA.take (i := 7) rfl rfl (by kernel_rfl) (by kernel_rfl) (by kernel_rfl) (by intro _ _ _ h; exact h) rfl hN (fun w hS => (ev_loadB Try.underlying3 rfl rfl (hS.blk 3 rfl) rfl)) ?_
          refine RA.only (i := 1) (by kernel_rfl) rfl rfl rfl (op_call1 Try.func38 rfl rfl rfl ((refSize_calls d _ hs _ _ (hL.1.o.now hN) (FEls.nowN hel0 hN) hfit hn).mono ?_))
          rintro _ w30 ⟨rfl, he_⟩
          replace hN := hN.ext he_
          clear he_
          refine ⟨hN, ?_⟩
          refine RA.take (i := 5) rfl rfl (by kernel_rfl) (by kernel_rfl) (by kernel_rfl) (by intro _ _ _ h; exact h) rfl hN (fun w hS => (ev_arith rfl rfl rfl (add64 (by omega) (by omega)))) ?_
          refine RA.take (i := 8) rfl rfl (by kernel_rfl) (by kernel_rfl) (by kernel_rfl) (by intro _ _ _ h; exact h) rfl hN (fun w hS => (ev_gtr rfl rfl)) ?_
          refine RA.done (by kernel_rfl) ?_
          refine thenN ?_
          refine RW.condP _ rfl (fun hfull => ?_) (fun hfull => ?_)
          · skip
            refine RW.seq ?_
            refine RW.region ?_
            refine RL.ev rfl rfl (ev_loadAll (cs := [.int .i64 (d.room), Lv]) Try.underlying45 rfl sz45 rfl (hN.blk 3 rfl)) ?_
            refine RL.op rfl rfl (opN_storeAll (vs := [.int .i64 (d.room), Lv]) sz45 rfl rfl rfl (by intro u hu; simp only [List.mem_cons, List.not_mem_nil, or_false] at hu; rcases hu with rfl | rfl <;> first | rfl | exact (hL.1.o.now hN).one1) hN 1 rfl rfl ?_)
            intro w31 hN_
            clear hN
            have hN : Now w none_ w31 [_, _, _, _] := hN_
            clear hN_
            refine RL.ev rfl rfl ev_assign ?_
            refine RL.nil ?_
            refine thenN ?_
            refine RW.ret ?_
            refine thenR ?_
            refine thenR ?_
            refine retI (RV.cellTmp rfl rfl (run_cell (hN.blk 1 rfl) Try.underlying45 rfl sz45)) ?_
            have hr_ : res = (d, 11) := by
              rw [← hres]
              unfold Disk.act
              rw [if_neg hbad, if_pos hc45, if_pos (by omega)]
            subst hr_
            exact ⟨_, _, rfl, hL.ext hN.ext0, FEls.ext hel hN.ext0, hN.ext0⟩
          · skip
            refine RW.skip ?_
            refine thenN ?_
            refine RW.seq ?_
            refine RW.region ?_
            refine RL.ev rfl rfl ev_assign ?_
            refine RL.nil ?_
            refine thenN ?_
            refine RW.seq ?_
            refine RW.region ?_
            refine RL.ev rfl rfl ev_move ?_
            refine RL.ev rfl rfl (ev_fieldAddr Try.underlying78 rfl sz69 (by decide) rfl) ?_
            refine RL.ev rfl rfl (ev_loadB Try.underlying69 rfl rfl (hN.blk 0 rfl) rfl) ?_
            replace hN := hN.addNil vh 23
            refine RL.op rfl rfl (opN_append Try.underlying69 inf23 rfl vh_one hN 0 rfl rfl (hB.1.o.now hN) rfl (by simp only [List.length_nil]; omega) (by decide) ?_)
            intro v32 w32 hN_
            clear hN
            have hN : Now w none_ w32 [_, _, _, _, _] := hN_
            clear hN_
            replace hN := hN.relist 0 rfl (show _ = whs from List.nil_append _)
            replace hN : Now w none_ w32 [_, _, _, _, _] := hN
            refine RL.ev rfl rfl ev_assign ?_
            refine RL.nil ?_
            refine thenN ?_
            refine RW.seq ?_
            refine RW.region ?_
            refine RL.ev rfl rfl ev_move ?_
            refine RL.ev rfl rfl (ev_fieldAddr Try.underlying33 rfl sz23 (by decide) rfl) ?_
            refine RL.ev rfl rfl (ev_loadB Try.underlying23 rfl rfl (hN.blk 3 rfl) rfl) ?_
            refine RL.op rfl rfl (opN_lit (enc := vh) (l := [hx]) (xs := [.tmp 62]) Try.underlying69 sz23 zr23 rfl rfl (fun _ => rfl) rfl (by decide) (by decide) hN ?_)
            intro g33 w33 hN_
            clear hN
            have hN : Now w none_ w33 [_, _, _, _, _, _] := hN_
            clear hN_
            refine RL.op rfl rfl (opN_append Try.underlying69 inf23 rfl vh_one hN 1 rfl rfl (hN.sl 0 rfl) rfl (by (try simp only [List.length_append, List.length_singleton, List.length_cons, List.length_nil]); omega) (by decide) ?_)
            intro v34 w34 hN_
            clear hN
            have hN : Now w none_ w34 [_, _, _, _, _, _] := hN_
            clear hN_
            refine RL.ev rfl rfl ev_assign ?_
            refine RL.nil ?_
            refine thenN ?_
            refine RW.seq ?_
            refine RW.region ?_
            refine RL.ev rfl rfl ev_move ?_
            refine RL.ev rfl rfl (ev_fieldAddr Try.underlying78 rfl sz69 (by decide) rfl) ?_
            refine RL.op rfl rfl (opN_store sz69 rfl rfl (hN.sl 1 rfl).cells1 (hN.sl 1 rfl).one1 hN 2 rfl (Nat.le_of_ble_eq_true rfl) ?_)
            intro w35 hN_
            clear hN
            have hN : Now w none_ w35 [_, _, _, _, _, _] := hN_
            clear hN_
            refine RL.nil ?_
            refine thenN ?_
            refine RW.seq ?_
            refine RW.region ?_
            refine RL.ev rfl rfl (ev_loadAll (cs := [.int .i64 (d.room), Lv]) Try.underlying45 rfl sz45 rfl (hN.blk 5 rfl)) ?_
            refine RL.ev rfl rfl (ev_loadAll (cs := [(str h.1), (vh h.2.1), v34]) Try.underlying78 rfl sz78 rfl (hN.blk 2 rfl)) ?_
            have hq_ := (hN.sl 1 rfl).hd
            obtain ⟨h37, hq_⟩ := hq_
            subst hq_
            refine RL.op rfl rfl (op_call2 Try.func39 rfl rfl rfl rfl ((refWith_calls (d.room) (h.1, h.2.1, h37) _ hs _ (hL.1.o.now hN) (by omega)).mono ?_))
            rintro _ w36 ⟨v36, rfl, ho_, he_⟩
            have hN_ := hN.pushOwnM ho_ he_
            clear ho_ he_
            clear hN
            have hN : Now w none_ w36 [_, _, _, _, _, _, _] := hN_
            clear hN_
            refine RL.op rfl rfl (opN_storeAll (vs := [.int .i64 (d.room), v36]) sz45 rfl rfl rfl (by intro u hu; simp only [List.mem_cons, List.not_mem_nil, or_false] at hu; rcases hu with rfl | rfl <;> first | rfl | exact (hN.sm 0 rfl).one1) hN 4 rfl rfl ?_)
            intro w38 hN_
            clear hN
            have hN : Now w none_ w38 [_, _, _, _, _, _, _] := hN_
            clear hN_
            refine RL.ev rfl rfl ev_assign ?_
            refine RL.nil ?_
            refine thenN ?_
            refine RW.ret ?_
            refine thenR ?_
            refine retI (RV.cellTmp rfl rfl (run_cell (hN.blk 4 rfl) Try.underlying45 rfl sz45)) ?_
            have hr_ : res = ((⟨d.room, putIn ⟨f.name, f.firm, f.ws ++ [x.data]⟩ d.fs⟩ : Dk), 0) := by
              rw [← hres]
              unfold Disk.act
              rw [if_neg hbad, if_pos hc45, if_neg (by omega), hfd]
            subst hr_
            exact ⟨_, _, rfl, OwnM.smo (hN.ownmOut 0 rfl) hF, putIn_ok ⟨hnf, hA.ext hN.ext0, _, Own.slo (hN.ownOut 2 rfl) hF, (hC.mod hN.ext0.mod).append (Els.cons (hdat.1.ext hN.ext0) hdat.2 (Els.nil _ _ _))⟩ (FEls.ext hel hN.ext0), hN.ext0⟩
        · skip
          refine RW.skip ?_
          refine thenN ?_
          refine RW.seq ?_
          refine RW.seq ?_
          refine RW.region ?_
          refine RL.ev rfl rfl ev_move ?_
          refine RL.ev rfl rfl (ev_not rfl) ?_
          refine RL.nil ?_
          refine thenN ?_
          refine RW.condF rfl ?_
          refine RW.skip ?_
          refine thenN ?_
          refine RW.seq ?_
          refine RW.seq ?_
          refine RW.region ?_
          refine RL.ev rfl rfl (ev_fieldAddr Try.underlying33 rfl sz3 (by decide) rfl) ?_
          refine RL.ev rfl rfl (ev_loadB Try.underlying3 rfl rfl (hN.blk 2 rfl) rfl) ?_
          refine RL.ev rfl rfl (ev_eql rfl rfl) ?_
          refine RL.nil ?_
          refine thenN ?_
          refine RW.condP _ rfl (fun hc75 => ?_) (fun hc75 => ?_)
          · skip
            refine RW.seq ?_
            refine RW.draw rfl (fun u => Now w none_ u [.blk g27 [(str h.1), (vh h.2.1), (vh h.2.2)] 78, .blk g2 [.int .i64 (x.kind), (str x.name), (str x.to), (vh hx)] 33, .blk g1 [.int .i64 (d.room), Lv] 45]) ?_
            replace hN := hN.ext (Ext.drew w28)
            refine RA.take (i := 0) rfl rfl (by kernel_rfl) (by kernel_rfl) (by kernel_rfl) (by intro _ _ _ h; exact h) rfl (hN.sub [0, 2, 3] (by decide) rfl) (fun w hS => (ev_loadAll (cs := [.int .i64 (d.room), Lv]) Try.underlying45 rfl sz45 rfl (hS.blk 2 rfl))) ?_
            refine RA.take (i := 1) rfl rfl (by kernel_rfl) (by kernel_rfl) (by kernel_rfl) (by intro _ _ _ h; exact h) rfl (hN.sub [0, 2, 3] (by decide) rfl) (fun w hS => (ev_fieldAddr Try.underlying78 rfl sz9 (by decide) rfl)) ?_
            refine RA.take (i := 2) rfl rfl (by kernel_rfl) (by kernel_rfl) (by kernel_rfl) (by intro _ _ _ h; exact h) rfl (hN.sub [0, 2, 3] (by decide) rfl) (fun w hS => (ev_loadB Try.underlying9 rfl rfl (hS.blk 0 rfl) rfl)) ?_
            refine RA.take (i := 3) rfl rfl (by kernel_rfl) (by kernel_rfl) (by kernel_rfl) (by intro _ _ _ h; exact h) rfl (hN.sub [0, 2, 3] (by decide) rfl) (fun w hS => (ev_loadAll (cs := [(str h.1), (vh h.2.1), (vh h.2.2)]) Try.underlying78 rfl sz78 rfl (hS.blk 0 rfl))) ?_
            refine RA.only (i := 4) (by kernel_rfl) rfl rfl rfl (op_call1 Try.func40 rfl rfl rfl ((refAll_calls h _ f.firm f.ws _ (hA.1.o.now hN) (hB.1.o.now hN) ((Els.none hC).nowN hN) hln hlw).mono ?_))
            rintro v39 w39 ⟨ho_, he_⟩
            have hN_ := hN.pushOwn (l := (f.firm ++ f.ws.flatten)) ho_ he_
            clear ho_ he_
            clear hN
            have hN : Now w none_ w39 [_, _, _, _, _] := hN_
            clear hN_
            refine ⟨(hN.sub [1, 3, 4] (by decide) rfl), ?_⟩
            refine RA.only (i := 5) (by kernel_rfl) rfl rfl rfl (OpR.ev (ev_buildL (cs := [(str h.1), v39, .slice none 0 0]) Try.underlying78 zero78 (places := #[(0, 1), (1, 1), (2, 1)]) (by intro w; kernel_rfl) (pl := [(0, .tmp 78), (1, .tmp 80)]) rfl (ps := [(0, (str h.1)), (1, v39)]) rfl (zc := [.string ByteArray.empty, .slice none 0 0, .slice none 0 0]) rfl (fill_step (vs := [(str h.1)]) rfl rfl (Nat.le_of_ble_eq_true rfl) (fill_step (vs := [v39]) (hN.sl 0 rfl).cells1 rfl (Nat.le_of_ble_eq_true rfl) rfl))) ⟨(hN.sub [1, 3, 4] (by decide) rfl), ?_⟩)
            have hq_ := (hN.sl 0 rfl).hd
            obtain ⟨h41, hq_⟩ := hq_
            subst hq_
            refine RA.only (i := 6) (by kernel_rfl) rfl rfl rfl (op_call2 Try.func39 rfl rfl rfl rfl ((refWith_calls (d.room) (h.1, h41, nilH) _ hs _ (hL.1.o.now hN) (by omega)).mono ?_))
            rintro _ w40 ⟨v40, rfl, ho_, he_⟩
            have hN_ := hN.pushOwnM ho_ he_
            clear ho_ he_
            clear hN
            have hN : Now w none_ w40 [_, _, _, _, _, _] := hN_
            clear hN_
            refine ⟨(hN.sub [2, 4, 5] (by decide) rfl), ?_⟩
            refine RA.only (i := 7) (by kernel_rfl) rfl rfl rfl (opN_storeAll (vs := [.int .i64 (d.room), v40]) sz45 rfl rfl rfl (by intro u hu; simp only [List.mem_cons, List.not_mem_nil, or_false] at hu; rcases hu with rfl | rfl <;> first | rfl | exact (hN.sm 0 rfl).one1) hN 3 rfl rfl ?_)
            intro w42 hN_
            clear hN
            have hN : Now w none_ w42 [_, _, _, _, _, _] := hN_
            clear hN_
            refine ⟨(hN.sub [2, 4, 5] (by decide) rfl), ?_⟩
            refine RA.take (i := 8) rfl rfl (by kernel_rfl) (by kernel_rfl) (by kernel_rfl) (by intro _ _ _ h; exact h) rfl (hN.sub [2, 4, 5] (by decide) rfl) (fun w hS => ev_assign) ?_
            refine RA.done (by kernel_rfl) ?_
            refine thenN ?_
            refine RW.ret ?_
            refine thenR ?_
            refine retI (RV.cellTmp rfl rfl (run_cell (hN.blk 3 rfl) Try.underlying45 rfl sz45)) ?_
            have hr_ : res = ((⟨d.room, putIn ⟨f.name, f.firm ++ f.ws.flatten, []⟩ d.fs⟩ : Dk), 0) := by
              rw [← hres]
              unfold Disk.act
              rw [if_neg hbad, if_neg hc45, hfd]
              exact if_pos hc75
            subst hr_
            exact ⟨_, _, rfl, OwnM.smo (hN.ownmOut 0 rfl) hF, putIn_ok ⟨hnf, Own.slo (hN.ownOut 1 rfl) hF, _, SlO.nil _ _ _, Els.nil _ _ _⟩ (FEls.ext hel hN.ext0), hN.ext0⟩
          · skip
            refine RW.skip ?_
            refine thenN ?_
            refine RW.seq ?_
            refine RW.region ?_
            refine RL.ev rfl rfl (ev_loadAll (cs := [.int .i64 (d.room), Lv]) Try.underlying45 rfl sz45 rfl (hN.blk 3 rfl)) ?_
            refine RL.ev rfl rfl (ev_fieldAddr Try.underlying33 rfl sz9 (by decide) rfl) ?_
            refine RL.ev rfl rfl (ev_loadB Try.underlying9 rfl rfl (hN.blk 2 rfl) rfl) ?_
            refine RL.op rfl rfl (op_call2 Try.func41 rfl rfl rfl rfl ((refWithout_calls (d.room) x.name _ hs _ (hL.1.o.now hN) (by omega)).mono ?_))
            rintro _ w43 ⟨v43, rfl, ho_, he_⟩
            have hN_ := hN.pushOwnM ho_ he_
            clear ho_ he_
            clear hN
            have hN : Now w none_ w43 [_, _, _, _, _] := hN_
            clear hN_
            refine RL.op rfl rfl (opN_alloc (cs := [.int .i64 (0), .slice none 0 0]) zero45 rfl hN ?_)
            intro g44 w44 hN_
            clear hN
            have hN : Now w none_ w44 [_, _, _, _, _, _] := hN_
            clear hN_
            refine RL.op rfl rfl (opN_storeAll (vs := [.int .i64 (d.room), v43]) sz45 rfl rfl rfl (by intro u hu; simp only [List.mem_cons, List.not_mem_nil, or_false] at hu; rcases hu with rfl | rfl <;> first | rfl | exact (hN.sm 1 rfl).one1) hN 0 rfl rfl ?_)
            intro w45 hN_
            clear hN
            have hN : Now w none_ w45 [_, _, _, _, _, _] := hN_
            clear hN_
            refine RL.nil ?_
            refine thenN ?_
            refine RW.seq ?_
            refine RW.seq ?_
            have hwo := length_withoutH x.name hs
            refine RW.region ?_
            refine RL.ev rfl rfl (ev_fieldAddr Try.underlying33 rfl sz3 (by decide) rfl) ?_
            refine RL.ev rfl rfl (ev_loadB Try.underlying3 rfl rfl (hN.blk 4 rfl) rfl) ?_
            refine RL.ev rfl rfl (ev_eql rfl rfl) ?_
            refine RL.nil ?_
            refine thenN ?_
            refine RW.condP _ rfl (fun hc89 => ?_) (fun hc89 => ?_)
            · skip
              refine RW.seq ?_
              refine RW.region ?_
              refine RL.ev rfl rfl (ev_fieldAddr Try.underlying33 rfl sz9 (by decide) rfl) ?_
              refine RL.ev rfl rfl (ev_loadB Try.underlying9 rfl rfl (hN.blk 4 rfl) rfl) ?_
              refine RL.ev rfl rfl (ev_fieldAddr Try.underlying78 rfl sz9 (by decide) rfl) ?_
              refine RL.op rfl rfl (opN_store sz9 rfl rfl rfl rfl hN 2 rfl (Nat.le_of_ble_eq_true rfl) ?_)
              intro w46 hN_
              clear hN
              have hN : Now w none_ w46 [_, _, _, _, _, _] := hN_
              clear hN_
              refine RL.nil ?_
              refine thenN ?_
              refine RW.seq ?_
              refine RW.region ?_
              refine RL.ev rfl rfl (ev_loadAll (cs := [.int .i64 (d.room), v43]) Try.underlying45 rfl sz45 rfl (hN.blk 0 rfl)) ?_
              refine RL.ev rfl rfl (ev_loadAll (cs := [(str x.to), (vh h.2.1), (vh h.2.2)]) Try.underlying78 rfl sz78 rfl (hN.blk 2 rfl)) ?_
              refine RL.op rfl rfl (op_call2 Try.func39 rfl rfl rfl rfl ((refWith_calls (d.room) (x.to, h.2.1, h.2.2) _ (withoutH x.name hs) _ (hN.sm 1 rfl) (by omega)).mono ?_))
              rintro _ w47 ⟨v47, rfl, ho_, he_⟩
              have hN_ := hN.pushOwnM ho_ he_
              clear ho_ he_
              clear hN
              have hN : Now w none_ w47 [_, _, _, _, _, _, _] := hN_
              clear hN_
              refine RL.op rfl rfl (opN_storeAll (vs := [.int .i64 (d.room), v47]) sz45 rfl rfl rfl (by intro u hu; simp only [List.mem_cons, List.not_mem_nil, or_false] at hu; rcases hu with rfl | rfl <;> first | rfl | exact (hN.sm 0 rfl).one1) hN 4 rfl rfl ?_)
              intro w48 hN_
              clear hN
              have hN : Now w none_ w48 [_, _, _, _, _, _, _] := hN_
              clear hN_
              refine RL.ev rfl rfl ev_assign ?_
              refine RL.nil ?_
              refine thenN ?_
              refine RW.ret ?_
              refine thenR ?_
              refine retI (RV.cellTmp rfl rfl (run_cell (hN.blk 4 rfl) Try.underlying45 rfl sz45)) ?_
              have hr_ : res = ((⟨d.room, putIn ⟨x.to, f.firm, f.ws⟩ (without x.name d.fs)⟩ : Dk), 0) := by
                rw [← hres]
                unfold Disk.act
                rw [if_neg hbad, if_neg hc45, hfd]
                exact (if_neg hc75).trans (if_pos hc89)
              subst hr_
              exact ⟨_, _, rfl, OwnM.smo (hN.ownmOut 0 rfl) hF, putIn_ok ⟨rfl, hA.ext hN.ext0, _, hB.ext hN.ext0, hC.mod hN.ext0.mod⟩ (withoutH_ok (FEls.ext hel hN.ext0) _), hN.ext0⟩
            · skip
              refine RW.skip ?_
              refine thenN ?_
              refine RW.seq ?_
              refine RW.region ?_
              refine RL.ev rfl rfl (ev_loadAll (cs := [.int .i64 (d.room), v43]) Try.underlying45 rfl sz45 rfl (hN.blk 0 rfl)) ?_
              refine RL.op rfl rfl (opN_storeAll (vs := [.int .i64 (d.room), v43]) sz45 rfl rfl rfl (by intro u hu; simp only [List.mem_cons, List.not_mem_nil, or_false] at hu; rcases hu with rfl | rfl <;> first | rfl | exact (hN.sm 1 rfl).one1) hN 3 rfl rfl ?_)
              intro w49 hN_
              clear hN
              have hN : Now w none_ w49 [_, _, _, _, _, _] := hN_
              clear hN_
              refine RL.ev rfl rfl ev_assign ?_
              refine RL.nil ?_
              refine thenN ?_
              refine RW.ret ?_
              refine retI (RV.cellTmp rfl rfl (run_cell (hN.blk 3 rfl) Try.underlying45 rfl sz45)) ?_
              have hr_ : res = ((⟨d.room, without x.name d.fs⟩ : Dk), 0) := by
                rw [← hres]
                unfold Disk.act
                rw [if_neg hbad, if_neg hc45, hfd]
                exact (if_neg hc75).trans (if_neg hc89)
              subst hr_
              exact ⟨_, _, rfl, OwnM.smo (hN.ownmOut 1 rfl) hF, withoutH_ok (FEls.ext hel hN.ext0) _, hN.ext0⟩
    · skip
      rw [decide_eq_false hg1_18]
      refine RL.off rfl rfl (by decide) rfl rfl ?_
      refine RL.off rfl rfl (by decide) rfl rfl ?_
      refine RL.off rfl rfl (by decide) rfl rfl ?_
      refine RL.off rfl rfl (by decide) rfl rfl ?_
      refine RL.onEv rfl rfl (by decide) rfl rfl (ev_pickF rfl) ?_
      refine RL.ev rfl rfl (ev_pickF rfl) ?_
      refine RL.nil ?_
      refine thenN ?_
      refine RW.condF rfl ?_
      refine RW.skip ?_
      refine thenN ?_
      refine RW.seq ?_
      have hOb_ := findH_cases hel x.name
      rcases hOb_ with ⟨hfd, hfh⟩ | ⟨f, h, whs, hfd, hfh, hnf, hA, hB, hC⟩
      · skip
        refine RW.region ?_
        refine RL.ev rfl rfl (ev_loadAll (cs := [.int .i64 (d.room), Lv]) Try.underlying45 rfl sz45 rfl (hN.blk 2 rfl)) ?_
        refine RL.ev rfl rfl (ev_fieldAddr Try.underlying33 rfl sz9 (by decide) rfl) ?_
        refine RL.ev rfl rfl (ev_loadB Try.underlying9 rfl rfl (hN.blk 1 rfl) rfl) ?_
        refine RL.op rfl rfl (op_call2 Try.func37 rfl rfl rfl rfl ((refFind_calls (d.room) x.name _ hs _ (hL.1.o.now hN) none hfh).mono ?_))
        rintro _ w50 ⟨rfl, he_⟩
        replace hN := hN.ext he_
        clear he_
        refine RL.ev rfl rfl ev_move ?_
        refine RL.ev rfl rfl (ev_extract rfl rfl) ?_
        refine RL.ev rfl rfl (ev_extract rfl rfl) ?_
        refine RL.op rfl rfl (opN_alloc (cs := [.string ByteArray.empty, .slice none 0 0, .slice none 0 0]) zero78 rfl hN ?_)
        intro g51 w51 hN_
        clear hN
        have hN : Now w none_ w51 [_, _, _, _] := hN_
        clear hN_
        refine RL.op rfl rfl (opN_storeAll (vs := [(str x.name), .slice none 0 0, .slice none 0 0]) sz78 rfl rfl rfl (by intro u hu; simp only [List.mem_cons, List.not_mem_nil, or_false] at hu; rcases hu with rfl | rfl | rfl <;> first | rfl) hN 0 rfl rfl ?_)
        intro w52 hN_
        clear hN
        have hN : Now w none_ w52 [_, _, _, _] := hN_
        clear hN_
        refine RL.ev rfl rfl ev_assign ?_
        refine RL.nil ?_
        refine thenN ?_
        refine RW.seq ?_
        refine RW.seq ?_
        refine RW.region ?_
        refine RL.ev rfl rfl (ev_fieldAddr Try.underlying33 rfl sz3 (by decide) rfl) ?_
        refine RL.ev rfl rfl (ev_loadB Try.underlying3 rfl rfl (hN.blk 2 rfl) rfl) ?_
        refine RL.ev rfl rfl (ev_eql rfl rfl) ?_
        refine RL.nil ?_
        refine thenN ?_
        refine RW.condP _ rfl (fun hc45 => ?_) (fun hc45 => ?_)
        · skip
          refine RW.seq ?_
          refine RW.seq ?_
          refine RW.draw rfl (fun u => Now w none_ u [.blk g51 [(str x.name), .slice none 0 0, .slice none 0 0] 78, .blk g3 [.int .i64 (0), .slice none 0 0] 45, .blk g2 [.int .i64 (x.kind), (str x.name), (str x.to), (vh hx)] 33, .blk g1 [.int .i64 (d.room), Lv] 45]) ?_
          replace hN := hN.ext (Ext.drew w52)
          refine RA.take (i := 0) rfl rfl (by kernel_rfl) (by kernel_rfl) (by kernel_rfl) (by intro _ _ _ h; exact h) rfl hN (fun w hS => (ev_loadAll (cs := [.int .i64 (d.room), Lv]) Try.underlying45 rfl sz45 rfl (hS.blk 3 rfl))) ?_
          refine RA.take (i := 2) rfl rfl (by kernel_rfl) (by kernel_rfl) (by kernel_rfl) (by intro _ _ _ h; exact h) rfl hN (fun w hS => (ev_fieldAddr Try.underlying33 rfl sz23 (by decide) rfl)) ?_
          refine RA.take (i := 3) rfl rfl (by kernel_rfl) (by kernel_rfl) (by kernel_rfl) (by intro _ _ _ h; exact h) rfl hN (fun w hS => (ev_loadB Try.underlying23 rfl rfl (hS.blk 2 rfl) rfl)) ?_
          have hL_53 := (hdat.1.ext hN.ext0).len_le
          refine RA.take (i := 4) rfl rfl (by kernel_rfl) (by kernel_rfl) (by kernel_rfl) (by intro _ _ _ h; exact h) rfl hN (fun w hS => (ev_lenS Try.underlying23 (hdat.1.ext hS.ext0) rfl)) ?_
          refine RA.take (i := 6) rfl rfl (by kernel_rfl) (by kernel_rfl) (by kernel_rfl) (by intro _ _ _ h; exact h) rfl hN (fun w hS => (ev_fieldAddr Try.underlying45 rfl sz3 (by decide) rfl)) ?_
          refine RA.take (i := 7) rfl rfl (by kernel_rfl) (by kernel_rfl) (by kernel_rfl) (by intro _ _ _ h; exact h) rfl hN (fun w hS => (ev_loadB Try.underlying3 rfl rfl (hS.blk 3 rfl) rfl)) ?_
          refine RA.only (i := 1) (by kernel_rfl) rfl rfl rfl (op_call1 Try.func38 rfl rfl rfl ((refSize_calls d _ hs _ _ (hL.1.o.now hN) (FEls.nowN hel0 hN) hfit hn).mono ?_))
          rintro _ w54 ⟨rfl, he_⟩
          replace hN := hN.ext he_
          clear he_
          refine ⟨hN, ?_⟩
          refine RA.take (i := 5) rfl rfl (by kernel_rfl) (by kernel_rfl) (by kernel_rfl) (by intro _ _ _ h; exact h) rfl hN (fun w hS => (ev_arith rfl rfl rfl (add64 (by omega) (by omega)))) ?_
          refine RA.take (i := 8) rfl rfl (by kernel_rfl) (by kernel_rfl) (by kernel_rfl) (by intro _ _ _ h; exact h) rfl hN (fun w hS => (ev_gtr rfl rfl)) ?_
          refine RA.done (by kernel_rfl) ?_
          refine thenN ?_
          refine RW.condP _ rfl (fun hfull => ?_) (fun hfull => ?_)
          · skip
            refine RW.seq ?_
            refine RW.region ?_
            refine RL.ev rfl rfl (ev_loadAll (cs := [.int .i64 (d.room), Lv]) Try.underlying45 rfl sz45 rfl (hN.blk 3 rfl)) ?_
            refine RL.op rfl rfl (opN_storeAll (vs := [.int .i64 (d.room), Lv]) sz45 rfl rfl rfl (by intro u hu; simp only [List.mem_cons, List.not_mem_nil, or_false] at hu; rcases hu with rfl | rfl <;> first | rfl | exact (hL.1.o.now hN).one1) hN 1 rfl rfl ?_)
            intro w55 hN_
            clear hN
            have hN : Now w none_ w55 [_, _, _, _] := hN_
            clear hN_
            refine RL.ev rfl rfl ev_assign ?_
            refine RL.nil ?_
            refine thenN ?_
            refine RW.ret ?_
            refine thenR ?_
            refine thenR ?_
            refine retI (RV.cellTmp rfl rfl (run_cell (hN.blk 1 rfl) Try.underlying45 rfl sz45)) ?_
            have hr_ : res = (d, 11) := by
              rw [← hres]
              unfold Disk.act
              rw [if_neg hbad, if_pos hc45, if_pos (by omega)]
            subst hr_
            exact ⟨_, _, rfl, hL.ext hN.ext0, FEls.ext hel hN.ext0, hN.ext0⟩
          · skip
            refine RW.skip ?_
            refine thenN ?_
            refine RW.seq ?_
            refine RW.region ?_
            refine RL.ev rfl rfl ev_assign ?_
            refine RL.nil ?_
            refine thenN ?_
            refine RW.seq ?_
            refine RW.region ?_
            refine RL.ev rfl rfl ev_move ?_
            refine RL.ev rfl rfl (ev_fieldAddr Try.underlying78 rfl sz69 (by decide) rfl) ?_
            refine RL.ev rfl rfl (ev_loadB Try.underlying69 rfl rfl (hN.blk 0 rfl) rfl) ?_
            replace hN := hN.addNil vh 23
            refine RL.op rfl rfl (opN_append Try.underlying69 inf23 rfl vh_one hN 0 rfl rfl (Sl.nil _ _) rfl (by simp only [List.length_nil]; omega) (by decide) ?_)
            intro v56 w56 hN_
            clear hN
            have hN : Now w none_ w56 [_, _, _, _, _] := hN_
            clear hN_
            replace hN := hN.relist 0 rfl (show _ = [] from List.nil_append _)
            replace hN : Now w none_ w56 [_, _, _, _, _] := hN
            refine RL.ev rfl rfl ev_assign ?_
            refine RL.nil ?_
            refine thenN ?_
            refine RW.seq ?_
            refine RW.region ?_
            refine RL.ev rfl rfl ev_move ?_
            refine RL.ev rfl rfl (ev_fieldAddr Try.underlying33 rfl sz23 (by decide) rfl) ?_
            refine RL.ev rfl rfl (ev_loadB Try.underlying23 rfl rfl (hN.blk 3 rfl) rfl) ?_
            refine RL.op rfl rfl (opN_lit (enc := vh) (l := [hx]) (xs := [.tmp 62]) Try.underlying69 sz23 zr23 rfl rfl (fun _ => rfl) rfl (by decide) (by decide) hN ?_)
            intro g57 w57 hN_
            clear hN
            have hN : Now w none_ w57 [_, _, _, _, _, _] := hN_
            clear hN_
            refine RL.op rfl rfl (opN_append Try.underlying69 inf23 rfl vh_one hN 1 rfl rfl (hN.sl 0 rfl) rfl (by (try simp only [List.length_append, List.length_singleton, List.length_cons, List.length_nil]); omega) (by decide) ?_)
            intro v58 w58 hN_
            clear hN
            have hN : Now w none_ w58 [_, _, _, _, _, _] := hN_
            clear hN_
            replace hN := hN.relist 1 rfl (show _ = [hx] from List.nil_append _)
            replace hN : Now w none_ w58 [_, _, _, _, _, _] := hN
            refine RL.ev rfl rfl ev_assign ?_
            refine RL.nil ?_
            refine thenN ?_
            refine RW.seq ?_
            refine RW.region ?_
            refine RL.ev rfl rfl ev_move ?_
            refine RL.ev rfl rfl (ev_fieldAddr Try.underlying78 rfl sz69 (by decide) rfl) ?_
            refine RL.op rfl rfl (opN_store sz69 rfl rfl (hN.sl 1 rfl).cells1 (hN.sl 1 rfl).one1 hN 2 rfl (Nat.le_of_ble_eq_true rfl) ?_)
            intro w59 hN_
            clear hN
            have hN : Now w none_ w59 [_, _, _, _, _, _] := hN_
            clear hN_
            refine RL.nil ?_
            refine thenN ?_
            refine RW.seq ?_
            refine RW.region ?_
            refine RL.ev rfl rfl (ev_loadAll (cs := [.int .i64 (d.room), Lv]) Try.underlying45 rfl sz45 rfl (hN.blk 5 rfl)) ?_
            refine RL.ev rfl rfl (ev_loadAll (cs := [(str x.name), .slice none 0 0, v58]) Try.underlying78 rfl sz78 rfl (hN.blk 2 rfl)) ?_
            have hq_ := (hN.sl 1 rfl).hd
            obtain ⟨h61, hq_⟩ := hq_
            subst hq_
            refine RL.op rfl rfl (op_call2 Try.func39 rfl rfl rfl rfl ((refWith_calls (d.room) (x.name, nilH, h61) _ hs _ (hL.1.o.now hN) (by omega)).mono ?_))
            rintro _ w60 ⟨v60, rfl, ho_, he_⟩
            have hN_ := hN.pushOwnM ho_ he_
            clear ho_ he_
            clear hN
            have hN : Now w none_ w60 [_, _, _, _, _, _, _] := hN_
            clear hN_
            refine RL.op rfl rfl (opN_storeAll (vs := [.int .i64 (d.room), v60]) sz45 rfl rfl rfl (by intro u hu; simp only [List.mem_cons, List.not_mem_nil, or_false] at hu; rcases hu with rfl | rfl <;> first | rfl | exact (hN.sm 0 rfl).one1) hN 4 rfl rfl ?_)
            intro w62 hN_
            clear hN
            have hN : Now w none_ w62 [_, _, _, _, _, _, _] := hN_
            clear hN_
            refine RL.ev rfl rfl ev_assign ?_
            refine RL.nil ?_
            refine thenN ?_
            refine RW.ret ?_
            refine thenR ?_
            refine retI (RV.cellTmp rfl rfl (run_cell (hN.blk 4 rfl) Try.underlying45 rfl sz45)) ?_
            have hr_ : res = ((⟨d.room, putIn ⟨x.name, [], [] ++ [x.data]⟩ d.fs⟩ : Dk), 0) := by
              rw [← hres]
              unfold Disk.act
              rw [if_neg hbad, if_pos hc45, if_neg (by omega), hfd]
            subst hr_
            exact ⟨_, _, rfl, OwnM.smo (hN.ownmOut 0 rfl) hF, putIn_ok ⟨rfl, SlO.nil _ _ _, _, Own.slo (hN.ownOut 2 rfl) hF, Els.cons (hdat.1.ext hN.ext0) hdat.2 (Els.nil _ _ _)⟩ (FEls.ext hel hN.ext0), hN.ext0⟩
        · skip
          refine RW.skip ?_
          refine thenN ?_
          refine RW.seq ?_
          refine RW.seq ?_
          refine RW.region ?_
          refine RL.ev rfl rfl ev_move ?_
          refine RL.ev rfl rfl (ev_not rfl) ?_
          refine RL.nil ?_
          refine thenN ?_
          refine RW.condT rfl ?_
          refine RW.seq ?_
          refine RW.region ?_
          refine RL.ev rfl rfl (ev_loadAll (cs := [.int .i64 (d.room), Lv]) Try.underlying45 rfl sz45 rfl (hN.blk 3 rfl)) ?_
          refine RL.op rfl rfl (opN_storeAll (vs := [.int .i64 (d.room), Lv]) sz45 rfl rfl rfl (by intro u hu; simp only [List.mem_cons, List.not_mem_nil, or_false] at hu; rcases hu with rfl | rfl <;> first | rfl | exact (hL.1.o.now hN).one1) hN 1 rfl rfl ?_)
          intro w63 hN_
          clear hN
          have hN : Now w none_ w63 [_, _, _, _] := hN_
          clear hN_
          refine RL.ev rfl rfl ev_assign ?_
          refine RL.nil ?_
          refine thenN ?_
          refine RW.ret ?_
          refine thenR ?_
          refine retI (RV.cellTmp rfl rfl (run_cell (hN.blk 1 rfl) Try.underlying45 rfl sz45)) ?_
          have hr_ : res = (d, 4) := by
            rw [← hres]
            unfold Disk.act
            rw [if_neg hbad, if_neg hc45, hfd]
          subst hr_
          exact ⟨_, _, rfl, hL.ext hN.ext0, FEls.ext hel hN.ext0, hN.ext0⟩
      · skip
        have hfm := (find_some hfd).1
        have hln := hfit.fileLen2 hfm
        have hlw := hfit.fileWs2 hn hfm
        have hwl := hC.1
        refine RW.region ?_
        refine RL.ev rfl rfl (ev_loadAll (cs := [.int .i64 (d.room), Lv]) Try.underlying45 rfl sz45 rfl (hN.blk 2 rfl)) ?_
        refine RL.ev rfl rfl (ev_fieldAddr Try.underlying33 rfl sz9 (by decide) rfl) ?_
        refine RL.ev rfl rfl (ev_loadB Try.underlying9 rfl rfl (hN.blk 1 rfl) rfl) ?_
        refine RL.op rfl rfl (op_call2 Try.func37 rfl rfl rfl rfl ((refFind_calls (d.room) x.name _ hs _ (hL.1.o.now hN) (some h) hfh).mono ?_))
        rintro _ w64 ⟨rfl, he_⟩
        replace hN := hN.ext he_
        clear he_
        refine RL.ev rfl rfl ev_move ?_
        refine RL.ev rfl rfl (ev_extract rfl rfl) ?_
        refine RL.ev rfl rfl (ev_extract rfl rfl) ?_
        refine RL.op rfl rfl (opN_alloc (cs := [.string ByteArray.empty, .slice none 0 0, .slice none 0 0]) zero78 rfl hN ?_)
        intro g65 w65 hN_
        clear hN
        have hN : Now w none_ w65 [_, _, _, _] := hN_
        clear hN_
        refine RL.op rfl rfl (opN_storeAll (vs := [(str h.1), (vh h.2.1), (vh h.2.2)]) sz78 rfl rfl rfl (by intro u hu; simp only [List.mem_cons, List.not_mem_nil, or_false] at hu; rcases hu with rfl | rfl | rfl <;> first | rfl) hN 0 rfl rfl ?_)
        intro w66 hN_
        clear hN
        have hN : Now w none_ w66 [_, _, _, _] := hN_
        clear hN_
        refine RL.ev rfl rfl ev_assign ?_
        refine RL.nil ?_
        refine thenN ?_
        refine RW.seq ?_
        refine RW.seq ?_
        refine RW.region ?_
        refine RL.ev rfl rfl (ev_fieldAddr Try.underlying33 rfl sz3 (by decide) rfl) ?_
        refine RL.ev rfl rfl (ev_loadB Try.underlying3 rfl rfl (hN.blk 2 rfl) rfl) ?_
        refine RL.ev rfl rfl (ev_eql rfl rfl) ?_
        refine RL.nil ?_
        refine thenN ?_
        refine RW.condP _ rfl (fun hc45 => ?_) (fun hc45 => ?_)
        · skip
          refine RW.seq ?_
          refine RW.seq ?_
          refine RW.draw rfl (fun u => Now w none_ u [.blk g65 [(str h.1), (vh h.2.1), (vh h.2.2)] 78, .blk g3 [.int .i64 (0), .slice none 0 0] 45, .blk g2 [.int .i64 (x.kind), (str x.name), (str x.to), (vh hx)] 33, .blk g1 [.int .i64 (d.room), Lv] 45]) ?_
          replace hN := hN.ext (Ext.drew w66)
          refine RA.take (i := 0) rfl rfl (by kernel_rfl) (by kernel_rfl) (by kernel_rfl) (by intro _ _ _ h; exact h) rfl hN (fun w hS => (ev_loadAll (cs := [.int .i64 (d.room), Lv]) Try.underlying45 rfl sz45 rfl (hS.blk 3 rfl))) ?_
          refine RA.take (i := 2) rfl rfl (by kernel_rfl) (by kernel_rfl) (by kernel_rfl) (by intro _ _ _ h; exact h) rfl hN (fun w hS => (ev_fieldAddr Try.underlying33 rfl sz23 (by decide) rfl)) ?_
          refine RA.take (i := 3) rfl rfl (by kernel_rfl) (by kernel_rfl) (by kernel_rfl) (by intro _ _ _ h; exact h) rfl hN (fun w hS => (ev_loadB Try.underlying23 rfl rfl (hS.blk 2 rfl) rfl)) ?_
          have hL_67 := (hdat.1.ext hN.ext0).len_le
          refine RA.take (i := 4) rfl rfl (by kernel_rfl) (by kernel_rfl) (by kernel_rfl) (by intro _ _ _ h; exact h) rfl hN (fun w hS => (ev_lenS Try.underlying23 (hdat.1.ext hS.ext0) rfl)) ?_
          refine RA.take (i := 6) rfl rfl (by kernel_rfl) (by kernel_rfl) (by kernel_rfl) (by intro _ _ _ h; exact h) rfl hN (fun w hS => (ev_fieldAddr Try.underlying45 rfl sz3 (by decide) rfl)) ?_
          refine RA.take (i := 7) rfl rfl (by kernel_rfl) (by kernel_rfl) (by kernel_rfl) (by intro _ _ _ h; exact h) rfl hN (fun w hS => (ev_loadB Try.underlying3 rfl rfl (hS.blk 3 rfl) rfl)) ?_
          refine RA.only (i := 1) (by kernel_rfl) rfl rfl rfl (op_call1 Try.func38 rfl rfl rfl ((refSize_calls d _ hs _ _ (hL.1.o.now hN) (FEls.nowN hel0 hN) hfit hn).mono ?_))
          rintro _ w68 ⟨rfl, he_⟩
          replace hN := hN.ext he_
          clear he_
          refine ⟨hN, ?_⟩
          refine RA.take (i := 5) rfl rfl (by kernel_rfl) (by kernel_rfl) (by kernel_rfl) (by intro _ _ _ h; exact h) rfl hN (fun w hS => (ev_arith rfl rfl rfl (add64 (by omega) (by omega)))) ?_
          refine RA.take (i := 8) rfl rfl (by kernel_rfl) (by kernel_rfl) (by kernel_rfl) (by intro _ _ _ h; exact h) rfl hN (fun w hS => (ev_gtr rfl rfl)) ?_
          refine RA.done (by kernel_rfl) ?_
          refine thenN ?_
          refine RW.condP _ rfl (fun hfull => ?_) (fun hfull => ?_)
          · skip
            refine RW.seq ?_
            refine RW.region ?_
            refine RL.ev rfl rfl (ev_loadAll (cs := [.int .i64 (d.room), Lv]) Try.underlying45 rfl sz45 rfl (hN.blk 3 rfl)) ?_
            refine RL.op rfl rfl (opN_storeAll (vs := [.int .i64 (d.room), Lv]) sz45 rfl rfl rfl (by intro u hu; simp only [List.mem_cons, List.not_mem_nil, or_false] at hu; rcases hu with rfl | rfl <;> first | rfl | exact (hL.1.o.now hN).one1) hN 1 rfl rfl ?_)
            intro w69 hN_
            clear hN
            have hN : Now w none_ w69 [_, _, _, _] := hN_
            clear hN_
            refine RL.ev rfl rfl ev_assign ?_
            refine RL.nil ?_
            refine thenN ?_
            refine RW.ret ?_
            refine thenR ?_
            refine thenR ?_
            refine retI (RV.cellTmp rfl rfl (run_cell (hN.blk 1 rfl) Try.underlying45 rfl sz45)) ?_
            have hr_ : res = (d, 11) := by
              rw [← hres]
              unfold Disk.act
              rw [if_neg hbad, if_pos hc45, if_pos (by omega)]
            subst hr_
            exact ⟨_, _, rfl, hL.ext hN.ext0, FEls.ext hel hN.ext0, hN.ext0⟩
          · skip
            refine RW.skip ?_
            refine thenN ?_
            refine RW.seq ?_
            refine RW.region ?_
            refine RL.ev rfl rfl ev_assign ?_
            refine RL.nil ?_
            refine thenN ?_
            refine RW.seq ?_
            refine RW.region ?_
            refine RL.ev rfl rfl ev_move ?_
            refine RL.ev rfl rfl (ev_fieldAddr Try.underlying78 rfl sz69 (by decide) rfl) ?_
            refine RL.ev rfl rfl (ev_loadB Try.underlying69 rfl rfl (hN.blk 0 rfl) rfl) ?_
            replace hN := hN.addNil vh 23
            refine RL.op rfl rfl (opN_append Try.underlying69 inf23 rfl vh_one hN 0 rfl rfl (hB.1.o.now hN) rfl (by simp only [List.length_nil]; omega) (by decide) ?_)
            intro v70 w70 hN_
            clear hN
            have hN : Now w none_ w70 [_, _, _, _, _] := hN_
            clear hN_
            replace hN := hN.relist 0 rfl (show _ = whs from List.nil_append _)
            replace hN : Now w none_ w70 [_, _, _, _, _] := hN
            refine RL.ev rfl rfl ev_assign ?_
            refine RL.nil ?_
            refine thenN ?_
            refine RW.seq ?_
            refine RW.region ?_
            refine RL.ev rfl rfl ev_move ?_
            refine RL.ev rfl rfl (ev_fieldAddr Try.underlying33 rfl sz23 (by decide) rfl) ?_
            refine RL.ev rfl rfl (ev_loadB Try.underlying23 rfl rfl (hN.blk 3 rfl) rfl) ?_
            refine RL.op rfl rfl (opN_lit (enc := vh) (l := [hx]) (xs := [.tmp 62]) Try.underlying69 sz23 zr23 rfl rfl (fun _ => rfl) rfl (by decide) (by decide) hN ?_)
            intro g71 w71 hN_
            clear hN
            have hN : Now w none_ w71 [_, _, _, _, _, _] := hN_
            clear hN_
            refine RL.op rfl rfl (opN_append Try.underlying69 inf23 rfl vh_one hN 1 rfl rfl (hN.sl 0 rfl) rfl (by (try simp only [List.length_append, List.length_singleton, List.length_cons, List.length_nil]); omega) (by decide) ?_)
            intro v72 w72 hN_
            clear hN
            have hN : Now w none_ w72 [_, _, _, _, _, _] := hN_
            clear hN_
            refine RL.ev rfl rfl ev_assign ?_
            refine RL.nil ?_
            refine thenN ?_
            refine RW.seq ?_
            refine RW.region ?_
            refine RL.ev rfl rfl ev_move ?_
            refine RL.ev rfl rfl (ev_fieldAddr Try.underlying78 rfl sz69 (by decide) rfl) ?_
            refine RL.op rfl rfl (opN_store sz69 rfl rfl (hN.sl 1 rfl).cells1 (hN.sl 1 rfl).one1 hN 2 rfl (Nat.le_of_ble_eq_true rfl) ?_)
            intro w73 hN_
            clear hN
            have hN : Now w none_ w73 [_, _, _, _, _, _] := hN_
            clear hN_
            refine RL.nil ?_
            refine thenN ?_
            refine RW.seq ?_
            refine RW.region ?_
            refine RL.ev rfl rfl (ev_loadAll (cs := [.int .i64 (d.room), Lv]) Try.underlying45 rfl sz45 rfl (hN.blk 5 rfl)) ?_
            refine RL.ev rfl rfl (ev_loadAll (cs := [(str h.1), (vh h.2.1), v72]) Try.underlying78 rfl sz78 rfl (hN.blk 2 rfl)) ?_
            have hq_ := (hN.sl 1 rfl).hd
            obtain ⟨h75, hq_⟩ := hq_
            subst hq_
            refine RL.op rfl rfl (op_call2 Try.func39 rfl rfl rfl rfl ((refWith_calls (d.room) (h.1, h.2.1, h75) _ hs _ (hL.1.o.now hN) (by omega)).mono ?_))
            rintro _ w74 ⟨v74, rfl, ho_, he_⟩
            have hN_ := hN.pushOwnM ho_ he_
            clear ho_ he_
            clear hN
            have hN : Now w none_ w74 [_, _, _, _, _, _, _] := hN_
            clear hN_
            refine RL.op rfl rfl (opN_storeAll (vs := [.int .i64 (d.room), v74]) sz45 rfl rfl rfl (by intro u hu; simp only [List.mem_cons, List.not_mem_nil, or_false] at hu; rcases hu with rfl | rfl <;> first | rfl | exact (hN.sm 0 rfl).one1) hN 4 rfl rfl ?_)
            intro w76 hN_
            clear hN
            have hN : Now w none_ w76 [_, _, _, _, _, _, _] := hN_
            clear hN_
            refine RL.ev rfl rfl ev_assign ?_
            refine RL.nil ?_
            refine thenN ?_
            refine RW.ret ?_
            refine thenR ?_
            refine retI (RV.cellTmp rfl rfl (run_cell (hN.blk 4 rfl) Try.underlying45 rfl sz45)) ?_
            have hr_ : res = ((⟨d.room, putIn ⟨f.name, f.firm, f.ws ++ [x.data]⟩ d.fs⟩ : Dk), 0) := by
              rw [← hres]
              unfold Disk.act
              rw [if_neg hbad, if_pos hc45, if_neg (by omega), hfd]
            subst hr_
            exact ⟨_, _, rfl, OwnM.smo (hN.ownmOut 0 rfl) hF, putIn_ok ⟨hnf, hA.ext hN.ext0, _, Own.slo (hN.ownOut 2 rfl) hF, (hC.mod hN.ext0.mod).append (Els.cons (hdat.1.ext hN.ext0) hdat.2 (Els.nil _ _ _))⟩ (FEls.ext hel hN.ext0), hN.ext0⟩
        · skip
          refine RW.skip ?_
          refine thenN ?_
          refine RW.seq ?_
          refine RW.seq ?_
          refine RW.region ?_
          refine RL.ev rfl rfl ev_move ?_
          refine RL.ev rfl rfl (ev_not rfl) ?_
          refine RL.nil ?_
          refine thenN ?_
          refine RW.condF rfl ?_
          refine RW.skip ?_
          refine thenN ?_
          refine RW.seq ?_
          refine RW.seq ?_
          refine RW.region ?_
          refine RL.ev rfl rfl (ev_fieldAddr Try.underlying33 rfl sz3 (by decide) rfl) ?_
          refine RL.ev rfl rfl (ev_loadB Try.underlying3 rfl rfl (hN.blk 2 rfl) rfl) ?_
          refine RL.ev rfl rfl (ev_eql rfl rfl) ?_
          refine RL.nil ?_
          refine thenN ?_
          refine RW.condP _ rfl (fun hc75 => ?_) (fun hc75 => ?_)
          · skip
            refine RW.seq ?_
            refine RW.draw rfl (fun u => Now w none_ u [.blk g65 [(str h.1), (vh h.2.1), (vh h.2.2)] 78, .blk g2 [.int .i64 (x.kind), (str x.name), (str x.to), (vh hx)] 33, .blk g1 [.int .i64 (d.room), Lv] 45]) ?_
            replace hN := hN.ext (Ext.drew w66)
            refine RA.take (i := 0) rfl rfl (by kernel_rfl) (by kernel_rfl) (by kernel_rfl) (by intro _ _ _ h; exact h) rfl (hN.sub [0, 2, 3] (by decide) rfl) (fun w hS => (ev_loadAll (cs := [.int .i64 (d.room), Lv]) Try.underlying45 rfl sz45 rfl (hS.blk 2 rfl))) ?_
            refine RA.take (i := 1) rfl rfl (by kernel_rfl) (by kernel_rfl) (by kernel_rfl) (by intro _ _ _ h; exact h) rfl (hN.sub [0, 2, 3] (by decide) rfl) (fun w hS => (ev_fieldAddr Try.underlying78 rfl sz9 (by decide) rfl)) ?_
            refine RA.take (i := 2) rfl rfl (by kernel_rfl) (by kernel_rfl) (by kernel_rfl) (by intro _ _ _ h; exact h) rfl (hN.sub [0, 2, 3] (by decide) rfl) (fun w hS => (ev_loadB Try.underlying9 rfl rfl (hS.blk 0 rfl) rfl)) ?_
            refine RA.take (i := 3) rfl rfl (by kernel_rfl) (by kernel_rfl) (by kernel_rfl) (by intro _ _ _ h; exact h) rfl (hN.sub [0, 2, 3] (by decide) rfl) (fun w hS => (ev_loadAll (cs := [(str h.1), (vh h.2.1), (vh h.2.2)]) Try.underlying78 rfl sz78 rfl (hS.blk 0 rfl))) ?_
            refine RA.only (i := 4) (by kernel_rfl) rfl rfl rfl (op_call1 Try.func40 rfl rfl rfl ((refAll_calls h _ f.firm f.ws _ (hA.1.o.now hN) (hB.1.o.now hN) ((Els.none hC).nowN hN) hln hlw).mono ?_))
            rintro v77 w77 ⟨ho_, he_⟩
            have hN_ := hN.pushOwn (l := (f.firm ++ f.ws.flatten)) ho_ he_
            clear ho_ he_
            clear hN
            have hN : Now w none_ w77 [_, _, _, _, _] := hN_
            clear hN_
            refine ⟨(hN.sub [1, 3, 4] (by decide) rfl), ?_⟩
            refine RA.only (i := 5) (by kernel_rfl) rfl rfl rfl (OpR.ev (ev_buildL (cs := [(str h.1), v77, .slice none 0 0]) Try.underlying78 zero78 (places := #[(0, 1), (1, 1), (2, 1)]) (by intro w; kernel_rfl) (pl := [(0, .tmp 78), (1, .tmp 80)]) rfl (ps := [(0, (str h.1)), (1, v77)]) rfl (zc := [.string ByteArray.empty, .slice none 0 0, .slice none 0 0]) rfl (fill_step (vs := [(str h.1)]) rfl rfl (Nat.le_of_ble_eq_true rfl) (fill_step (vs := [v77]) (hN.sl 0 rfl).cells1 rfl (Nat.le_of_ble_eq_true rfl) rfl))) ⟨(hN.sub [1, 3, 4] (by decide) rfl), ?_⟩)
            have hq_ := (hN.sl 0 rfl).hd
            obtain ⟨h79, hq_⟩ := hq_
            subst hq_
            refine RA.only (i := 6) (by kernel_rfl) rfl rfl rfl (op_call2 Try.func39 rfl rfl rfl rfl ((refWith_calls (d.room) (h.1, h79, nilH) _ hs _ (hL.1.o.now hN) (by omega)).mono ?_))
            rintro _ w78 ⟨v78, rfl, ho_, he_⟩
            have hN_ := hN.pushOwnM ho_ he_
            clear ho_ he_
            clear hN
            have hN : Now w none_ w78 [_, _, _, _, _, _] := hN_
            clear hN_
            refine ⟨(hN.sub [2, 4, 5] (by decide) rfl), ?_⟩
            refine RA.only (i := 7) (by kernel_rfl) rfl rfl rfl (opN_storeAll (vs := [.int .i64 (d.room), v78]) sz45 rfl rfl rfl (by intro u hu; simp only [List.mem_cons, List.not_mem_nil, or_false] at hu; rcases hu with rfl | rfl <;> first | rfl | exact (hN.sm 0 rfl).one1) hN 3 rfl rfl ?_)
            intro w80 hN_
            clear hN
            have hN : Now w none_ w80 [_, _, _, _, _, _] := hN_
            clear hN_
            refine ⟨(hN.sub [2, 4, 5] (by decide) rfl), ?_⟩
            refine RA.take (i := 8) rfl rfl (by kernel_rfl) (by kernel_rfl) (by kernel_rfl) (by intro _ _ _ h; exact h) rfl (hN.sub [2, 4, 5] (by decide) rfl) (fun w hS => ev_assign) ?_
            refine RA.done (by kernel_rfl) ?_
            refine thenN ?_
            refine RW.ret ?_
            refine thenR ?_
            refine retI (RV.cellTmp rfl rfl (run_cell (hN.blk 3 rfl) Try.underlying45 rfl sz45)) ?_
            have hr_ : res = ((⟨d.room, putIn ⟨f.name, f.firm ++ f.ws.flatten, []⟩ d.fs⟩ : Dk), 0) := by
              rw [← hres]
              unfold Disk.act
              rw [if_neg hbad, if_neg hc45, hfd]
              exact if_pos hc75
            subst hr_
            exact ⟨_, _, rfl, OwnM.smo (hN.ownmOut 0 rfl) hF, putIn_ok ⟨hnf, Own.slo (hN.ownOut 1 rfl) hF, _, SlO.nil _ _ _, Els.nil _ _ _⟩ (FEls.ext hel hN.ext0), hN.ext0⟩
          · skip
            refine RW.skip ?_
            refine thenN ?_
            refine RW.seq ?_
            refine RW.region ?_
            refine RL.ev rfl rfl (ev_loadAll (cs := [.int .i64 (d.room), Lv]) Try.underlying45 rfl sz45 rfl (hN.blk 3 rfl)) ?_
            refine RL.ev rfl rfl (ev_fieldAddr Try.underlying33 rfl sz9 (by decide) rfl) ?_
            refine RL.ev rfl rfl (ev_loadB Try.underlying9 rfl rfl (hN.blk 2 rfl) rfl) ?_
            refine RL.op rfl rfl (op_call2 Try.func41 rfl rfl rfl rfl ((refWithout_calls (d.room) x.name _ hs _ (hL.1.o.now hN) (by omega)).mono ?_))
            rintro _ w81 ⟨v81, rfl, ho_, he_⟩
            have hN_ := hN.pushOwnM ho_ he_
            clear ho_ he_
            clear hN
            have hN : Now w none_ w81 [_, _, _, _, _] := hN_
            clear hN_
            refine RL.op rfl rfl (opN_alloc (cs := [.int .i64 (0), .slice none 0 0]) zero45 rfl hN ?_)
            intro g82 w82 hN_
            clear hN
            have hN : Now w none_ w82 [_, _, _, _, _, _] := hN_
            clear hN_
            refine RL.op rfl rfl (opN_storeAll (vs := [.int .i64 (d.room), v81]) sz45 rfl rfl rfl (by intro u hu; simp only [List.mem_cons, List.not_mem_nil, or_false] at hu; rcases hu with rfl | rfl <;> first | rfl | exact (hN.sm 1 rfl).one1) hN 0 rfl rfl ?_)
            intro w83 hN_
            clear hN
            have hN : Now w none_ w83 [_, _, _, _, _, _] := hN_
            clear hN_
            refine RL.nil ?_
            refine thenN ?_
            refine RW.seq ?_
            refine RW.seq ?_
            have hwo := length_withoutH x.name hs
            refine RW.region ?_
            refine RL.ev rfl rfl (ev_fieldAddr Try.underlying33 rfl sz3 (by decide) rfl) ?_
            refine RL.ev rfl rfl (ev_loadB Try.underlying3 rfl rfl (hN.blk 4 rfl) rfl) ?_
            refine RL.ev rfl rfl (ev_eql rfl rfl) ?_
            refine RL.nil ?_
            refine thenN ?_
            refine RW.condP _ rfl (fun hc89 => ?_) (fun hc89 => ?_)
            · skip
              refine RW.seq ?_
              refine RW.region ?_
              refine RL.ev rfl rfl (ev_fieldAddr Try.underlying33 rfl sz9 (by decide) rfl) ?_
              refine RL.ev rfl rfl (ev_loadB Try.underlying9 rfl rfl (hN.blk 4 rfl) rfl) ?_
              refine RL.ev rfl rfl (ev_fieldAddr Try.underlying78 rfl sz9 (by decide) rfl) ?_
              refine RL.op rfl rfl (opN_store sz9 rfl rfl rfl rfl hN 2 rfl (Nat.le_of_ble_eq_true rfl) ?_)
              intro w84 hN_
              clear hN
              have hN : Now w none_ w84 [_, _, _, _, _, _] := hN_
              clear hN_
              refine RL.nil ?_
              refine thenN ?_
              refine RW.seq ?_
              refine RW.region ?_
              refine RL.ev rfl rfl (ev_loadAll (cs := [.int .i64 (d.room), v81]) Try.underlying45 rfl sz45 rfl (hN.blk 0 rfl)) ?_
              refine RL.ev rfl rfl (ev_loadAll (cs := [(str x.to), (vh h.2.1), (vh h.2.2)]) Try.underlying78 rfl sz78 rfl (hN.blk 2 rfl)) ?_
              refine RL.op rfl rfl (op_call2 Try.func39 rfl rfl rfl rfl ((refWith_calls (d.room) (x.to, h.2.1, h.2.2) _ (withoutH x.name hs) _ (hN.sm 1 rfl) (by omega)).mono ?_))
              rintro _ w85 ⟨v85, rfl, ho_, he_⟩
              have hN_ := hN.pushOwnM ho_ he_
              clear ho_ he_
              clear hN
              have hN : Now w none_ w85 [_, _, _, _, _, _, _] := hN_
              clear hN_
              refine RL.op rfl rfl (opN_storeAll (vs := [.int .i64 (d.room), v85]) sz45 rfl rfl rfl (by intro u hu; simp only [List.mem_cons, List.not_mem_nil, or_false] at hu; rcases hu with rfl | rfl <;> first | rfl | exact (hN.sm 0 rfl).one1) hN 4 rfl rfl ?_)
              intro w86 hN_
              clear hN
              have hN : Now w none_ w86 [_, _, _, _, _, _, _] := hN_
              clear hN_
              refine RL.ev rfl rfl ev_assign ?_
              refine RL.nil ?_
              refine thenN ?_
              refine RW.ret ?_
              refine thenR ?_
              refine retI (RV.cellTmp rfl rfl (run_cell (hN.blk 4 rfl) Try.underlying45 rfl sz45)) ?_
              have hr_ : res = ((⟨d.room, putIn ⟨x.to, f.firm, f.ws⟩ (without x.name d.fs)⟩ : Dk), 0) := by
                rw [← hres]
                unfold Disk.act
                rw [if_neg hbad, if_neg hc45, hfd]
                exact (if_neg hc75).trans (if_pos hc89)
              subst hr_
              exact ⟨_, _, rfl, OwnM.smo (hN.ownmOut 0 rfl) hF, putIn_ok ⟨rfl, hA.ext hN.ext0, _, hB.ext hN.ext0, hC.mod hN.ext0.mod⟩ (withoutH_ok (FEls.ext hel hN.ext0) _), hN.ext0⟩
            · skip
              refine RW.skip ?_
              refine thenN ?_
              refine RW.seq ?_
              refine RW.region ?_
              refine RL.ev rfl rfl (ev_loadAll (cs := [.int .i64 (d.room), v81]) Try.underlying45 rfl sz45 rfl (hN.blk 0 rfl)) ?_
              refine RL.op rfl rfl (opN_storeAll (vs := [.int .i64 (d.room), v81]) sz45 rfl rfl rfl (by intro u hu; simp only [List.mem_cons, List.not_mem_nil, or_false] at hu; rcases hu with rfl | rfl <;> first | rfl | exact (hN.sm 1 rfl).one1) hN 3 rfl rfl ?_)
              intro w87 hN_
              clear hN
              have hN : Now w none_ w87 [_, _, _, _, _, _] := hN_
              clear hN_
              refine RL.ev rfl rfl ev_assign ?_
              refine RL.nil ?_
              refine thenN ?_
              refine RW.ret ?_
              refine retI (RV.cellTmp rfl rfl (run_cell (hN.blk 3 rfl) Try.underlying45 rfl sz45)) ?_
              have hr_ : res = ((⟨d.room, without x.name d.fs⟩ : Dk), 0) := by
                rw [← hres]
                unfold Disk.act
                rw [if_neg hbad, if_neg hc45, hfd]
                exact (if_neg hc75).trans (if_neg hc89)
              subst hr_
              exact ⟨_, _, rfl, OwnM.smo (hN.ownmOut 1 rfl) hF, withoutH_ok (FEls.ext hel hN.ext0) _, hN.ext0⟩

end Go.Proofs.Ytlblpiapeieofaa
