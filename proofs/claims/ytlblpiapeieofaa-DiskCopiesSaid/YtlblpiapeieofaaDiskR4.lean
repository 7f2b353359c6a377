import Derived.Test.YtlblpiapeieofaaDiskR3
set_option linter.unusedVariables false
set_option linter.unusedSimpArgs false
namespace Go.Proofs.Ytlblpiapeieofaa
open Go.RowKit Go.Rl

open Go.Disk
set_option maxHeartbeats 4000000 in
set_option maxRecDepth 100000 in
/-- postroad/postroadref04.Run -/
theorem refRun_calls {w : World} (F : Nat → Prop) (hF : ∀ k, F k → k < w.heap.size) (d : Dk) (Lv : Value) (hs : List FH) (n : Nat) (Ov : Value) (os : List OH) (xs : List Disk.Op) (hL : SmO F fcells w Lv hs) (hel : FEls F w hs d.fs) (hfit : Fits n d) (hn : n + xs.length ≤ 1048576) (hO : SmO F ocells w Ov os) (hox : OEls F w os xs) (hdl : ∀ x ∈ xs, x.data.length ≤ 1099511627776) (res : Dk × Nat) (hres : run d xs = res) : Gives Try.prog 26 #[.agg #[.int .i64 d.room, Lv], Ov] w fun r w' => ∃ Lv' hs', r = .tuple #[.agg #[.int .i64 res.1.room, Lv'], .int .i64 (res.2 : Int)] ∧ SmO F fcells w' Lv' hs' ∧ FEls F w' hs' res.1.fs ∧ Ext w w' := by
  refine Gives.start Try.func26 rfl (Nat.le_of_ble_eq_true rfl) ?_
  rw [args2]
  have hN := Now.nil w none_
  have hle := hox.1
  have hO0 := hO.1.o
  have hox0 : OEls none_ w os xs := OEls.less hox fun _ _ e => e.elim
  refine RW.seq ?_
  refine RW.region ?_
  refine RL.op rfl rfl (opN_box (cs := [.int .i64 (d.room), Lv]) rfl rfl hN ?_)
  intro g1 w1 hN_
  clear hN
  have hN : Now w none_ w1 [_] := hN_
  clear hN_
  refine RL.op rfl rfl (opN_alloc (cs := [.int .i64 (0), .slice none 0 0]) zero45 rfl hN ?_)
  intro g2 w2 hN_
  clear hN
  have hN : Now w none_ w2 [_, _] := hN_
  clear hN_
  refine RL.ev rfl rfl ev_assign ?_
  have hg : ∀ k, (k = g1 ∨ k = g2) → w.heap.size ≤ k := by
    rintro k (rfl | rfl)
    · exact (hN.low 1 _ rfl _ rfl).1.elim (fun e => e.elim) id
    · exact (hN.low 0 _ rfl _ rfl).1.elim (fun e => e.elim) id
  refine RL.nil ?_
  refine thenN ?_
  refine RW.seq ?_
  refine RW.seq ?_
  refine RW.region ?_
  refine RL.ev rfl rfl ev_assign ?_
  refine RL.nil ?_
  refine thenN ?_
  refine RW.block ?_
  refine RW.loop (fun k R0 w0' => ∃ d2 : Dk, ∃ Lv2 : Value, ∃ hs2 : List FH, ∃ i : Nat, R0 1 = Ov ∧ R0 2 = .pointer (some ⟨g1, 0, none⟩) ∧ R0 4 = .pointer (some ⟨g2, 0, none⟩) ∧ R0 6 = .int .i64 ((i : Int)) ∧ Now w none_ w0' [.blk g2 [.int .i64 (0), .slice none 0 0] 45, .blk g1 [.int .i64 (d2.room), Lv2] 45] ∧ (i + k = os.length) ∧ (Fits (n + i) d2) ∧ (run d xs = ((run d2 (xs.drop i)).1, (run d2 (xs.drop i)).2 + i)) ∧ (SmO (Or2 F (fun k => k = g1 ∨ k = g2)) fcells w0' Lv2 hs2) ∧ (FEls (Or2 F (fun k => k = g1 ∨ k = g2)) w0' hs2 d2.fs)) (os.length) ?_ ?_
  · skip
    exact ⟨d, Lv, hs, 0, rfl, rfl, rfl, rfl, hN, by omega, hfit, rfl, SmO.grow fcells_ne hL hN.ext0 hg, FEls.grow hel hN.ext0 hg⟩
  · skip
    clear hN
    rintro k R0 w0' ⟨d2, Lv2, hs2, i, hr1_, hr2_, hr4_, hr6_, hN, hik, hfit2, hr, hS2, hE2⟩
    have hR_ : ∃ R0_, R0 = (upd (upd (upd (upd R0_ 1 _) 2 _) 4 _) 6 _) := ⟨R0, by rw [upd_self hr1_, upd_self hr2_, upd_self hr4_, upd_self hr6_]⟩
    obtain ⟨R0_, rfl⟩ := hR_
    clear hr1_ hr2_ hr4_ hr6_
    have hF3 := hN
    clear hN
    have hN := hF3.here
    replace hN : Now w0' (foots [.blk g2 [.int .i64 (0), .slice none 0 0] 45, .blk g1 [.int .i64 (d2.room), Lv2] 45]) w0' [.blk g2 [.int .i64 (0), .slice none 0 0] 45, .blk g1 [.int .i64 (d2.room), Lv2] 45] := hN
    have hgb : ∀ k, (foots [.blk g2 [.int .i64 (0), .slice none 0 0] 45, .blk g1 [.int .i64 (d2.room), Lv2] 45]) k → (Or2 F (fun k => k = g1 ∨ k = g2)) k := fun k h => .inr ((feet_cons h).elim (fun e => .inr e) (fun h => (feet_cons h).elim (fun e => .inl e) (fun h => (feet_nil h).elim)))
    have hSb := SmO.less (G := (foots [.blk g2 [.int .i64 (0), .slice none 0 0] 45, .blk g1 [.int .i64 (d2.room), Lv2] 45])) fcells_ne hS2 (fun k _ h => hgb k h)
    have hEb := FEls.less (G := (foots [.blk g2 [.int .i64 (0), .slice none 0 0] 45, .blk g1 [.int .i64 (d2.room), Lv2] 45])) hE2 (fun k _ h => hgb k h)
    refine RW.seq ?_
    refine RW.seq ?_
    refine RW.region ?_
    refine RL.ev rfl rfl ev_move ?_
    refine RL.ev rfl rfl ev_move ?_
    have hL_4 := ((SmO.step ocells_ne hO0 hF3).now hN).len_le
    refine RL.ev rfl rfl (ev_lenM Try.underlying22 ((SmO.step ocells_ne hO0 hF3).now hN) rfl) ?_
    refine RL.ev rfl rfl (ev_lss rfl rfl) ?_
    refine RL.nil ?_
    refine thenN ?_
    refine RW.condP _ rfl (fun hlt => ?_) (fun hlt => ?_)
    · skip
      refine RW.skip ?_
      refine thenN ?_
      refine RW.seq ?_
      refine RW.block ?_
      refine RW.seq ?_
      refine RW.draw rfl (fun u => Now w0' (foots [.blk g2 [.int .i64 (0), .slice none 0 0] 45, .blk g1 [.int .i64 (d2.room), Lv2] 45]) u [.blk g2 [.int .i64 (0), .slice none 0 0] 45, .blk g1 [.int .i64 (d2.room), Lv2] 45]) ?_
      replace hN := hN.ext (Ext.drew w0')
      refine RA.take (i := 0) rfl rfl (by kernel_rfl) (by kernel_rfl) (by kernel_rfl) (by intro _ _ _ h; exact h) rfl hN (fun w hS => (ev_loadAll (cs := [.int .i64 (d2.room), Lv2]) Try.underlying45 rfl sz45 rfl (hS.blk 1 rfl))) ?_
      refine RA.take (i := 1) rfl rfl (by kernel_rfl) (by kernel_rfl) (by kernel_rfl) (by intro _ _ _ h; exact h) rfl hN (fun w hS => ev_move) ?_
      refine RA.take (i := 2) rfl rfl (by kernel_rfl) (by kernel_rfl) (by kernel_rfl) (by intro _ _ _ h; exact h) rfl hN (fun w hS => ev_move) ?_
      refine RA.take (i := 3) rfl rfl (by kernel_rfl) (by kernel_rfl) (by kernel_rfl) (by intro _ _ _ h; exact h) rfl hN (fun w hS => (ev_indexM Try.underlying22 sz33 ocells_len (by decide) ((SmO.step ocells_ne hO0 hF3).now hS) rfl rfl (by omega) (by omega))) ?_
      have hOb_ := OEls.get (OEls.step hox0 hF3) i (by omega)
      obtain ⟨xe, hxe, hae, hxse, hde⟩ := hOb_
      have hdle := hdl xe (List.mem_of_getElem? hxse)
      refine RA.take (i := 4) rfl rfl (by kernel_rfl) (by kernel_rfl) (by kernel_rfl) (by intro _ _ _ h; exact h) rfl hN (fun w hS => (ev_loadM (m := i) (a := (xe.kind, xe.name, xe.to, hxe)) Try.underlying33 rfl sz33 ocells_len (by decide) ((SmO.step ocells_ne hO0 hF3).now hS) rfl hae (cs := [.int .i64 (xe.kind), (str xe.name), (str xe.to), (vh hxe)]) rfl)) ?_
      have hdr : xs.drop i = xe :: xs.drop (i + 1) := drop_at hxse
      refine RA.two (i := 5) (j := 9) (by kernel_rfl) rfl rfl rfl rfl rfl rfl ?_ ?_
      · skip
        have hcS6 : SmO (Or2 F (foots [.blk g2 [.int .i64 (0), .slice none 0 0] 45, .blk g1 [.int .i64 (d2.room), Lv2] 45])) fcells _ Lv2 hs2 := SmO.or (SmO.less fcells_ne (SmO.carry hS2 hN hgb) (fun k _ h => .inl h)) (SmO.step fcells_ne hSb hN)
        have hcE6 : FEls (Or2 F (foots [.blk g2 [.int .i64 (0), .slice none 0 0] 45, .blk g1 [.int .i64 (d2.room), Lv2] 45])) _ hs2 d2.fs := FEls.or (FEls.less (FEls.carry hE2 hN hgb) (fun k _ h => .inl h)) (FEls.step hEb hN)
        refine (op_call2 Try.func21 rfl rfl rfl rfl ((refDo_calls (Or2 F (foots [.blk g2 [.int .i64 (0), .slice none 0 0] 45, .blk g1 [.int .i64 (d2.room), Lv2] 45])) (fun k hk => hk.elim (fun h => Nat.lt_of_lt_of_le (hF k h) (Nat.le_trans hF3.size hN.size)) (fun h => hN.feetLt h)) d2 _ hs2 (n + i) xe hxe hcS6 hcE6 hfit2 (by omega) (SlO.or ⟨(hde.step hN).1, (hox.2 _ _ _ hae hxse).2.2.2.2⟩ (hde.step hN)) hdle _ rfl).mono ?_))
        rintro _ w5 ⟨Lv5, hs5, rfl, hS5, hE5, he_⟩
        replace hN := hN.ext he_
        replace hcS6 := hcS6.ext he_
        replace hcE6 := FEls.ext hcE6 he_
        clear he_
        have hF7 := hN
        clear hN
        have hN := hF7.here
        replace hN : Now w5 (foots [.blk g2 [.int .i64 (0), .slice none 0 0] 45, .blk g1 [.int .i64 (d2.room), Lv2] 45]) w5 [.blk g2 [.int .i64 (0), .slice none 0 0] 45, .blk g1 [.int .i64 (d2.room), Lv2] 45] := hN
        have hSb5 := SmO.less (G := (foots [.blk g2 [.int .i64 (0), .slice none 0 0] 45, .blk g1 [.int .i64 (d2.room), Lv2] 45])) fcells_ne hS5 (fun k _ h => .inr h)
        have hEb5 := FEls.less (G := (foots [.blk g2 [.int .i64 (0), .slice none 0 0] 45, .blk g1 [.int .i64 (d2.room), Lv2] 45])) hE5 (fun k _ h => .inr h)
        refine ⟨(hF7.back hN), ?_⟩
        refine RA.take (i := 6) rfl rfl (by kernel_rfl) (by kernel_rfl) (by kernel_rfl) (by intro _ _ _ h; exact h) rfl (hF7.back hN) (fun w hS => ev_move) ?_
        refine RA.take (i := 7) rfl rfl (by kernel_rfl) (by kernel_rfl) (by kernel_rfl) (by intro _ _ _ h; exact h) rfl (hF7.back hN) (fun w hS => (ev_extract rfl rfl)) ?_
        refine RA.take (i := 8) rfl rfl (by kernel_rfl) (by kernel_rfl) (by kernel_rfl) (by intro _ _ _ h; exact h) rfl (hF7.back hN) (fun w hS => (ev_extract rfl rfl)) ?_
        refine RA.only (i := 9) (by kernel_rfl) rfl rfl rfl (opN_alloc (cs := [.int .i64 (0), .slice none 0 0]) zero45 rfl hN ?_)
        intro g8 w8 hN_
        clear hN
        have hN : Now w5 (foots [.blk g2 [.int .i64 (0), .slice none 0 0] 45, .blk g1 [.int .i64 (d2.room), Lv2] 45]) w8 [_, _, _] := hN_
        clear hN_
        refine ⟨((hF7.back hN).sub [1, 2] (by decide) rfl), ?_⟩
        refine RA.only (i := 10) (by kernel_rfl) rfl rfl rfl (opN_storeAll (vs := [.int .i64 ((act d2 xe).1.room), Lv5]) sz45 rfl rfl rfl (by intro u hu; simp only [List.mem_cons, List.not_mem_nil, or_false] at hu; rcases hu with rfl | rfl <;> first | rfl | exact (hSb5.now hN).one1) hN 0 rfl rfl ?_)
        intro w9 hN_
        clear hN
        have hN : Now w5 (foots [.blk g2 [.int .i64 (0), .slice none 0 0] 45, .blk g1 [.int .i64 (d2.room), Lv2] 45]) w9 [_, _, _] := hN_
        clear hN_
        refine ⟨((hF7.back hN).sub [1, 2] (by decide) rfl), ?_⟩
        refine RA.take (i := 11) rfl rfl (by kernel_rfl) (by kernel_rfl) (by kernel_rfl) (by intro _ _ _ h; exact h) rfl ((hF7.back hN).sub [1, 2] (by decide) rfl) (fun w hS => ev_assign) ?_
        refine RA.done (by kernel_rfl) ?_
        refine thenN ?_
        refine RW.seq ?_
        refine RW.seq ?_
        refine RW.region ?_
        refine RL.ev rfl rfl ev_move ?_
        refine RL.ev rfl rfl (ev_neq rfl rfl) ?_
        refine RL.nil ?_
        refine thenN ?_
        refine RW.condP _ rfl (fun hbad => ?_) (fun hbad => ?_)
        · skip
          refine RW.seq ?_
          refine RW.region ?_
          refine RL.ev rfl rfl (ev_loadAll (cs := [.int .i64 (d2.room), Lv2]) Try.underlying45 rfl sz45 rfl (hN.blk 2 rfl)) ?_
          refine RL.ev rfl rfl ev_move ?_
          refine RL.op rfl rfl (opN_storeAll (vs := [.int .i64 (d2.room), Lv2]) sz45 rfl rfl rfl (by intro u hu; simp only [List.mem_cons, List.not_mem_nil, or_false] at hu; rcases hu with rfl | rfl <;> first | rfl | exact ((SmO.step fcells_ne hSb hF7).now hN).one1) hN 1 rfl rfl ?_)
          intro w10 hN_
          clear hN
          have hN : Now w5 (foots [.blk g2 [.int .i64 (0), .slice none 0 0] 45, .blk g1 [.int .i64 (d2.room), Lv2] 45]) w10 [_, _, _] := hN_
          clear hN_
          refine RL.ev rfl rfl ev_assign ?_
          refine RL.nil ?_
          refine thenN ?_
          refine RW.ret ?_
          refine thenR ?_
          refine blockR ?_
          refine thenR ?_
          refine thenR ?_
          refine blockR ?_
          refine thenR ?_
          refine retI (RV.cellTmp rfl rfl (run_cell (hN.blk 1 rfl) Try.underlying45 rfl sz45)) ?_
          have hr_ : res = (d2, i) := by rw [← hres, hr, hdr, run_cons_err hbad, Nat.zero_add]
          subst hr_
          exact ⟨_, _, rfl, SmO.less fcells_ne (SmO.carry hcS6 hN (fun k h => .inr h)) (fun k _ h => .inl h), FEls.less (FEls.carry hcE6 hN (fun k h => .inr h)) (fun k _ h => .inl h), (hF3.back (hF7.back hN)).ext0⟩
        · skip
          refine RW.skip ?_
          refine thenN ?_
          refine RW.region ?_
          refine RL.ev rfl rfl (ev_loadAll (cs := [.int .i64 ((act d2 xe).1.room), Lv5]) Try.underlying45 rfl sz45 rfl (hN.blk 0 rfl)) ?_
          refine RL.op rfl rfl (opN_storeAll (vs := [.int .i64 ((act d2 xe).1.room), Lv5]) sz45 rfl rfl rfl (by intro u hu; simp only [List.mem_cons, List.not_mem_nil, or_false] at hu; rcases hu with rfl | rfl <;> first | rfl | exact (hSb5.now hN).one1) hN 2 rfl rfl ?_)
          intro w11 hN_
          clear hN
          have hN : Now w5 (foots [.blk g2 [.int .i64 (0), .slice none 0 0] 45, .blk g1 [.int .i64 (d2.room), Lv2] 45]) w11 [_, _, _] := hN_
          clear hN_
          refine RL.nil ?_
          refine blockN ?_
          refine thenN ?_
          refine RW.region ?_
          refine RL.ev rfl rfl ev_move ?_
          refine RL.ev rfl rfl (ev_arith rfl rfl rfl (add64 (by omega) (by omega))) ?_
          refine RL.ev rfl rfl ev_assign ?_
          refine RL.nil ?_
          refine thenN ?_
          exact ⟨k - 1, by omega, (act d2 xe).1, Lv5, hs5, i + 1, rfl, rfl, rfl, rfl, (hF3.back (hF7.back (hN.sub [1, 2] (by decide) rfl))), by omega, (by rw [← Nat.add_assoc]; exact hfit2.act xe), by rw [hr, hdr, run_cons_ok (Decidable.not_not.1 hbad), Nat.add_assoc, Nat.add_comm 1 i], (SmO.less fcells_ne (SmO.carry hS5 hN (fun k h => .inr h)) (fun k _ h => h.elim .inl fun h => .inr (h.elim (fun e => ⟨_, List.mem_of_getElem? (i := 1) rfl, e⟩) (fun e => ⟨_, List.mem_of_getElem? (i := 0) rfl, e⟩)))), (FEls.less (FEls.carry hE5 hN (fun k h => .inr h)) (fun k _ h => h.elim .inl fun h => .inr (h.elim (fun e => ⟨_, List.mem_of_getElem? (i := 1) rfl, e⟩) (fun e => ⟨_, List.mem_of_getElem? (i := 0) rfl, e⟩))))⟩
      · skip
        refine (opN_alloc (cs := [.int .i64 (0), .slice none 0 0]) zero45 rfl hN ?_)
        intro g12 w12 hN_
        clear hN
        have hN : Now w0' (foots [.blk g2 [.int .i64 (0), .slice none 0 0] 45, .blk g1 [.int .i64 (d2.room), Lv2] 45]) w12 [_, _, _] := hN_
        clear hN_
        refine ⟨(hN.sub [1, 2] (by decide) rfl), ?_⟩
        have hcS14 : SmO (Or2 F (foots [.blk g12 [.int .i64 (0), .slice none 0 0] 45, .blk g2 [.int .i64 (0), .slice none 0 0] 45, .blk g1 [.int .i64 (d2.room), Lv2] 45])) fcells _ Lv2 hs2 := SmO.or (SmO.less fcells_ne (SmO.carry hS2 hN hgb) (fun k _ h => .inl h)) (SmO.step fcells_ne hSb hN)
        have hcE14 : FEls (Or2 F (foots [.blk g12 [.int .i64 (0), .slice none 0 0] 45, .blk g2 [.int .i64 (0), .slice none 0 0] 45, .blk g1 [.int .i64 (d2.room), Lv2] 45])) _ hs2 d2.fs := FEls.or (FEls.less (FEls.carry hE2 hN hgb) (fun k _ h => .inl h)) (FEls.step hEb hN)
        refine RA.only (i := 5) (by kernel_rfl) rfl rfl rfl (op_call2 Try.func21 rfl rfl rfl rfl ((refDo_calls (Or2 F (foots [.blk g12 [.int .i64 (0), .slice none 0 0] 45, .blk g2 [.int .i64 (0), .slice none 0 0] 45, .blk g1 [.int .i64 (d2.room), Lv2] 45])) (fun k hk => hk.elim (fun h => Nat.lt_of_lt_of_le (hF k h) (Nat.le_trans hF3.size hN.size)) (fun h => hN.feetLt h)) d2 _ hs2 (n + i) xe hxe hcS14 hcE14 hfit2 (by omega) (SlO.or ⟨(hde.step hN).1, (hox.2 _ _ _ hae hxse).2.2.2.2⟩ (hde.step hN)) hdle _ rfl).mono ?_))
        rintro _ w13 ⟨Lv13, hs13, rfl, hS13, hE13, he_⟩
        replace hN := hN.ext he_
        replace hcS14 := hcS14.ext he_
        replace hcE14 := FEls.ext hcE14 he_
        clear he_
        have hF15 := hN
        clear hN
        have hN := hF15.here
        replace hN : Now w13 (foots [.blk g12 [.int .i64 (0), .slice none 0 0] 45, .blk g2 [.int .i64 (0), .slice none 0 0] 45, .blk g1 [.int .i64 (d2.room), Lv2] 45]) w13 [.blk g12 [.int .i64 (0), .slice none 0 0] 45, .blk g2 [.int .i64 (0), .slice none 0 0] 45, .blk g1 [.int .i64 (d2.room), Lv2] 45] := hN
        have hSb13 := SmO.less (G := (foots [.blk g12 [.int .i64 (0), .slice none 0 0] 45, .blk g2 [.int .i64 (0), .slice none 0 0] 45, .blk g1 [.int .i64 (d2.room), Lv2] 45])) fcells_ne hS13 (fun k _ h => .inr h)
        have hEb13 := FEls.less (G := (foots [.blk g12 [.int .i64 (0), .slice none 0 0] 45, .blk g2 [.int .i64 (0), .slice none 0 0] 45, .blk g1 [.int .i64 (d2.room), Lv2] 45])) hE13 (fun k _ h => .inr h)
        refine ⟨((hF15.back hN).sub [1, 2] (by decide) rfl), ?_⟩
        refine RA.take (i := 6) rfl rfl (by kernel_rfl) (by kernel_rfl) (by kernel_rfl) (by intro _ _ _ h; exact h) rfl ((hF15.back hN).sub [1, 2] (by decide) rfl) (fun w hS => ev_move) ?_
        refine RA.take (i := 7) rfl rfl (by kernel_rfl) (by kernel_rfl) (by kernel_rfl) (by intro _ _ _ h; exact h) rfl ((hF15.back hN).sub [1, 2] (by decide) rfl) (fun w hS => (ev_extract rfl rfl)) ?_
        refine RA.take (i := 8) rfl rfl (by kernel_rfl) (by kernel_rfl) (by kernel_rfl) (by intro _ _ _ h; exact h) rfl ((hF15.back hN).sub [1, 2] (by decide) rfl) (fun w hS => (ev_extract rfl rfl)) ?_
        refine RA.only (i := 10) (by kernel_rfl) rfl rfl rfl (opN_storeAll (vs := [.int .i64 ((act d2 xe).1.room), Lv13]) sz45 rfl rfl rfl (by intro u hu; simp only [List.mem_cons, List.not_mem_nil, or_false] at hu; rcases hu with rfl | rfl <;> first | rfl | exact (hSb13.now hN).one1) hN 0 rfl rfl ?_)
        intro w16 hN_
        clear hN
        have hN : Now w13 (foots [.blk g12 [.int .i64 (0), .slice none 0 0] 45, .blk g2 [.int .i64 (0), .slice none 0 0] 45, .blk g1 [.int .i64 (d2.room), Lv2] 45]) w16 [_, _, _] := hN_
        clear hN_
        refine ⟨((hF15.back hN).sub [1, 2] (by decide) rfl), ?_⟩
        refine RA.take (i := 11) rfl rfl (by kernel_rfl) (by kernel_rfl) (by kernel_rfl) (by intro _ _ _ h; exact h) rfl ((hF15.back hN).sub [1, 2] (by decide) rfl) (fun w hS => ev_assign) ?_
        refine RA.done (by kernel_rfl) ?_
        refine thenN ?_
        refine RW.seq ?_
        refine RW.seq ?_
        refine RW.region ?_
        refine RL.ev rfl rfl ev_move ?_
        refine RL.ev rfl rfl (ev_neq rfl rfl) ?_
        refine RL.nil ?_
        refine thenN ?_
        refine RW.condP _ rfl (fun hbad => ?_) (fun hbad => ?_)
        · skip
          refine RW.seq ?_
          refine RW.region ?_
          refine RL.ev rfl rfl (ev_loadAll (cs := [.int .i64 (d2.room), Lv2]) Try.underlying45 rfl sz45 rfl (hN.blk 2 rfl)) ?_
          refine RL.ev rfl rfl ev_move ?_
          refine RL.op rfl rfl (opN_storeAll (vs := [.int .i64 (d2.room), Lv2]) sz45 rfl rfl rfl (by intro u hu; simp only [List.mem_cons, List.not_mem_nil, or_false] at hu; rcases hu with rfl | rfl <;> first | rfl | exact ((SmO.step fcells_ne hSb hF15).now hN).one1) hN 1 rfl rfl ?_)
          intro w17 hN_
          clear hN
          have hN : Now w13 (foots [.blk g12 [.int .i64 (0), .slice none 0 0] 45, .blk g2 [.int .i64 (0), .slice none 0 0] 45, .blk g1 [.int .i64 (d2.room), Lv2] 45]) w17 [_, _, _] := hN_
          clear hN_
          refine RL.ev rfl rfl ev_assign ?_
          refine RL.nil ?_
          refine thenN ?_
          refine RW.ret ?_
          refine thenR ?_
          refine blockR ?_
          refine thenR ?_
          refine thenR ?_
          refine blockR ?_
          refine thenR ?_
          refine retI (RV.cellTmp rfl rfl (run_cell (hN.blk 1 rfl) Try.underlying45 rfl sz45)) ?_
          have hr_ : res = (d2, i) := by rw [← hres, hr, hdr, run_cons_err hbad, Nat.zero_add]
          subst hr_
          exact ⟨_, _, rfl, SmO.less fcells_ne (SmO.carry hcS14 hN (fun k h => .inr h)) (fun k _ h => .inl h), FEls.less (FEls.carry hcE14 hN (fun k h => .inr h)) (fun k _ h => .inl h), (hF3.back (hF15.back hN)).ext0⟩
        · skip
          refine RW.skip ?_
          refine thenN ?_
          refine RW.region ?_
          refine RL.ev rfl rfl (ev_loadAll (cs := [.int .i64 ((act d2 xe).1.room), Lv13]) Try.underlying45 rfl sz45 rfl (hN.blk 0 rfl)) ?_
          refine RL.op rfl rfl (opN_storeAll (vs := [.int .i64 ((act d2 xe).1.room), Lv13]) sz45 rfl rfl rfl (by intro u hu; simp only [List.mem_cons, List.not_mem_nil, or_false] at hu; rcases hu with rfl | rfl <;> first | rfl | exact (hSb13.now hN).one1) hN 2 rfl rfl ?_)
          intro w18 hN_
          clear hN
          have hN : Now w13 (foots [.blk g12 [.int .i64 (0), .slice none 0 0] 45, .blk g2 [.int .i64 (0), .slice none 0 0] 45, .blk g1 [.int .i64 (d2.room), Lv2] 45]) w18 [_, _, _] := hN_
          clear hN_
          refine RL.nil ?_
          refine blockN ?_
          refine thenN ?_
          refine RW.region ?_
          refine RL.ev rfl rfl ev_move ?_
          refine RL.ev rfl rfl (ev_arith rfl rfl rfl (add64 (by omega) (by omega))) ?_
          refine RL.ev rfl rfl ev_assign ?_
          refine RL.nil ?_
          refine thenN ?_
          exact ⟨k - 1, by omega, (act d2 xe).1, Lv13, hs13, i + 1, rfl, rfl, rfl, rfl, (hF3.back (hF15.back (hN.sub [1, 2] (by decide) rfl))), by omega, (by rw [← Nat.add_assoc]; exact hfit2.act xe), by rw [hr, hdr, run_cons_ok (Decidable.not_not.1 hbad), Nat.add_assoc, Nat.add_comm 1 i], (SmO.less fcells_ne (SmO.carry hS13 hN (fun k h => .inr h)) (fun k _ h => h.elim .inl fun h => .inr (h.elim (fun e => ⟨_, List.mem_of_getElem? (i := 2) rfl, e⟩) (fun e => ⟨_, List.mem_of_getElem? (i := 1) rfl, e⟩)))), (FEls.less (FEls.carry hE13 hN (fun k h => .inr h)) (fun k _ h => h.elim .inl fun h => .inr (h.elim (fun e => ⟨_, List.mem_of_getElem? (i := 2) rfl, e⟩) (fun e => ⟨_, List.mem_of_getElem? (i := 1) rfl, e⟩))))⟩
    · skip
      refine RW.exit ?_
      refine thenX ?_
      refine thenX ?_
      refine blockHit ?_
      refine thenN ?_
      refine RW.seq ?_
      refine RW.region ?_
      refine RL.ev rfl rfl (ev_loadAll (cs := [.int .i64 (d2.room), Lv2]) Try.underlying45 rfl sz45 rfl (hN.blk 1 rfl)) ?_
      refine RL.ev rfl rfl ev_move ?_
      refine RL.ev rfl rfl (ev_lenM Try.underlying22 ((SmO.step ocells_ne hO0 hF3).now hN) rfl) ?_
      refine RL.op rfl rfl (opN_storeAll (vs := [.int .i64 (d2.room), Lv2]) sz45 rfl rfl rfl (by intro u hu; simp only [List.mem_cons, List.not_mem_nil, or_false] at hu; rcases hu with rfl | rfl <;> first | rfl | exact (hSb.now hN).one1) hN 0 rfl rfl ?_)
      intro w19 hN_
      clear hN
      have hN : Now w0' (foots [.blk g2 [.int .i64 (0), .slice none 0 0] 45, .blk g1 [.int .i64 (d2.room), Lv2] 45]) w19 [_, _] := hN_
      clear hN_
      refine RL.ev rfl rfl ev_assign ?_
      refine RL.nil ?_
      refine thenN ?_
      refine RW.ret ?_
      refine retI (RV.cellTmp rfl rfl (run_cell (hN.blk 0 rfl) Try.underlying45 rfl sz45)) ?_
      have hi_ : i = xs.length := by omega
      have hr_ : res = (d2, xs.length) := by rw [← hres, hr, hi_, List.drop_length]; simp [Disk.run]
      subst hr_
      refine ⟨_, _, congrArg (fun z => Value.tuple #[_, .int .i64 z]) (by omega), SmO.less fcells_ne (SmO.carry hS2 hN hgb) (fun k _ h => .inl h), FEls.less (FEls.carry hE2 hN hgb) (fun k _ h => .inl h), (hF3.back hN).ext0⟩

theorem take_min {lu rest : Bs} {m st : Nat} : (rest ++ (lu.take (min m lu.length) ++ List.replicate (lu.length - m) 0), if min m lu.length = 0 then st else rest.length + min m lu.length) = (rest ++ (lu.take m ++ List.replicate (lu.length - m) 0), if min m lu.length = 0 then st else rest.length + min m lu.length) := by
  have h1 : lu.take (min m lu.length) = lu.take m := by
    rcases Nat.le_total m lu.length with h | h
    · rw [Nat.min_eq_left h]
    · rw [Nat.min_eq_right h, List.take_of_length_le (Nat.le_refl _), List.take_of_length_le h]
  rw [h1]
theorem headD_ofR {ms : List Int} {a : Int} {i : Nat} (h : ms[i]? = some a) : (ms.drop i).headD 0 = a := by rw [drop_at h]; rfl

set_option maxHeartbeats 4000000 in
set_option maxRecDepth 100000 in
/-- postroad/postroadref04.Crash -/
theorem refCrash_calls {w : World} (F : Nat → Prop) (hF : ∀ k, F k → k < w.heap.size) (d : Dk) (Lv : Value) (hs : List FH) (n : Nat) (Mv : Value) (ms : List Int) (hL : SmO F fcells w Lv hs) (hel : FEls F w hs d.fs) (hfit : Fits n d) (hn : n ≤ 1048576) (hM : Sl vI w Mv ms) : Gives Try.prog 28 #[.agg #[.int .i64 d.room, Lv], Mv] w fun r w' => ∃ Lv' hs', r = .agg #[.int .i64 d.room, Lv'] ∧ SmO F fcells w' Lv' hs' ∧ FEls F w' hs' (crash ms d.fs) ∧ Ext w w' := by
  refine Gives.start Try.func28 rfl (Nat.le_of_ble_eq_true rfl) ?_
  rw [args2]
  have hN := Now.nil w none_
  have hfs := hfit.size
  have hfr := hfit.room
  have hfl := hfit.loose
  have hff := hfit.files
  have hle := hel.1
  have hel0 := FEls.none hel
  refine RW.seq ?_
  refine RW.region ?_
  refine RL.op rfl rfl (opN_box (cs := [.int .i64 (d.room), Lv]) rfl rfl hN ?_)
  intro g1 w1 hN_
  clear hN
  have hN : Now w none_ w1 [_] := hN_
  clear hN_
  refine RL.op rfl rfl (opN_alloc (cs := [.int .i64 (0), .slice none 0 0]) zero45 rfl hN ?_)
  intro g2 w2 hN_
  clear hN
  have hN : Now w none_ w2 [_, _] := hN_
  clear hN_
  refine RL.nil ?_
  refine thenN ?_
  refine RW.seq ?_
  refine RW.region ?_
  refine RL.ev rfl rfl (ev_fieldAddr Try.underlying45 rfl sz3 (by decide) rfl) ?_
  refine RL.ev rfl rfl (ev_loadB Try.underlying3 rfl rfl (hN.blk 1 rfl) rfl) ?_
  refine RL.ev rfl rfl (ev_buildL (cs := [.int .i64 (d.room), .slice none 0 0]) Try.underlying45 zero45 (places := #[(0, 1), (1, 1)]) (by intro w; kernel_rfl) (pl := [(0, .tmp 16)]) rfl (ps := [(0, .int .i64 (d.room))]) rfl (zc := [.int .i64 (0), .slice none 0 0]) rfl (fill_step (vs := [.int .i64 (d.room)]) rfl rfl (Nat.le_of_ble_eq_true rfl) rfl)) ?_
  refine RL.op rfl rfl (opN_alloc (cs := [.int .i64 (0), .slice none 0 0]) zero45 rfl hN ?_)
  intro g3 w3 hN_
  clear hN
  have hN : Now w none_ w3 [_, _, _] := hN_
  clear hN_
  refine RL.op rfl rfl (opN_storeAll (vs := [.int .i64 (d.room), .slice none 0 0]) sz45 rfl rfl rfl (by intro u hu; simp only [List.mem_cons, List.not_mem_nil, or_false] at hu; rcases hu with rfl | rfl <;> first | rfl) hN 0 rfl rfl ?_)
  intro w4 hN_
  clear hN
  have hN : Now w none_ w4 [_, _, _] := hN_
  clear hN_
  refine RL.nil ?_
  refine thenN ?_
  refine RW.seq ?_
  refine RW.region ?_
  refine RL.ev rfl rfl ev_assign ?_
  refine RL.nil ?_
  refine thenN ?_
  refine RW.seq ?_
  refine RW.seq ?_
  replace hN := hN.addNilM fcells 3 78
  replace hN := hN.famNil vb
  replace hN : Now w none_ w4 [.fam vb ([]) ([]), .ownm fcells 3 78 (.slice none 0 0) ([]), .blk g3 [.int .i64 (d.room), .slice none 0 0] 45, .blk g2 [.int .i64 (0), .slice none 0 0] 45, .blk g1 [.int .i64 (d.room), Lv] 45] := hN
  refine RW.region ?_
  refine RL.ev rfl rfl ev_assign ?_
  refine RL.nil ?_
  refine thenN ?_
  refine RW.block ?_
  refine RW.loop (fun k R0 w0' => ∃ z : Int, ∃ va : Value, ∃ acc : List FH, ∃ hqs : List Hd, ∃ i : Nat, R0 1 = Mv ∧ R0 2 = .pointer (some ⟨g1, 0, none⟩) ∧ R0 4 = .pointer (some ⟨g2, 0, none⟩) ∧ R0 5 = .pointer (some ⟨g3, 0, none⟩) ∧ R0 6 = .int .i64 (z) ∧ R0 7 = .int .i64 ((i : Int)) ∧ Now w none_ w0' [.fam vb (hqs) (((crash ms d.fs).take i).map (·.firm)), .ownm fcells 3 78 (va) (acc), .blk g3 [.int .i64 (d.room), va] 45, .blk g2 [.int .i64 (0), .slice none 0 0] 45, .blk g1 [.int .i64 (d.room), Lv] 45] ∧ (i + k = hs.length) ∧ (z = (loose (d.fs.take i) : Nat)) ∧ (acc = crashH ((crash ms d.fs).take i) hqs) ∧ (acc.length = i) ∧ (hqs.length = i)) (hs.length) ?_ ?_
  · skip
    exact ⟨0, .slice none 0 0, [], [], 0, rfl, rfl, rfl, rfl, rfl, rfl, hN, by omega, rfl, rfl, rfl, rfl⟩
  · skip
    clear hN
    rintro k R0 w0' ⟨z, va, acc, hqs, i, hr1_, hr2_, hr4_, hr5_, hr6_, hr7_, hN, hik, hz, ha, hal, hql⟩
    have hR_ : ∃ R0_, R0 = (upd (upd (upd (upd (upd (upd R0_ 1 _) 2 _) 4 _) 5 _) 6 _) 7 _) := ⟨R0, by rw [upd_self hr1_, upd_self hr2_, upd_self hr4_, upd_self hr5_, upd_self hr6_, upd_self hr7_]⟩
    obtain ⟨R0_, rfl⟩ := hR_
    clear hr1_ hr2_ hr4_ hr5_ hr6_ hr7_
    refine RW.seq ?_
    refine RW.seq ?_
    refine RW.region ?_
    refine RL.ev rfl rfl ev_move ?_
    refine RL.ev rfl rfl (ev_fieldAddr Try.underlying45 rfl sz43 (by decide) rfl) ?_
    refine RL.ev rfl rfl (ev_loadB Try.underlying43 rfl rfl (hN.blk 4 rfl) rfl) ?_
    have hL_5 := (hL.1.o.now hN).len_le
    refine RL.ev rfl rfl (ev_lenM Try.underlying43 (hL.1.o.now hN) rfl) ?_
    refine RL.ev rfl rfl (ev_lss rfl rfl) ?_
    refine RL.nil ?_
    refine thenN ?_
    refine RW.condP _ rfl (fun hlt => ?_) (fun hlt => ?_)
    · skip
      refine RW.skip ?_
      refine thenN ?_
      refine RW.seq ?_
      refine RW.block ?_
      refine RW.seq ?_
      refine RW.region ?_
      refine RL.ev rfl rfl (ev_fieldAddr Try.underlying45 rfl sz43 (by decide) rfl) ?_
      refine RL.ev rfl rfl (ev_loadB Try.underlying43 rfl rfl (hN.blk 4 rfl) rfl) ?_
      refine RL.ev rfl rfl ev_move ?_
      refine RL.ev rfl rfl (ev_indexM Try.underlying43 sz78 fcells_len (by decide) (hL.1.o.now hN) rfl rfl (by omega) (by omega)) ?_
      have hOb_ := FEls.get hel0 i (by omega)
      obtain ⟨hp, fp, whsp, hap, hfp, hnp, hAp, hBp, hCp⟩ := hOb_
      refine RL.ev rfl rfl (ev_loadM (m := i) (a := hp) Try.underlying78 rfl sz78 fcells_len (by decide) (hL.1.o.now hN) rfl hap (cs := [(str hp.1), (vh hp.2.1), (vh hp.2.2)]) rfl) ?_
      refine RL.op rfl rfl (opN_alloc (cs := [.string ByteArray.empty, .slice none 0 0, .slice none 0 0]) zero78 rfl hN ?_)
      intro g6 w6 hN_
      clear hN
      have hN : Now w none_ w6 [_, _, _, _, _, _] := hN_
      clear hN_
      refine RL.op rfl rfl (opN_storeAll (vs := [(str hp.1), (vh hp.2.1), (vh hp.2.2)]) sz78 rfl rfl rfl (by intro u hu; simp only [List.mem_cons, List.not_mem_nil, or_false] at hu; rcases hu with rfl | rfl | rfl <;> first | rfl) hN 0 rfl rfl ?_)
      intro w7 hN_
      clear hN
      have hN : Now w none_ w7 [_, _, _, _, _, _] := hN_
      clear hN_
      have hfm := List.mem_of_getElem? hfp
      have hln := hfit.fileLen2 hfm
      have hlw := hfit.fileWs2 hn hfm
      have hwl := hCp.1
      have hln2 := hln
      rw [List.length_append] at hln2
      have hlt1 := loose_take hfp
      have hlt2 := loose_take_le d.fs (i + 1)
      refine RL.nil ?_
      refine thenN ?_
      refine RW.seq ?_
      refine RW.region ?_
      refine RL.ev rfl rfl ev_assign ?_
      refine RL.nil ?_
      refine thenN ?_
      refine RW.seq ?_
      refine RW.region ?_
      refine RL.ev rfl rfl ev_assign ?_
      refine RL.nil ?_
      refine thenN ?_
      refine RW.seq ?_
      refine RW.seq ?_
      refine RW.region ?_
      refine RL.ev rfl rfl ev_assign ?_
      refine RL.nil ?_
      refine thenN ?_
      refine RW.block ?_
      replace hN := hN.addNil vb 5
      refine RW.loop (fun k2 R1 w1' => ∃ z2 : Int, ∃ st : Nat, ∃ vr : Value, ∃ rest : List UInt8, ∃ q : Nat, R1 1 = Mv ∧ R1 2 = .pointer (some ⟨g1, 0, none⟩) ∧ R1 4 = .pointer (some ⟨g2, 0, none⟩) ∧ R1 5 = .pointer (some ⟨g3, 0, none⟩) ∧ R1 6 = .int .i64 (z2) ∧ R1 7 = .int .i64 ((i : Int)) ∧ R1 8 = .pointer (some ⟨g6, 0, none⟩) ∧ R1 9 = vr ∧ R1 10 = .int .i64 ((st : Int)) ∧ R1 11 = .int .i64 ((q : Int)) ∧ Now w none_ w1' [.own vb 5 (vr) (rest), .blk g6 [(str hp.1), (vh hp.2.1), (vh hp.2.2)] 78, .fam vb (hqs) (((crash ms d.fs).take i).map (·.firm)), .ownm fcells 3 78 (va) (acc), .blk g3 [.int .i64 (d.room), va] 45, .blk g2 [.int .i64 (0), .slice none 0 0] 45, .blk g1 [.int .i64 (d.room), Lv] 45] ∧ (q + k2 = whsp.length) ∧ (z2 = z + q) ∧ (st ≤ rest.length) ∧ (crashWs (ms.drop (loose (d.fs.take i))) (fp.ws.take q) ([], 0) = (rest, st))) (whsp.length) ?_ ?_
      · skip
        exact ⟨z, 0, .slice none 0 0, [], 0, rfl, rfl, rfl, rfl, rfl, rfl, rfl, rfl, rfl, rfl, hN, by omega, by omega, Nat.zero_le _, rfl⟩
      · skip
        clear hN
        rintro k2 R1 w1' ⟨z2, st, vr, rest, q, hr1_, hr2_, hr4_, hr5_, hr6_, hr7_, hr8_, hr9_, hr10_, hr11_, hN, hqk, hz2, hsl, hst⟩
        have hR_ : ∃ R1_, R1 = (upd (upd (upd (upd (upd (upd (upd (upd (upd (upd R1_ 1 _) 2 _) 4 _) 5 _) 6 _) 7 _) 8 _) 9 _) 10 _) 11 _) := ⟨R1, by rw [upd_self hr1_, upd_self hr2_, upd_self hr4_, upd_self hr5_, upd_self hr6_, upd_self hr7_, upd_self hr8_, upd_self hr9_, upd_self hr10_, upd_self hr11_]⟩
        obtain ⟨R1_, rfl⟩ := hR_
        clear hr1_ hr2_ hr4_ hr5_ hr6_ hr7_ hr8_ hr9_ hr10_ hr11_
        refine RW.seq ?_
        refine RW.seq ?_
        refine RW.region ?_
        refine RL.ev rfl rfl ev_move ?_
        refine RL.ev rfl rfl (ev_fieldAddr Try.underlying78 rfl sz69 (by decide) rfl) ?_
        refine RL.ev rfl rfl (ev_loadB Try.underlying69 rfl rfl (hN.blk 1 rfl) rfl) ?_
        have hL_9 := (hBp.now hN).len_le
        refine RL.ev rfl rfl (ev_lenS Try.underlying69 (hBp.now hN) rfl) ?_
        refine RL.ev rfl rfl (ev_lss rfl rfl) ?_
        refine RL.nil ?_
        refine thenN ?_
        refine RW.condP _ rfl (fun hlt2 => ?_) (fun hlt2 => ?_)
        · skip
          refine RW.skip ?_
          refine thenN ?_
          refine RW.seq ?_
          refine RW.block ?_
          refine RW.seq ?_
          have hOb_ : ∃ a_, whsp[q]? = some a_ := ⟨_, List.getElem?_eq_getElem (by omega)⟩
          obtain ⟨au, hau⟩ := hOb_
          have hOb_ : ∃ l_, fp.ws[q]? = some l_ := ⟨_, List.getElem?_eq_getElem (by omega)⟩
          obtain ⟨lu, hlu⟩ := hOb_
          have hft := flat_take hlu
          have hfl := flat_le fp.ws (q + 1)
          have hcs := take_at hlu
          have hcw := crashWs_snoc (fp.ws.take q) (ms.drop (loose (d.fs.take i))) lu ([], 0)
          rw [← hcs, hst, List.length_take, Nat.min_eq_left (by omega), List.drop_drop] at hcw
          have hrl : rest.length = (fp.ws.take q).flatten.length := by have := crashWs_len (fp.ws.take q) (ms.drop (loose (d.fs.take i))) ([], 0); rw [hst] at this; simpa using this
          refine RW.region ?_
          refine RL.ev rfl rfl ev_assign ?_
          refine RL.nil ?_
          refine thenN ?_
          refine RW.seq ?_
          refine RW.seq ?_
          by_cases hmk : z2 < (ms.length : Int)
          · skip
            refine RW.region ?_
            refine RL.ev rfl rfl ev_move ?_
            refine RL.ev rfl rfl ev_move ?_
            have hL_10 := (hM.ext hN.ext0).len_le
            refine RL.ev rfl rfl (ev_lenS Try.underlying24 (hM.ext hN.ext0) rfl) ?_
            refine RL.ev rfl rfl (ev_true (ev_lss rfl rfl) hmk) ?_
            refine RL.nil ?_
            refine thenN ?_
            refine RW.condT rfl ?_
            refine RW.region ?_
            refine RL.ev rfl rfl ev_move ?_
            refine RL.ev rfl rfl ev_move ?_
            refine RL.ev rfl rfl (ev_index Try.underlying24 sz3 (hM.ext hN.ext0) rfl rfl (by omega) (by omega)) ?_
            have hOb_ : ∃ a_, (ms)[(z2).toNat]? = some a_ := ⟨_, List.getElem?_eq_getElem (by omega)⟩
            obtain ⟨am, ham⟩ := hOb_
            refine RL.ev rfl rfl (ev_loadG (m := (z2).toNat) (a := am) Try.underlying3 rfl (hM.ext hN.ext0) rfl ham) ?_
            refine RL.ev rfl rfl ev_assign ?_
            refine RL.nil ?_
            refine thenN ?_
            refine RW.seq ?_
            refine RW.region ?_
            refine RL.ev rfl rfl ev_move ?_
            refine RL.ev rfl rfl (ev_arith rfl rfl rfl (add64 (by omega) (by omega))) ?_
            refine RL.ev rfl rfl ev_assign ?_
            refine RL.nil ?_
            refine thenN ?_
            refine RW.seq ?_
            refine RW.region ?_
            refine RL.ev rfl rfl ev_assign ?_
            refine RL.nil ?_
            refine thenN ?_
            refine RW.block ?_
            refine RW.loop (fun k3 R2 w2' => ∃ st2 : Nat, ∃ vr2 : Value, ∃ rest2 : List UInt8, ∃ j : Nat, R2 1 = Mv ∧ R2 2 = .pointer (some ⟨g1, 0, none⟩) ∧ R2 4 = .pointer (some ⟨g2, 0, none⟩) ∧ R2 5 = .pointer (some ⟨g3, 0, none⟩) ∧ R2 6 = .int .i64 (z2 + 1) ∧ R2 7 = .int .i64 ((i : Int)) ∧ R2 8 = .pointer (some ⟨g6, 0, none⟩) ∧ R2 9 = vr2 ∧ R2 10 = .int .i64 ((st2 : Int)) ∧ R2 11 = .int .i64 ((q : Int)) ∧ R2 12 = .int .i64 (am) ∧ R2 13 = .int .i64 ((j : Int)) ∧ Now w none_ w2' [.own vb 5 (vr2) (rest2), .blk g6 [(str hp.1), (vh hp.2.1), (vh hp.2.2)] 78, .fam vb (hqs) (((crash ms d.fs).take i).map (·.firm)), .ownm fcells 3 78 (va) (acc), .blk g3 [.int .i64 (d.room), va] 45, .blk g2 [.int .i64 (0), .slice none 0 0] 45, .blk g1 [.int .i64 (d.room), Lv] 45] ∧ (j + k3 = lu.length) ∧ (rest2 = rest ++ (lu.take (min (am).toNat j) ++ List.replicate (j - (am).toNat) 0)) ∧ (st2 = if (min (am).toNat j) = 0 then st else rest.length + (min (am).toNat j)) ∧ (rest2.length = rest.length + j)) (lu.length) ?_ ?_
            · skip
              exact ⟨st, vr, rest, 0, rfl, rfl, rfl, rfl, rfl, rfl, rfl, rfl, rfl, rfl, rfl, rfl, hN, by omega, by simp, by rw [if_pos (by omega)], rfl⟩
            · skip
              clear hN
              rintro k3 R2 w2' ⟨st2, vr2, rest2, j, hr1_, hr2_, hr4_, hr5_, hr6_, hr7_, hr8_, hr9_, hr10_, hr11_, hr12_, hr13_, hN, hjk, hr2, hs2, hl2⟩
              have hR_ : ∃ R2_, R2 = (upd (upd (upd (upd (upd (upd (upd (upd (upd (upd (upd (upd R2_ 1 _) 2 _) 4 _) 5 _) 6 _) 7 _) 8 _) 9 _) 10 _) 11 _) 12 _) 13 _) := ⟨R2, by rw [upd_self hr1_, upd_self hr2_, upd_self hr4_, upd_self hr5_, upd_self hr6_, upd_self hr7_, upd_self hr8_, upd_self hr9_, upd_self hr10_, upd_self hr11_, upd_self hr12_, upd_self hr13_]⟩
              obtain ⟨R2_, rfl⟩ := hR_
              clear hr1_ hr2_ hr4_ hr5_ hr6_ hr7_ hr8_ hr9_ hr10_ hr11_ hr12_ hr13_
              refine RW.seq ?_
              refine RW.seq ?_
              refine RW.region ?_
              refine RL.ev rfl rfl ev_move ?_
              refine RL.ev rfl rfl (ev_fieldAddr Try.underlying78 rfl sz69 (by decide) rfl) ?_
              refine RL.ev rfl rfl (ev_loadB Try.underlying69 rfl rfl (hN.blk 1 rfl) rfl) ?_
              refine RL.ev rfl rfl ev_move ?_
              refine RL.ev rfl rfl (ev_index Try.underlying69 sz23 (hBp.now hN) rfl rfl (by omega) (by omega)) ?_
              refine RL.ev rfl rfl (ev_loadG (m := q) (a := au) Try.underlying23 rfl (hBp.now hN) rfl hau) ?_
              have hL_12 := ((hCp.slo hau hlu).now hN).len_le
              refine RL.ev rfl rfl (ev_lenS Try.underlying23 ((hCp.slo hau hlu).now hN) rfl) ?_
              refine RL.ev rfl rfl (ev_lss rfl rfl) ?_
              refine RL.nil ?_
              refine thenN ?_
              refine RW.condP _ rfl (fun hlt3 => ?_) (fun hlt3 => ?_)
              · skip
                refine RW.skip ?_
                refine thenN ?_
                refine RW.seq ?_
                refine RW.block ?_
                refine RW.seq ?_
                refine RW.region ?_
                refine RL.ev rfl rfl ev_move ?_
                refine RL.ev rfl rfl ev_move ?_
                refine RL.ev rfl rfl (ev_lss rfl rfl) ?_
                refine RL.nil ?_
                refine thenN ?_
                refine RW.condP _ rfl (fun hlm => ?_) (fun hlm => ?_)
                · skip
                  refine RW.seq ?_
                  refine RW.region ?_
                  refine RL.ev rfl rfl ev_move ?_
                  refine RL.ev rfl rfl (ev_fieldAddr Try.underlying78 rfl sz69 (by decide) rfl) ?_
                  refine RL.ev rfl rfl (ev_loadB Try.underlying69 rfl rfl (hN.blk 1 rfl) rfl) ?_
                  refine RL.ev rfl rfl ev_move ?_
                  refine RL.ev rfl rfl (ev_index Try.underlying69 sz23 (hBp.now hN) rfl rfl (by omega) (by omega)) ?_
                  refine RL.ev rfl rfl (ev_loadG (m := q) (a := au) Try.underlying23 rfl (hBp.now hN) rfl hau) ?_
                  refine RL.ev rfl rfl ev_move ?_
                  refine RL.ev rfl rfl (ev_index Try.underlying23 sz5 ((hCp.slo hau hlu).now hN) rfl rfl (by omega) (by omega)) ?_
                  have hOb_ : ∃ a_, (lu)[j]? = some a_ := ⟨_, List.getElem?_eq_getElem (by omega)⟩
                  obtain ⟨ab, hab⟩ := hOb_
                  have hlt_ab := UInt8.toNat_lt ab
                  refine RL.ev rfl rfl (ev_loadG (m := j) (a := ab) Try.underlying5 rfl ((hCp.slo hau hlu).now hN) rfl hab) ?_
                  refine RL.op rfl rfl (opN_lit (enc := vb) (l := [ab]) (xs := [.tmp 68]) Try.underlying23 sz5 zr5 rfl rfl (fun _ => rfl) rfl (by decide) (by decide) hN ?_)
                  intro g14 w14 hN_
                  clear hN
                  have hN : Now w none_ w14 [_, _, _, _, _, _, _, _] := hN_
                  clear hN_
                  refine RL.op rfl rfl (opN_append Try.underlying23 inf5 rfl vb_one hN 1 rfl rfl (hN.sl 0 rfl) rfl (by rw [hl2]; simp only [List.length_singleton, List.length_cons, List.length_nil]; omega) (by decide) ?_)
                  intro v15 w15 hN_
                  clear hN
                  have hN : Now w none_ w15 [_, _, _, _, _, _, _, _] := hN_
                  clear hN_
                  refine RL.ev rfl rfl ev_assign ?_
                  refine RL.nil ?_
                  refine thenN ?_
                  refine RW.region ?_
                  refine RL.ev rfl rfl ev_move ?_
                  have hL_16 := (hN.sl 1 rfl).len_le
                  refine RL.ev rfl rfl (ev_lenS Try.underlying23 (hN.sl 1 rfl) rfl) ?_
                  refine RL.ev rfl rfl ev_assign ?_
                  refine RL.nil ?_
                  refine blockN ?_
                  refine thenN ?_
                  refine RW.region ?_
                  refine RL.ev rfl rfl ev_move ?_
                  refine RL.ev rfl rfl (ev_arith rfl rfl rfl (add64 (by omega) (by omega))) ?_
                  refine RL.ev rfl rfl ev_assign ?_
                  refine RL.nil ?_
                  refine thenN ?_
                  exact ⟨k3 - 1, by omega, (rest2 ++ [ab]).length, v15, rest2 ++ [ab], j + 1, rfl, rfl, rfl, rfl, rfl, rfl, rfl, rfl, rfl, rfl, rfl, rfl, (hN.sub [1, 2, 3, 4, 5, 6, 7] (by decide) rfl), by omega, by rw [hr2, show min (am).toNat (j + 1) = j + 1 by omega, show min (am).toNat j = j by omega, take_at hab, show j - (am).toNat = 0 by omega, show j + 1 - (am).toNat = 0 by omega]; simp, by rw [if_neg (by omega), List.length_append, hl2, List.length_singleton]; omega, by rw [List.length_append, hl2]; rfl⟩
                · skip
                  refine RW.region ?_
                  refine RL.ev rfl rfl ev_move ?_
                  refine RL.op rfl rfl (opN_lit (enc := vb) (l := [0]) (xs := [.const (.int .u8 (0))]) Try.underlying23 sz5 zr5 rfl rfl (fun _ => rfl) rfl (by decide) (by decide) hN ?_)
                  intro g17 w17 hN_
                  clear hN
                  have hN : Now w none_ w17 [_, _, _, _, _, _, _, _] := hN_
                  clear hN_
                  refine RL.op rfl rfl (opN_append Try.underlying23 inf5 rfl vb_one hN 1 rfl rfl (hN.sl 0 rfl) rfl (by rw [hl2]; simp only [List.length_singleton, List.length_cons, List.length_nil]; omega) (by decide) ?_)
                  intro v18 w18 hN_
                  clear hN
                  have hN : Now w none_ w18 [_, _, _, _, _, _, _, _] := hN_
                  clear hN_
                  refine RL.ev rfl rfl ev_assign ?_
                  refine RL.nil ?_
                  refine blockN ?_
                  refine thenN ?_
                  refine RW.region ?_
                  refine RL.ev rfl rfl ev_move ?_
                  refine RL.ev rfl rfl (ev_arith rfl rfl rfl (add64 (by omega) (by omega))) ?_
                  refine RL.ev rfl rfl ev_assign ?_
                  refine RL.nil ?_
                  refine thenN ?_
                  exact ⟨k3 - 1, by omega, _, v18, rest2 ++ [0], j + 1, rfl, rfl, rfl, rfl, rfl, rfl, rfl, rfl, rfl, rfl, rfl, rfl, (hN.sub [1, 2, 3, 4, 5, 6, 7] (by decide) rfl), by omega, by rw [hr2, show min (am).toNat (j + 1) = (am).toNat by omega, show min (am).toNat j = (am).toNat by omega, show j + 1 - (am).toNat = (j - (am).toNat) + 1 by omega, List.replicate_succ']; simp, by rw [hs2, show min (am).toNat (j + 1) = min (am).toNat j by omega], by rw [List.length_append, hl2]; rfl⟩
              · skip
                refine RW.exit ?_
                refine thenX ?_
                refine thenX ?_
                refine blockHit ?_
                refine blockN ?_
                refine thenN ?_
                refine RW.region ?_
                refine RL.ev rfl rfl ev_move ?_
                refine RL.ev rfl rfl (ev_arith rfl rfl rfl (add64 (by omega) (by omega))) ?_
                refine RL.ev rfl rfl ev_assign ?_
                refine RL.nil ?_
                refine thenN ?_
                have hj_ : j = lu.length := by omega
                have hhd : (ms.drop (loose (d.fs.take i) + q)).headD 0 = am := by
                  have h1 := headD_ofR ham
                  rw [show z2.toNat = loose (d.fs.take i) + q by omega] at h1; exact h1
                rw [hhd] at hcw
                exact ⟨k2 - 1, by omega, z2 + 1, st2, vr2, rest2, q + 1, rfl, rfl, rfl, rfl, rfl, rfl, rfl, rfl, rfl, rfl, hN, by omega, by omega, by rw [hs2]; split <;> omega, by rw [hcw, hr2, hs2, hj_]; unfold crashW; rw [take_min]⟩
          · skip
            refine RW.region ?_
            refine RL.ev rfl rfl ev_move ?_
            refine RL.ev rfl rfl ev_move ?_
            have hL_19 := (hM.ext hN.ext0).len_le
            refine RL.ev rfl rfl (ev_lenS Try.underlying24 (hM.ext hN.ext0) rfl) ?_
            refine RL.ev rfl rfl (ev_false (ev_lss rfl rfl) (by omega)) ?_
            refine RL.nil ?_
            refine thenN ?_
            refine RW.condF rfl ?_
            refine RW.skip ?_
            refine thenN ?_
            refine RW.seq ?_
            refine RW.region ?_
            refine RL.ev rfl rfl ev_move ?_
            refine RL.ev rfl rfl (ev_arith rfl rfl rfl (add64 (by omega) (by omega))) ?_
            refine RL.ev rfl rfl ev_assign ?_
            refine RL.nil ?_
            refine thenN ?_
            refine RW.seq ?_
            refine RW.region ?_
            refine RL.ev rfl rfl ev_assign ?_
            refine RL.nil ?_
            refine thenN ?_
            refine RW.block ?_
            refine RW.loop (fun k3 R2 w2' => ∃ st2 : Nat, ∃ vr2 : Value, ∃ rest2 : List UInt8, ∃ j : Nat, R2 1 = Mv ∧ R2 2 = .pointer (some ⟨g1, 0, none⟩) ∧ R2 4 = .pointer (some ⟨g2, 0, none⟩) ∧ R2 5 = .pointer (some ⟨g3, 0, none⟩) ∧ R2 6 = .int .i64 (z2 + 1) ∧ R2 7 = .int .i64 ((i : Int)) ∧ R2 8 = .pointer (some ⟨g6, 0, none⟩) ∧ R2 9 = vr2 ∧ R2 10 = .int .i64 ((st2 : Int)) ∧ R2 11 = .int .i64 ((q : Int)) ∧ R2 12 = .int .i64 (0) ∧ R2 13 = .int .i64 ((j : Int)) ∧ Now w none_ w2' [.own vb 5 (vr2) (rest2), .blk g6 [(str hp.1), (vh hp.2.1), (vh hp.2.2)] 78, .fam vb (hqs) (((crash ms d.fs).take i).map (·.firm)), .ownm fcells 3 78 (va) (acc), .blk g3 [.int .i64 (d.room), va] 45, .blk g2 [.int .i64 (0), .slice none 0 0] 45, .blk g1 [.int .i64 (d.room), Lv] 45] ∧ (j + k3 = lu.length) ∧ (rest2 = rest ++ (lu.take (min ((0 : Int)).toNat j) ++ List.replicate (j - ((0 : Int)).toNat) 0)) ∧ (st2 = if (min ((0 : Int)).toNat j) = 0 then st else rest.length + (min ((0 : Int)).toNat j)) ∧ (rest2.length = rest.length + j)) (lu.length) ?_ ?_
            · skip
              exact ⟨st, vr, rest, 0, rfl, rfl, rfl, rfl, rfl, rfl, rfl, rfl, rfl, rfl, rfl, rfl, hN, by omega, by simp, by rw [if_pos (by omega)], rfl⟩
            · skip
              clear hN
              rintro k3 R2 w2' ⟨st2, vr2, rest2, j, hr1_, hr2_, hr4_, hr5_, hr6_, hr7_, hr8_, hr9_, hr10_, hr11_, hr12_, hr13_, hN, hjk, hr2, hs2, hl2⟩
              have hR_ : ∃ R2_, R2 = (upd (upd (upd (upd (upd (upd (upd (upd (upd (upd (upd (upd R2_ 1 _) 2 _) 4 _) 5 _) 6 _) 7 _) 8 _) 9 _) 10 _) 11 _) 12 _) 13 _) := ⟨R2, by rw [upd_self hr1_, upd_self hr2_, upd_self hr4_, upd_self hr5_, upd_self hr6_, upd_self hr7_, upd_self hr8_, upd_self hr9_, upd_self hr10_, upd_self hr11_, upd_self hr12_, upd_self hr13_]⟩
              obtain ⟨R2_, rfl⟩ := hR_
              clear hr1_ hr2_ hr4_ hr5_ hr6_ hr7_ hr8_ hr9_ hr10_ hr11_ hr12_ hr13_
              refine RW.seq ?_
              refine RW.seq ?_
              refine RW.region ?_
              refine RL.ev rfl rfl ev_move ?_
              refine RL.ev rfl rfl (ev_fieldAddr Try.underlying78 rfl sz69 (by decide) rfl) ?_
              refine RL.ev rfl rfl (ev_loadB Try.underlying69 rfl rfl (hN.blk 1 rfl) rfl) ?_
              refine RL.ev rfl rfl ev_move ?_
              refine RL.ev rfl rfl (ev_index Try.underlying69 sz23 (hBp.now hN) rfl rfl (by omega) (by omega)) ?_
              refine RL.ev rfl rfl (ev_loadG (m := q) (a := au) Try.underlying23 rfl (hBp.now hN) rfl hau) ?_
              have hL_21 := ((hCp.slo hau hlu).now hN).len_le
              refine RL.ev rfl rfl (ev_lenS Try.underlying23 ((hCp.slo hau hlu).now hN) rfl) ?_
              refine RL.ev rfl rfl (ev_lss rfl rfl) ?_
              refine RL.nil ?_
              refine thenN ?_
              refine RW.condP _ rfl (fun hlt3 => ?_) (fun hlt3 => ?_)
              · skip
                refine RW.skip ?_
                refine thenN ?_
                refine RW.seq ?_
                refine RW.block ?_
                refine RW.seq ?_
                refine RW.region ?_
                refine RL.ev rfl rfl ev_move ?_
                refine RL.ev rfl rfl ev_move ?_
                refine RL.ev rfl rfl (ev_lss rfl rfl) ?_
                refine RL.nil ?_
                refine thenN ?_
                refine RW.condPF _ rfl (by omega) ?_
                refine RW.region ?_
                refine RL.ev rfl rfl ev_move ?_
                refine RL.op rfl rfl (opN_lit (enc := vb) (l := [0]) (xs := [.const (.int .u8 (0))]) Try.underlying23 sz5 zr5 rfl rfl (fun _ => rfl) rfl (by decide) (by decide) hN ?_)
                intro g22 w22 hN_
                clear hN
                have hN : Now w none_ w22 [_, _, _, _, _, _, _, _] := hN_
                clear hN_
                refine RL.op rfl rfl (opN_append Try.underlying23 inf5 rfl vb_one hN 1 rfl rfl (hN.sl 0 rfl) rfl (by rw [hl2]; simp only [List.length_singleton, List.length_cons, List.length_nil]; omega) (by decide) ?_)
                intro v23 w23 hN_
                clear hN
                have hN : Now w none_ w23 [_, _, _, _, _, _, _, _] := hN_
                clear hN_
                refine RL.ev rfl rfl ev_assign ?_
                refine RL.nil ?_
                refine blockN ?_
                refine thenN ?_
                refine RW.region ?_
                refine RL.ev rfl rfl ev_move ?_
                refine RL.ev rfl rfl (ev_arith rfl rfl rfl (add64 (by omega) (by omega))) ?_
                refine RL.ev rfl rfl ev_assign ?_
                refine RL.nil ?_
                refine thenN ?_
                exact ⟨k3 - 1, by omega, _, v23, rest2 ++ [0], j + 1, rfl, rfl, rfl, rfl, rfl, rfl, rfl, rfl, rfl, rfl, rfl, rfl, (hN.sub [1, 2, 3, 4, 5, 6, 7] (by decide) rfl), by omega, by rw [hr2, show min ((0 : Int)).toNat (j + 1) = ((0 : Int)).toNat by omega, show min ((0 : Int)).toNat j = ((0 : Int)).toNat by omega, show j + 1 - ((0 : Int)).toNat = (j - ((0 : Int)).toNat) + 1 by omega, List.replicate_succ']; simp, by rw [hs2, show min ((0 : Int)).toNat (j + 1) = min ((0 : Int)).toNat j by omega], by rw [List.length_append, hl2]; rfl⟩
              · skip
                refine RW.exit ?_
                refine thenX ?_
                refine thenX ?_
                refine blockHit ?_
                refine blockN ?_
                refine thenN ?_
                refine RW.region ?_
                refine RL.ev rfl rfl ev_move ?_
                refine RL.ev rfl rfl (ev_arith rfl rfl rfl (add64 (by omega) (by omega))) ?_
                refine RL.ev rfl rfl ev_assign ?_
                refine RL.nil ?_
                refine thenN ?_
                have hj_ : j = lu.length := by omega
                have hhd : (ms.drop (loose (d.fs.take i) + q)).headD 0 = 0 := by rw [List.drop_eq_nil_of_le (by omega)]; rfl
                rw [hhd] at hcw
                exact ⟨k2 - 1, by omega, z2 + 1, st2, vr2, rest2, q + 1, rfl, rfl, rfl, rfl, rfl, rfl, rfl, rfl, rfl, rfl, hN, by omega, by omega, by rw [hs2]; split <;> omega, by rw [hcw, hr2, hs2, hj_]; unfold crashW; rw [take_min]⟩
        · skip
          refine RW.exit ?_
          refine thenX ?_
          refine thenX ?_
          refine blockHit ?_
          refine thenN ?_
          refine RW.seq ?_
          refine RW.region ?_
          refine RL.ev rfl rfl ev_assign ?_
          refine RL.nil ?_
          refine thenN ?_
          refine RW.seq ?_
          refine RW.region ?_
          refine RL.ev rfl rfl ev_move ?_
          refine RL.ev rfl rfl (ev_fieldAddr Try.underlying78 rfl sz23 (by decide) rfl) ?_
          refine RL.ev rfl rfl (ev_loadB Try.underlying23 rfl rfl (hN.blk 1 rfl) rfl) ?_
          replace hN := hN.addNil vb 5
          refine RL.op rfl rfl (opN_append Try.underlying23 inf5 rfl vb_one hN 0 rfl rfl (hAp.now hN) rfl (by simp only [List.length_nil]; omega) (by decide) ?_)
          intro v24 w24 hN_
          clear hN
          have hN : Now w none_ w24 [_, _, _, _, _, _, _, _] := hN_
          clear hN_
          replace hN := hN.relist 0 rfl (show _ = fp.firm from List.nil_append _)
          replace hN : Now w none_ w24 [_, _, _, _, _, _, _, _] := hN
          refine RL.ev rfl rfl ev_assign ?_
          refine RL.nil ?_
          refine thenN ?_
          refine RW.seq ?_
          refine RW.region ?_
          refine RL.ev rfl rfl ev_move ?_
          refine RL.ev rfl rfl ev_move ?_
          refine RL.ev rfl rfl ev_move ?_
          refine RL.ev rfl rfl (ev_cutTo Try.underlying23 sz5 (hN.sl 1 rfl) rfl rfl (by omega) (by omega)) ?_
          refine RL.op rfl rfl (opN_append Try.underlying23 inf5 rfl vb_one hN 0 rfl rfl ((hN.sl 1 rfl).cutTo (by omega)) rfl (by simp only [List.length_append, List.length_take]; have hrl : rest.length = (fp.ws.take q).flatten.length := by {have := crashWs_len (fp.ws.take q) (ms.drop (loose (d.fs.take i))) ([], 0); rw [hst] at this; simpa using this}; have := flat_le fp.ws q; omega) (by decide) ?_)
          intro v25 w25 hN_
          clear hN
          have hN : Now w none_ w25 [_, _, _, _, _, _, _, _] := hN_
          clear hN_
          refine RL.ev rfl rfl ev_assign ?_
          refine RL.nil ?_
          refine thenN ?_
          refine RW.region ?_
          refine RL.ev rfl rfl (ev_fieldAddr Try.underlying45 rfl sz43 (by decide) rfl) ?_
          refine RL.ev rfl rfl (ev_loadB Try.underlying43 rfl rfl (hN.blk 5 rfl) rfl) ?_
          refine RL.ev rfl rfl (ev_fieldAddr Try.underlying78 rfl sz9 (by decide) rfl) ?_
          refine RL.ev rfl rfl (ev_loadB Try.underlying9 rfl rfl (hN.blk 2 rfl) rfl) ?_
          refine RL.ev rfl rfl ev_move ?_
          refine RL.ev rfl rfl (ev_buildL (cs := [(str hp.1), v25, .slice none 0 0]) Try.underlying78 zero78 (places := #[(0, 1), (1, 1), (2, 1)]) (by intro w; kernel_rfl) (pl := [(0, .tmp 88), (1, .tmp 89)]) rfl (ps := [(0, (str hp.1)), (1, v25)]) rfl (zc := [.string ByteArray.empty, .slice none 0 0, .slice none 0 0]) rfl (fill_step (vs := [(str hp.1)]) rfl rfl (Nat.le_of_ble_eq_true rfl) (fill_step (vs := [v25]) (hN.sl 0 rfl).cells1 rfl (Nat.le_of_ble_eq_true rfl) rfl))) ?_
          have hOb_ := (hN.sl 0 rfl).hd
          obtain ⟨h27, hq_⟩ := hOb_
          subst hq_
          refine RL.op rfl rfl (opN_litM (cf := fcells) (s := 3) (pl := [(0, .tmp 90)]) (ps := [(0, .agg #[(str hp.1), (vh h27), .slice none 0 0])]) (zc := [.string ByteArray.empty, .slice none 0 0, .slice none 0 0]) (l := [(hp.1, h27, (none, 0, 0))]) Try.underlying43 inf78 (by kernel_rfl) rfl rfl (fill_step (vs := [(str hp.1), (vh h27), .slice none 0 0]) rfl rfl (Nat.le_of_ble_eq_true rfl) rfl) fcells_len rfl (by decide) (by decide) (by decide) hN ?_)
          intro g26 w26 hN_
          clear hN
          have hN : Now w none_ w26 [_, _, _, _, _, _, _, _, _] := hN_
          clear hN_
          refine RL.op rfl rfl (opN_appendM Try.underlying43 inf78 rfl (by decide) fcells_one fcells_len hN 5 rfl rfl (hN.sm 0 rfl) rfl (by rw [hal]; simp only [List.length_singleton, List.length_cons, List.length_nil]; omega) (by decide) ?_)
          intro v28 w28 hN_
          clear hN
          have hN : Now w none_ w28 [_, _, _, _, _, _, _, _, _] := hN_
          clear hN_
          refine RL.ev rfl rfl (ev_fieldAddr Try.underlying45 rfl sz43 (by decide) rfl) ?_
          refine RL.op rfl rfl (opN_store sz43 rfl rfl (hN.sm 5 rfl).cells1 (hN.sm 5 rfl).one1 hN 6 rfl (Nat.le_of_ble_eq_true rfl) ?_)
          intro w29 hN_
          clear hN
          have hN : Now w none_ w29 [_, _, _, _, _, _, _, _, _] := hN_
          clear hN_
          refine RL.nil ?_
          refine blockN ?_
          refine thenN ?_
          refine RW.region ?_
          refine RL.ev rfl rfl ev_move ?_
          refine RL.ev rfl rfl (ev_arith rfl rfl rfl (add64 (by omega) (by omega))) ?_
          refine RL.ev rfl rfl ev_assign ?_
          refine RL.nil ?_
          refine thenN ?_
          have hN_ := Now.famPush (L := [_, _, _, _, _, _, _, _]) (hN.sub [1, 0, 2, 3, 4, 5, 6, 7, 8] (by decide) rfl) 3 rfl
          clear hN
          have hN : Now w none_ w29 [_, _, _, _, _, _, _, _] := hN_
          clear hN_
          replace hN : Now w none_ w29 [.ownm fcells 3 78 (.slice (some ⟨g26, 0, none⟩) 1 1) ([(hp.1, h27, (none, 0, 0))]), .own vb 5 (vr) (rest), .blk g6 [(str hp.1), (vh hp.2.1), (vh hp.2.2)] 78, .fam vb (hqs ++ [h27]) (((crash ms d.fs).take i).map (·.firm) ++ [fp.firm ++ (rest.take st)]), .ownm fcells 3 78 (v28) (acc ++ [(hp.1, h27, (none, 0, 0))]), .blk g3 [.int .i64 (d.room), v28] 45, .blk g2 [.int .i64 (0), .slice none 0 0] 45, .blk g1 [.int .i64 (d.room), Lv] 45] := hN
          have hq_ : q = fp.ws.length := by omega
          have hcf : crashF (ms.drop (loose (d.fs.take i))) fp = ⟨fp.name, fp.firm ++ rest.take st, []⟩ := by
            rw [hq_, List.take_length] at hst
            unfold crashF
            rw [hst]
          have hcg := crash_get (ms := ms) hfp
          rw [hcf] at hcg
          have htc := take_at hcg
          have hlc : ((crash ms d.fs).take i).length = hqs.length := by rw [List.length_take, crash_length]; omega
          have hm_ : ((crash ms d.fs).take (i + 1)).map (·.firm) = ((crash ms d.fs).take i).map (·.firm) ++ [fp.firm ++ rest.take st] := by rw [htc, List.map_append]; rfl
          rw [← hm_] at hN
          exact ⟨k - 1, by omega, z2, v28, acc ++ [(hp.1, h27, (none, 0, 0))], hqs ++ [h27], i + 1, rfl, rfl, rfl, rfl, rfl, rfl, (hN.sub [3, 4, 5, 6, 7] (by decide) rfl), by omega, by rw [loose_take hfp]; omega, by rw [htc, crashH_snoc hlc, ← ha, ← hnp], by rw [List.length_append, hal]; rfl, by rw [List.length_append, hql]; rfl⟩
    · skip
      refine RW.exit ?_
      refine thenX ?_
      refine thenX ?_
      refine blockHit ?_
      refine thenN ?_
      refine RW.seq ?_
      refine RW.region ?_
      refine RL.ev rfl rfl (ev_loadAll (cs := [.int .i64 (d.room), va]) Try.underlying45 rfl sz45 rfl (hN.blk 2 rfl)) ?_
      refine RL.op rfl rfl (opN_storeAll (vs := [.int .i64 (d.room), va]) sz45 rfl rfl rfl (by intro u hu; simp only [List.mem_cons, List.not_mem_nil, or_false] at hu; rcases hu with rfl | rfl <;> first | rfl | exact (hN.sm 1 rfl).one1) hN 3 rfl rfl ?_)
      intro w30 hN_
      clear hN
      have hN : Now w none_ w30 [_, _, _, _, _] := hN_
      clear hN_
      refine RL.nil ?_
      refine thenN ?_
      refine RW.ret ?_
      refine retI (RV.cell rfl rfl (hN.blk 3 rfl) Try.underlying45 rfl sz45) ?_
      have hi_ : i = d.fs.length := by omega
      have htk : (crash ms d.fs).take i = crash ms d.fs := List.take_of_length_le (by rw [crash_length]; omega)
      rw [htk] at ha hN
      subst ha
      exact ⟨_, _, rfl, OwnM.smo (hN.ownmOut 1 rfl) hF, crashH_ok (crash_ws _ _) (fam_out hN 0 rfl hF), hN.ext0⟩

end Go.Proofs.Ytlblpiapeieofaa
