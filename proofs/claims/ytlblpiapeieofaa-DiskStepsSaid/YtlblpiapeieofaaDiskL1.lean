import Derived.Test.YtlblpiapeieofaaDiskL0
import Derived.Test.YtlblpiapeieofaaDiskOpen
import Derived.Test.YtlblpiapeieofaaDiskPlain2
set_option linter.unusedVariables false
set_option linter.unusedSimpArgs false
namespace Go.Proofs.Ytlblpiapeieofaa
open Go.RowKit Go.Rl

open Go.Disk
theorem refNewT (room : Int) (w : World) (h : 0 ≤ room ∧ room ≤ 1099511627776) : Gives Try.prog 20 #[.int .i64 room] w fun r w' => r = .tuple #[.agg #[.int .i64 room, .slice none 0 0], .bool true] ∧ Ext w w' := (refNew_calls room w).mono fun r w' hr => by rw [decide_eq_true h] at hr; exact hr
theorem refNewF (room : Int) (w : World) (h : ¬ (0 ≤ room ∧ room ≤ 1099511627776)) : Gives Try.prog 20 #[.int .i64 room] w fun r w' => r = .tuple #[.agg #[.int .i64 room, .slice none 0 0], .bool false] ∧ Ext w w' := (refNew_calls room w).mono fun r w' hr => by rw [decide_eq_false h] at hr; exact hr

set_option maxHeartbeats 4000000 in
set_option maxRecDepth 100000 in
/-- postroad/postroadlaw04.DiskSteps -/
theorem diskSteps_calls (room : Int) (Lv : Value) (os : List OH) (xs : List Disk.Op) (nm : List UInt8) (w : World) (hL : Sm ocells w Lv os) (hel : OEls none_ w os xs) (hS0 : ∀ x ∈ xs, SmallOp x) : Gives Try.prog 5 #[.int .i64 (room), Lv, (str nm)] w fun r w' => r = .bool true ∧ Ext w w' := by
  refine Gives.start Try.func5 rfl (Nat.le_of_ble_eq_true rfl) ?_
  rw [args3]
  have hN := Now.nil w none_
  have hle := hel.1
  have hB : ∀ x ∈ xs, x.data.length ≤ 140737488355328 ∧ x.name.length ≤ 140737488355328 ∧ x.to.length ≤ 140737488355328 := fun x hx => ⟨by have := (hS0 x hx).1; omega, by have := (hS0 x hx).2.1; omega, by have := (hS0 x hx).2.2; omega⟩
  refine RW.seq ?_
  refine RW.region ?_
  refine RL.ev rfl rfl ev_assign ?_
  refine RL.nil ?_
  refine thenN ?_
  refine RW.seq ?_
  refine RW.seq ?_
  refine RW.region ?_
  refine RL.ev rfl rfl ev_move ?_
  refine RL.op rfl rfl (op_call1 Try.func10 rfl rfl rfl ((long_calls _ os xs _ (hL.o.now hN) (OEls.nowN hel hN) hB).mono ?_))
  rintro _ w1 ⟨z1, rfl, hz1, he_⟩
  replace hN := hN.ext he_
  clear he_
  refine RL.ev rfl rfl (ev_gtr rfl rfl) ?_
  refine RL.ev rfl rfl ev_move ?_
  by_cases hg1_3 : 1000 < z1
  · skip
    rw [decide_eq_true hg1_3]
    refine RL.off rfl rfl (by decide) rfl rfl ?_
    refine RL.off rfl rfl (by decide) rfl rfl ?_
    refine RL.off rfl rfl (by decide) rfl rfl ?_
    refine RL.ev rfl rfl (ev_pickT rfl) ?_
    refine RL.nil ?_
    refine thenN ?_
    refine RW.condT rfl ?_
    refine RW.seq ?_
    refine RW.region ?_
    refine RL.op rfl rfl (op_call0 Try.func11 rfl rfl ((known_calls _).mono ?_))
    rintro _ w2 ⟨rfl, he_⟩
    replace hN := hN.ext he_
    clear he_
    refine RL.ev rfl rfl ev_assign ?_
    refine RL.nil ?_
    refine thenN ?_
    refine RW.ret ?_
    refine thenR ?_
    refine retI (RV.tmp rfl) ?_
    exact ⟨rfl, hN.ext0⟩
  · skip
    rw [decide_eq_false hg1_3]
    refine RL.onEv rfl rfl (by decide) rfl rfl ev_move ?_
    have hL_3 := (hL.o.now hN).len_le
    refine RL.onEv rfl rfl (by decide) rfl rfl (ev_lenM Try.underlying22 (hL.o.now hN) rfl) ?_
    refine RL.onEv rfl rfl (by decide) rfl rfl (ev_gtr rfl rfl) ?_
    refine RL.ev rfl rfl (ev_pickF rfl) ?_
    refine RL.nil ?_
    refine thenN ?_
    refine RW.condP _ rfl (fun hc25 => ?_) (fun hc25 => ?_)
    · skip
      refine RW.seq ?_
      refine RW.region ?_
      refine RL.op rfl rfl (op_call0 Try.func11 rfl rfl ((known_calls _).mono ?_))
      rintro _ w4 ⟨rfl, he_⟩
      replace hN := hN.ext he_
      clear he_
      refine RL.ev rfl rfl ev_assign ?_
      refine RL.nil ?_
      refine thenN ?_
      refine RW.ret ?_
      refine thenR ?_
      refine retI (RV.tmp rfl) ?_
      exact ⟨rfl, hN.ext0⟩
    · skip
      refine RW.skip ?_
      refine thenN ?_
      refine RW.seq ?_
      by_cases hroom : 0 ≤ room ∧ room ≤ 1099511627776
      · skip
        have h60 : xs.length ≤ 60 := by omega
        have hzl := hz1 (by omega)
        have hdl : ∀ x ∈ xs, x.data.length ≤ 1099511627776 := fun x hx => by have := longT_mem hx; omega
        refine RW.region ?_
        refine RL.ev rfl rfl ev_move ?_
        refine RL.op rfl rfl (op_call1 Try.func20 rfl rfl rfl ((refNewT room _ hroom).mono ?_))
        rintro _ w5 ⟨rfl, he_⟩
        replace hN := hN.ext he_
        clear he_
        refine RL.ev rfl rfl ev_move ?_
        refine RL.ev rfl rfl (ev_extract rfl rfl) ?_
        refine RL.ev rfl rfl (ev_extract rfl rfl) ?_
        refine RL.op rfl rfl (opN_alloc (cs := [.int .i64 (0), .slice none 0 0]) zero45 rfl hN ?_)
        intro g6 w6 hN_
        clear hN
        have hN : Now w none_ w6 [_] := hN_
        clear hN_
        refine RL.op rfl rfl (opN_storeAll (vs := [.int .i64 (room), .slice none 0 0]) sz45 rfl rfl rfl (by intro u hu; simp only [List.mem_cons, List.not_mem_nil, or_false] at hu; rcases hu with rfl | rfl <;> first | rfl) hN 0 rfl rfl ?_)
        intro w7 hN_
        clear hN
        have hN : Now w none_ w7 [_] := hN_
        clear hN_
        refine RL.ev rfl rfl ev_assign ?_
        refine RL.nil ?_
        refine thenN ?_
        refine RW.seq ?_
        refine RW.region ?_
        refine RL.ev rfl rfl ev_move ?_
        refine RL.op rfl rfl (op_call1 Try.func12 rfl rfl rfl ((new_calls (room) _ hroom.1 hroom.2).mono ?_))
        rintro _ w8 ⟨g8, B8, rfl, hC_⟩
        have hN_ := hN.call0 hC_
        clear hC_
        clear hN
        have hN : Now w none_ w8 [_, _] := hN_
        clear hN_
        replace hN : Now w none_ w8 [dskA 64 71 23 g8 (⟨room, []⟩ : Dk) B8, .blk g6 [.int .i64 (room), .slice none 0 0] 45] := hN
        refine RL.ev rfl rfl ev_assign ?_
        refine RL.nil ?_
        refine thenN ?_
        refine RW.seq ?_
        refine RW.seq ?_
        refine RW.region ?_
        refine RL.ev rfl rfl ev_move ?_
        refine RL.ev rfl rfl (ev_true (ev_notNil Try.underlying27 rfl rfl) (by simp)) ?_
        refine RL.ev rfl rfl ev_move ?_
        refine RL.ev rfl rfl (ev_boolNe Try.underlying4 rfl rfl) ?_
        refine RL.nil ?_
        refine thenN ?_
        refine RW.condF rfl ?_
        refine RW.skip ?_
        refine thenN ?_
        refine RW.seq ?_
        refine RW.seq ?_
        refine RW.region ?_
        refine RL.ev rfl rfl ev_move ?_
        refine RL.ev rfl rfl (ev_not rfl) ?_
        refine RL.nil ?_
        refine thenN ?_
        refine RW.condF rfl ?_
        refine RW.skip ?_
        refine thenN ?_
        refine RW.seq ?_
        refine RW.seq ?_
        refine RW.region ?_
        refine RL.ev rfl rfl ev_assign ?_
        refine RL.nil ?_
        refine thenN ?_
        refine RW.block ?_
        refine RW.loop (fun k R0 w0' => ∃ d2 : Dk, ∃ B2 : Nat → Prop, ∃ Lv2 : Value, ∃ hs2 : List FH, ∃ i : Nat, R0 1 = Lv ∧ R0 2 = (str nm) ∧ R0 7 = .pointer (some ⟨g6, 0, none⟩) ∧ R0 9 = .pointer (some ⟨g8, 0, none⟩) ∧ R0 10 = .int .i64 ((i : Int)) ∧ Now w none_ w0' [dskA 64 71 23 g8 d2 B2, .blk g6 [.int .i64 (d2.room), Lv2] 45] ∧ (i + k = os.length) ∧ (Fits i d2) ∧ (SmO (foots [dskA 64 71 23 g8 d2 B2, .blk g6 [.int .i64 (d2.room), Lv2] 45]) fcells w0' Lv2 hs2) ∧ (FEls (foots [dskA 64 71 23 g8 d2 B2, .blk g6 [.int .i64 (d2.room), Lv2] 45]) w0' hs2 d2.fs)) (os.length) ?_ ?_
        · skip
          exact ⟨⟨room, []⟩, B8, .slice none 0 0, [], 0, rfl, rfl, rfl, rfl, rfl, hN, by omega, Fits.new hroom.1 hroom.2, SmO.nil _ _ _, Pair.nil _⟩
        · skip
          clear hN
          rintro k R0 w0' ⟨d2, B2, Lv2, hs2, i, hr1_, hr2_, hr7_, hr9_, hr10_, hN, hik, hfit2, hSb, hEb⟩
          have hR_ : ∃ R0_, R0 = (upd (upd (upd (upd (upd R0_ 1 _) 2 _) 7 _) 9 _) 10 _) := ⟨R0, by rw [upd_self hr1_, upd_self hr2_, upd_self hr7_, upd_self hr9_, upd_self hr10_]⟩
          obtain ⟨R0_, rfl⟩ := hR_
          clear hr1_ hr2_ hr7_ hr9_ hr10_
          have hF9 := hN
          clear hN
          have hN := hF9.here
          replace hN : Now w0' (foots [dskA 64 71 23 g8 d2 B2, .blk g6 [.int .i64 (d2.room), Lv2] 45]) w0' [dskA 64 71 23 g8 d2 B2, .blk g6 [.int .i64 (d2.room), Lv2] 45] := hN
          refine RW.seq ?_
          refine RW.seq ?_
          refine RW.region ?_
          refine RL.ev rfl rfl ev_move ?_
          refine RL.ev rfl rfl ev_move ?_
          refine RL.ev rfl rfl (ev_lenM Try.underlying22 ((SmO.step ocells_ne hL.o hF9).now hN) rfl) ?_
          refine RL.ev rfl rfl (ev_lss rfl rfl) ?_
          refine RL.nil ?_
          refine thenN ?_
          refine RW.condP _ rfl (fun hlt => ?_) (fun hlt => ?_)
          · skip
            refine RW.skip ?_
            refine thenN ?_
            refine RW.seq ?_
            refine RW.block ?_
            refine RW.seq ?_
            refine RW.draw rfl (fun u => Now w0' (foots [dskA 64 71 23 g8 d2 B2, .blk g6 [.int .i64 (d2.room), Lv2] 45]) u [dskA 64 71 23 g8 d2 B2, .blk g6 [.int .i64 (d2.room), Lv2] 45]) ?_
            replace hN := hN.ext (Ext.drew w0')
            refine RA.take (i := 0) rfl rfl (by kernel_rfl) (by kernel_rfl) (by kernel_rfl) (by intro _ _ _ h; exact h) rfl hN (fun w hS => (ev_loadAll (cs := [.int .i64 (d2.room), Lv2]) Try.underlying45 rfl sz45 rfl (hS.blk 1 rfl))) ?_
            refine RA.take (i := 1) rfl rfl (by kernel_rfl) (by kernel_rfl) (by kernel_rfl) (by intro _ _ _ h; exact h) rfl hN (fun w hS => ev_move) ?_
            refine RA.take (i := 2) rfl rfl (by kernel_rfl) (by kernel_rfl) (by kernel_rfl) (by intro _ _ _ h; exact h) rfl hN (fun w hS => ev_move) ?_
            refine RA.take (i := 3) rfl rfl (by kernel_rfl) (by kernel_rfl) (by kernel_rfl) (by intro _ _ _ h; exact h) rfl hN (fun w hS => (ev_indexM Try.underlying22 sz33 ocells_len (by decide) ((SmO.step ocells_ne hL.o hF9).now hS) rfl rfl (by omega) (by omega))) ?_
            have hOb_ := OEls.get (OEls.step hel hF9) i (by omega)
            obtain ⟨xe, hxe, hae, hxse, hde⟩ := hOb_
            have hdle := hdl xe (List.mem_of_getElem? hxse)
            refine RA.take (i := 4) rfl rfl (by kernel_rfl) (by kernel_rfl) (by kernel_rfl) (by intro _ _ _ h; exact h) rfl hN (fun w hS => (ev_loadM (m := i) (a := (xe.kind, xe.name, xe.to, hxe)) Try.underlying33 rfl sz33 ocells_len (by decide) ((SmO.step ocells_ne hL.o hF9).now hS) rfl hae (cs := [.int .i64 (xe.kind), (str xe.name), (str xe.to), (vh hxe)]) rfl)) ?_
            refine RA.two (i := 5) (j := 9) (by kernel_rfl) rfl rfl rfl rfl rfl rfl ?_ ?_
            · skip
              refine (op_call2 Try.func21 rfl rfl rfl rfl ((refDo_calls (foots [dskA 64 71 23 g8 d2 B2, .blk g6 [.int .i64 (d2.room), Lv2] 45]) (fun k hk => hN.feetLt hk) d2 _ hs2 i xe hxe (SmO.step fcells_ne hSb hN) (FEls.step hEb hN) hfit2 (by omega) (hde.step hN) hdle _ rfl).mono ?_))
              rintro _ w10 ⟨Lv10, hs10, rfl, hS10, hE10, he_⟩
              replace hN := hN.ext he_
              clear he_
              have hF12 := hN
              clear hN
              have hN := hF12.here
              replace hN : Now w10 (foots [dskA 64 71 23 g8 d2 B2, .blk g6 [.int .i64 (d2.room), Lv2] 45]) w10 [dskA 64 71 23 g8 d2 B2, .blk g6 [.int .i64 (d2.room), Lv2] 45] := hN
              refine ⟨(hF12.back hN), ?_⟩
              refine RA.take (i := 6) rfl rfl (by kernel_rfl) (by kernel_rfl) (by kernel_rfl) (by intro _ _ _ h; exact h) rfl (hF12.back hN) (fun w hS => ev_move) ?_
              refine RA.take (i := 7) rfl rfl (by kernel_rfl) (by kernel_rfl) (by kernel_rfl) (by intro _ _ _ h; exact h) rfl (hF12.back hN) (fun w hS => (ev_extract rfl rfl)) ?_
              refine RA.take (i := 8) rfl rfl (by kernel_rfl) (by kernel_rfl) (by kernel_rfl) (by intro _ _ _ h; exact h) rfl (hF12.back hN) (fun w hS => (ev_extract rfl rfl)) ?_
              refine RA.only (i := 9) (by kernel_rfl) rfl rfl rfl (opN_alloc (cs := [.int .i64 (0), .slice none 0 0]) zero45 rfl hN ?_)
              intro g13 w13 hN_
              clear hN
              have hN : Now w10 (foots [dskA 64 71 23 g8 d2 B2, .blk g6 [.int .i64 (d2.room), Lv2] 45]) w13 [_, _, _] := hN_
              clear hN_
              refine ⟨((hF12.back hN).sub [1, 2] (by decide) rfl), ?_⟩
              refine RA.only (i := 10) (by kernel_rfl) rfl rfl rfl (opN_storeAll (vs := [.int .i64 ((act d2 xe).1.room), Lv10]) sz45 rfl rfl rfl (by intro u hu; simp only [List.mem_cons, List.not_mem_nil, or_false] at hu; rcases hu with rfl | rfl <;> first | rfl | exact (hS10.now hN).one1) hN 0 rfl rfl ?_)
              intro w14 hN_
              clear hN
              have hN : Now w10 (foots [dskA 64 71 23 g8 d2 B2, .blk g6 [.int .i64 (d2.room), Lv2] 45]) w14 [_, _, _] := hN_
              clear hN_
              refine ⟨((hF12.back hN).sub [1, 2] (by decide) rfl), ?_⟩
              refine RA.take (i := 11) rfl rfl (by kernel_rfl) (by kernel_rfl) (by kernel_rfl) (by intro _ _ _ h; exact h) rfl ((hF12.back hN).sub [1, 2] (by decide) rfl) (fun w hS => ev_assign) ?_
              refine RA.done (by kernel_rfl) ?_
              refine thenN ?_
              refine RW.seq ?_
              refine RW.region ?_
              refine RL.ev rfl rfl (ev_loadAll (cs := [.int .i64 ((act d2 xe).1.room), Lv10]) Try.underlying45 rfl sz45 rfl (hN.blk 0 rfl)) ?_
              refine RL.op rfl rfl (opN_storeAll (vs := [.int .i64 ((act d2 xe).1.room), Lv10]) sz45 rfl rfl rfl (by intro u hu; simp only [List.mem_cons, List.not_mem_nil, or_false] at hu; rcases hu with rfl | rfl <;> first | rfl | exact (hS10.now hN).one1) hN 2 rfl rfl ?_)
              intro w15 hN_
              clear hN
              have hN : Now w10 (foots [dskA 64 71 23 g8 d2 B2, .blk g6 [.int .i64 (d2.room), Lv2] 45]) w15 [_, _, _] := hN_
              clear hN_
              refine RL.nil ?_
              refine thenN ?_
              refine RW.seq ?_
              refine RW.region ?_
              refine RL.ev rfl rfl ev_move ?_
              refine RL.ev rfl rfl ev_move ?_
              refine RL.ev rfl rfl ev_move ?_
              refine RL.ev rfl rfl (ev_indexM Try.underlying22 sz33 ocells_len (by decide) ((SmO.step ocells_ne (SmO.step ocells_ne hL.o hF9) hF12).now hN) rfl rfl (by omega) (by omega)) ?_
              refine RL.ev rfl rfl (ev_loadM (m := i) (a := (xe.kind, xe.name, xe.to, hxe)) Try.underlying33 rfl sz33 ocells_len (by decide) ((SmO.step ocells_ne (SmO.step ocells_ne hL.o hF9) hF12).now hN) rfl hae (cs := [.int .i64 (xe.kind), (str xe.name), (str xe.to), (vh hxe)]) rfl) ?_
              refine RL.op rfl rfl (op_call2 Try.func14 rfl rfl rfl rfl ((do_calls g8 d2 B2 i xe hxe _ (hN.pickL (M := [_]) [1] (by decide) rfl) hfit2 (by omega) (SlO.at (hde.step hF12) hN 1 rfl) hdle _ rfl).mono ?_))
              rintro _ w16 ⟨B16, rfl, hC_⟩
              have hN_ := Now.callA (M := [_]) (N := [_, _]) (hN.sub [1, 0, 2] (by decide) rfl) hC_
              clear hC_
              clear hN
              have hN : Now w10 (foots [dskA 64 71 23 g8 d2 B2, .blk g6 [.int .i64 (d2.room), Lv2] 45]) w16 [_, _, _] := hN_
              clear hN_
              replace hN : Now w10 (foots [dskA 64 71 23 g8 d2 B2, .blk g6 [.int .i64 (d2.room), Lv2] 45]) w16 [dskA 64 71 23 g8 ((act d2 xe).1) B16, .blk g13 [.int .i64 ((act d2 xe).1.room), Lv10] 45, .blk g6 [.int .i64 ((act d2 xe).1.room), Lv10] 45] := hN
              refine RL.ev rfl rfl ev_assign ?_
              refine RL.nil ?_
              refine thenN ?_
              refine RW.seq ?_
              refine RW.region ?_
              refine RL.ev rfl rfl ev_move ?_
              refine RL.ev rfl rfl ev_move ?_
              refine RL.op rfl rfl (op_call2 Try.func15 rfl rfl rfl rfl ((read_calls _ ((act d2 xe).1) nm _ _ (dsk_says (hN.says 0 _ rfl)) (hfit2.act xe) (by omega) _ rfl).mono ?_))
              rintro _ w17 ⟨v17, rfl, ho_, he_⟩
              have hN_ := hN.pushOwn ho_ he_
              clear ho_ he_
              clear hN
              have hN : Now w10 (foots [dskA 64 71 23 g8 d2 B2, .blk g6 [.int .i64 (d2.room), Lv2] 45]) w17 [_, _, _, _] := hN_
              clear hN_
              refine RL.ev rfl rfl ev_move ?_
              refine RL.ev rfl rfl (ev_extract rfl rfl) ?_
              refine RL.ev rfl rfl (ev_extract rfl rfl) ?_
              refine RL.ev rfl rfl ev_assign ?_
              refine RL.ev rfl rfl ev_assign ?_
              refine RL.nil ?_
              refine thenN ?_
              refine RW.seq ?_
              refine RW.region ?_
              refine RL.ev rfl rfl (ev_loadAll (cs := [.int .i64 ((act d2 xe).1.room), Lv10]) Try.underlying45 rfl sz45 rfl (hN.blk 3 rfl)) ?_
              refine RL.ev rfl rfl ev_move ?_
              refine RL.op rfl rfl (op_call2 Try.func22 rfl rfl rfl rfl ((refRead_calls ((act d2 xe).1) nm _ hs10 _ _ (hS10.now hN) (FEls.nowN hE10 hN) (hfit2.act xe) (by omega) _ rfl).mono ?_))
              rintro _ w18 ⟨v18, rfl, ho_, he_⟩
              have hN_ := hN.pushOwn ho_ he_
              clear ho_ he_
              clear hN
              have hN : Now w10 (foots [dskA 64 71 23 g8 d2 B2, .blk g6 [.int .i64 (d2.room), Lv2] 45]) w18 [_, _, _, _, _] := hN_
              clear hN_
              refine RL.ev rfl rfl ev_move ?_
              refine RL.ev rfl rfl (ev_extract rfl rfl) ?_
              refine RL.ev rfl rfl (ev_extract rfl rfl) ?_
              refine RL.ev rfl rfl ev_assign ?_
              refine RL.ev rfl rfl ev_assign ?_
              refine RL.nil ?_
              refine thenN ?_
              refine RW.seq ?_
              refine RW.region ?_
              refine RL.ev rfl rfl ev_move ?_
              refine RL.ev rfl rfl ev_move ?_
              refine RL.ev rfl rfl (ev_false (ev_neq rfl rfl) (fun h => h rfl)) ?_
              refine RL.ev rfl rfl ev_move ?_
              refine RL.onEv rfl rfl (by decide) rfl rfl ev_move ?_
              refine RL.onEv rfl rfl (by decide) rfl rfl (ev_loadAll (cs := [.int .i64 ((act d2 xe).1.room), Lv10]) Try.underlying45 rfl sz45 rfl (hN.blk 4 rfl)) ?_
              refine RL.on rfl rfl (by decide) rfl rfl (op_call2 Try.func23 rfl rfl rfl rfl ((dsame_calls g8 ((act d2 xe).1) _ _ hs10 _ (dsk_says (hN.says 2 _ rfl)) (hS10.now hN) (FEls.nowN hE10 hN) (hfit2.act xe) (by omega)).mono ?_))
              rintro _ w19 ⟨rfl, he_⟩
              replace hN := hN.ext he_
              clear he_
              refine RL.onEv rfl rfl (by decide) rfl rfl (ev_not rfl) ?_
              refine RL.ev rfl rfl (ev_pickF rfl) ?_
              refine RL.ev rfl rfl ev_move ?_
              refine RL.onEv rfl rfl (by decide) rfl rfl ev_move ?_
              refine RL.onEv rfl rfl (by decide) rfl rfl ev_move ?_
              refine RL.on rfl rfl (by decide) rfl rfl (op_call2 Try.func18 rfl rfl rfl rfl ((same_true (hN.sl 1 rfl) (hN.sl 0 rfl) rfl).mono ?_))
              rintro _ _ ⟨rfl, rfl⟩
              refine RL.onEv rfl rfl (by decide) rfl rfl (ev_not rfl) ?_
              refine RL.ev rfl rfl (ev_pickF rfl) ?_
              refine RL.ev rfl rfl ev_move ?_
              refine RL.onEv rfl rfl (by decide) rfl rfl ev_move ?_
              refine RL.onEv rfl rfl (by decide) rfl rfl ev_move ?_
              refine RL.onEv rfl rfl (by decide) rfl rfl (ev_false (ev_neq rfl rfl) (fun h => h rfl)) ?_
              refine RL.ev rfl rfl (ev_pickF rfl) ?_
              refine RL.nil ?_
              refine thenN ?_
              refine RW.condF rfl ?_
              refine RW.skip ?_
              refine blockN ?_
              refine thenN ?_
              refine RW.region ?_
              refine RL.ev rfl rfl ev_move ?_
              refine RL.ev rfl rfl (ev_arith rfl rfl rfl (add64 (by omega) (by omega))) ?_
              refine RL.ev rfl rfl ev_assign ?_
              refine RL.nil ?_
              refine thenN ?_
              exact ⟨k - 1, by omega, (act d2 xe).1, B16, Lv10, hs10, i + 1, rfl, rfl, rfl, rfl, rfl, (hF9.back (hF12.back (hN.sub [2, 4] (by decide) rfl))), by omega, (hfit2.act xe), (SmO.step fcells_ne hS10 (hN.sub [2, 4] (by decide) rfl)), (FEls.step hE10 (hN.sub [2, 4] (by decide) rfl))⟩
            · skip
              refine (opN_alloc (cs := [.int .i64 (0), .slice none 0 0]) zero45 rfl hN ?_)
              intro g21 w21 hN_
              clear hN
              have hN : Now w0' (foots [dskA 64 71 23 g8 d2 B2, .blk g6 [.int .i64 (d2.room), Lv2] 45]) w21 [_, _, _] := hN_
              clear hN_
              refine ⟨(hN.sub [1, 2] (by decide) rfl), ?_⟩
              refine RA.only (i := 5) (by kernel_rfl) rfl rfl rfl (op_call2 Try.func21 rfl rfl rfl rfl ((refDo_calls (foots [.blk g21 [.int .i64 (0), .slice none 0 0] 45, dskA 64 71 23 g8 d2 B2, .blk g6 [.int .i64 (d2.room), Lv2] 45]) (fun k hk => hN.feetLt hk) d2 _ hs2 i xe hxe (SmO.step fcells_ne hSb hN) (FEls.step hEb hN) hfit2 (by omega) (hde.step hN) hdle _ rfl).mono ?_))
              rintro _ w22 ⟨Lv22, hs22, rfl, hS22, hE22, he_⟩
              replace hN := hN.ext he_
              clear he_
              have hF24 := hN
              clear hN
              have hN := hF24.here
              replace hN : Now w22 (foots [.blk g21 [.int .i64 (0), .slice none 0 0] 45, dskA 64 71 23 g8 d2 B2, .blk g6 [.int .i64 (d2.room), Lv2] 45]) w22 [.blk g21 [.int .i64 (0), .slice none 0 0] 45, dskA 64 71 23 g8 d2 B2, .blk g6 [.int .i64 (d2.room), Lv2] 45] := hN
              refine ⟨((hF24.back hN).sub [1, 2] (by decide) rfl), ?_⟩
              refine RA.take (i := 6) rfl rfl (by kernel_rfl) (by kernel_rfl) (by kernel_rfl) (by intro _ _ _ h; exact h) rfl ((hF24.back hN).sub [1, 2] (by decide) rfl) (fun w hS => ev_move) ?_
              refine RA.take (i := 7) rfl rfl (by kernel_rfl) (by kernel_rfl) (by kernel_rfl) (by intro _ _ _ h; exact h) rfl ((hF24.back hN).sub [1, 2] (by decide) rfl) (fun w hS => (ev_extract rfl rfl)) ?_
              refine RA.take (i := 8) rfl rfl (by kernel_rfl) (by kernel_rfl) (by kernel_rfl) (by intro _ _ _ h; exact h) rfl ((hF24.back hN).sub [1, 2] (by decide) rfl) (fun w hS => (ev_extract rfl rfl)) ?_
              refine RA.only (i := 10) (by kernel_rfl) rfl rfl rfl (opN_storeAll (vs := [.int .i64 ((act d2 xe).1.room), Lv22]) sz45 rfl rfl rfl (by intro u hu; simp only [List.mem_cons, List.not_mem_nil, or_false] at hu; rcases hu with rfl | rfl <;> first | rfl | exact (hS22.now hN).one1) hN 0 rfl rfl ?_)
              intro w25 hN_
              clear hN
              have hN : Now w22 (foots [.blk g21 [.int .i64 (0), .slice none 0 0] 45, dskA 64 71 23 g8 d2 B2, .blk g6 [.int .i64 (d2.room), Lv2] 45]) w25 [_, _, _] := hN_
              clear hN_
              refine ⟨((hF24.back hN).sub [1, 2] (by decide) rfl), ?_⟩
              refine RA.take (i := 11) rfl rfl (by kernel_rfl) (by kernel_rfl) (by kernel_rfl) (by intro _ _ _ h; exact h) rfl ((hF24.back hN).sub [1, 2] (by decide) rfl) (fun w hS => ev_assign) ?_
              refine RA.done (by kernel_rfl) ?_
              refine thenN ?_
              refine RW.seq ?_
              refine RW.region ?_
              refine RL.ev rfl rfl (ev_loadAll (cs := [.int .i64 ((act d2 xe).1.room), Lv22]) Try.underlying45 rfl sz45 rfl (hN.blk 0 rfl)) ?_
              refine RL.op rfl rfl (opN_storeAll (vs := [.int .i64 ((act d2 xe).1.room), Lv22]) sz45 rfl rfl rfl (by intro u hu; simp only [List.mem_cons, List.not_mem_nil, or_false] at hu; rcases hu with rfl | rfl <;> first | rfl | exact (hS22.now hN).one1) hN 2 rfl rfl ?_)
              intro w26 hN_
              clear hN
              have hN : Now w22 (foots [.blk g21 [.int .i64 (0), .slice none 0 0] 45, dskA 64 71 23 g8 d2 B2, .blk g6 [.int .i64 (d2.room), Lv2] 45]) w26 [_, _, _] := hN_
              clear hN_
              refine RL.nil ?_
              refine thenN ?_
              refine RW.seq ?_
              refine RW.region ?_
              refine RL.ev rfl rfl ev_move ?_
              refine RL.ev rfl rfl ev_move ?_
              refine RL.ev rfl rfl ev_move ?_
              refine RL.ev rfl rfl (ev_indexM Try.underlying22 sz33 ocells_len (by decide) ((SmO.step ocells_ne (SmO.step ocells_ne hL.o hF9) hF24).now hN) rfl rfl (by omega) (by omega)) ?_
              refine RL.ev rfl rfl (ev_loadM (m := i) (a := (xe.kind, xe.name, xe.to, hxe)) Try.underlying33 rfl sz33 ocells_len (by decide) ((SmO.step ocells_ne (SmO.step ocells_ne hL.o hF9) hF24).now hN) rfl hae (cs := [.int .i64 (xe.kind), (str xe.name), (str xe.to), (vh hxe)]) rfl) ?_
              refine RL.op rfl rfl (op_call2 Try.func14 rfl rfl rfl rfl ((do_calls g8 d2 B2 i xe hxe _ (hN.pickL (M := [_]) [1] (by decide) rfl) hfit2 (by omega) (SlO.at (hde.step hF24) hN 1 rfl) hdle _ rfl).mono ?_))
              rintro _ w27 ⟨B27, rfl, hC_⟩
              have hN_ := Now.callA (M := [_]) (N := [_, _]) (hN.sub [1, 0, 2] (by decide) rfl) hC_
              clear hC_
              clear hN
              have hN : Now w22 (foots [.blk g21 [.int .i64 (0), .slice none 0 0] 45, dskA 64 71 23 g8 d2 B2, .blk g6 [.int .i64 (d2.room), Lv2] 45]) w27 [_, _, _] := hN_
              clear hN_
              replace hN : Now w22 (foots [.blk g21 [.int .i64 (0), .slice none 0 0] 45, dskA 64 71 23 g8 d2 B2, .blk g6 [.int .i64 (d2.room), Lv2] 45]) w27 [dskA 64 71 23 g8 ((act d2 xe).1) B27, .blk g21 [.int .i64 ((act d2 xe).1.room), Lv22] 45, .blk g6 [.int .i64 ((act d2 xe).1.room), Lv22] 45] := hN
              refine RL.ev rfl rfl ev_assign ?_
              refine RL.nil ?_
              refine thenN ?_
              refine RW.seq ?_
              refine RW.region ?_
              refine RL.ev rfl rfl ev_move ?_
              refine RL.ev rfl rfl ev_move ?_
              refine RL.op rfl rfl (op_call2 Try.func15 rfl rfl rfl rfl ((read_calls _ ((act d2 xe).1) nm _ _ (dsk_says (hN.says 0 _ rfl)) (hfit2.act xe) (by omega) _ rfl).mono ?_))
              rintro _ w28 ⟨v28, rfl, ho_, he_⟩
              have hN_ := hN.pushOwn ho_ he_
              clear ho_ he_
              clear hN
              have hN : Now w22 (foots [.blk g21 [.int .i64 (0), .slice none 0 0] 45, dskA 64 71 23 g8 d2 B2, .blk g6 [.int .i64 (d2.room), Lv2] 45]) w28 [_, _, _, _] := hN_
              clear hN_
              refine RL.ev rfl rfl ev_move ?_
              refine RL.ev rfl rfl (ev_extract rfl rfl) ?_
              refine RL.ev rfl rfl (ev_extract rfl rfl) ?_
              refine RL.ev rfl rfl ev_assign ?_
              refine RL.ev rfl rfl ev_assign ?_
              refine RL.nil ?_
              refine thenN ?_
              refine RW.seq ?_
              refine RW.region ?_
              refine RL.ev rfl rfl (ev_loadAll (cs := [.int .i64 ((act d2 xe).1.room), Lv22]) Try.underlying45 rfl sz45 rfl (hN.blk 3 rfl)) ?_
              refine RL.ev rfl rfl ev_move ?_
              refine RL.op rfl rfl (op_call2 Try.func22 rfl rfl rfl rfl ((refRead_calls ((act d2 xe).1) nm _ hs22 _ _ (hS22.now hN) (FEls.nowN hE22 hN) (hfit2.act xe) (by omega) _ rfl).mono ?_))
              rintro _ w29 ⟨v29, rfl, ho_, he_⟩
              have hN_ := hN.pushOwn ho_ he_
              clear ho_ he_
              clear hN
              have hN : Now w22 (foots [.blk g21 [.int .i64 (0), .slice none 0 0] 45, dskA 64 71 23 g8 d2 B2, .blk g6 [.int .i64 (d2.room), Lv2] 45]) w29 [_, _, _, _, _] := hN_
              clear hN_
              refine RL.ev rfl rfl ev_move ?_
              refine RL.ev rfl rfl (ev_extract rfl rfl) ?_
              refine RL.ev rfl rfl (ev_extract rfl rfl) ?_
              refine RL.ev rfl rfl ev_assign ?_
              refine RL.ev rfl rfl ev_assign ?_
              refine RL.nil ?_
              refine thenN ?_
              refine RW.seq ?_
              refine RW.region ?_
              refine RL.ev rfl rfl ev_move ?_
              refine RL.ev rfl rfl ev_move ?_
              refine RL.ev rfl rfl (ev_false (ev_neq rfl rfl) (fun h => h rfl)) ?_
              refine RL.ev rfl rfl ev_move ?_
              refine RL.onEv rfl rfl (by decide) rfl rfl ev_move ?_
              refine RL.onEv rfl rfl (by decide) rfl rfl (ev_loadAll (cs := [.int .i64 ((act d2 xe).1.room), Lv22]) Try.underlying45 rfl sz45 rfl (hN.blk 4 rfl)) ?_
              refine RL.on rfl rfl (by decide) rfl rfl (op_call2 Try.func23 rfl rfl rfl rfl ((dsame_calls g8 ((act d2 xe).1) _ _ hs22 _ (dsk_says (hN.says 2 _ rfl)) (hS22.now hN) (FEls.nowN hE22 hN) (hfit2.act xe) (by omega)).mono ?_))
              rintro _ w30 ⟨rfl, he_⟩
              replace hN := hN.ext he_
              clear he_
              refine RL.onEv rfl rfl (by decide) rfl rfl (ev_not rfl) ?_
              refine RL.ev rfl rfl (ev_pickF rfl) ?_
              refine RL.ev rfl rfl ev_move ?_
              refine RL.onEv rfl rfl (by decide) rfl rfl ev_move ?_
              refine RL.onEv rfl rfl (by decide) rfl rfl ev_move ?_
              refine RL.on rfl rfl (by decide) rfl rfl (op_call2 Try.func18 rfl rfl rfl rfl ((same_true (hN.sl 1 rfl) (hN.sl 0 rfl) rfl).mono ?_))
              rintro _ _ ⟨rfl, rfl⟩
              refine RL.onEv rfl rfl (by decide) rfl rfl (ev_not rfl) ?_
              refine RL.ev rfl rfl (ev_pickF rfl) ?_
              refine RL.ev rfl rfl ev_move ?_
              refine RL.onEv rfl rfl (by decide) rfl rfl ev_move ?_
              refine RL.onEv rfl rfl (by decide) rfl rfl ev_move ?_
              refine RL.onEv rfl rfl (by decide) rfl rfl (ev_false (ev_neq rfl rfl) (fun h => h rfl)) ?_
              refine RL.ev rfl rfl (ev_pickF rfl) ?_
              refine RL.nil ?_
              refine thenN ?_
              refine RW.condF rfl ?_
              refine RW.skip ?_
              refine blockN ?_
              refine thenN ?_
              refine RW.region ?_
              refine RL.ev rfl rfl ev_move ?_
              refine RL.ev rfl rfl (ev_arith rfl rfl rfl (add64 (by omega) (by omega))) ?_
              refine RL.ev rfl rfl ev_assign ?_
              refine RL.nil ?_
              refine thenN ?_
              exact ⟨k - 1, by omega, (act d2 xe).1, B27, Lv22, hs22, i + 1, rfl, rfl, rfl, rfl, rfl, (hF9.back (hF24.back (hN.sub [2, 4] (by decide) rfl))), by omega, (hfit2.act xe), (SmO.step fcells_ne hS22 (hN.sub [2, 4] (by decide) rfl)), (FEls.step hE22 (hN.sub [2, 4] (by decide) rfl))⟩
          · skip
            refine RW.exit ?_
            refine thenX ?_
            refine thenX ?_
            refine blockHit ?_
            refine thenN ?_
            refine RW.seq ?_
            refine RW.region ?_
            refine RL.op rfl rfl (op_call0 Try.func11 rfl rfl ((known_calls _).mono ?_))
            rintro _ w32 ⟨rfl, he_⟩
            replace hN := hN.ext he_
            clear he_
            refine RL.ev rfl rfl ev_assign ?_
            refine RL.nil ?_
            refine thenN ?_
            refine RW.ret ?_
            refine retI (RV.tmp rfl) ?_
            exact ⟨rfl, (hF9.back hN).ext0⟩
      · skip
        have h60 : xs.length ≤ 60 := by omega
        have hzl := hz1 (by omega)
        have hdl : ∀ x ∈ xs, x.data.length ≤ 1099511627776 := fun x hx => by have := longT_mem hx; omega
        refine RW.region ?_
        refine RL.ev rfl rfl ev_move ?_
        refine RL.op rfl rfl (op_call1 Try.func20 rfl rfl rfl ((refNewF room _ hroom).mono ?_))
        rintro _ w33 ⟨rfl, he_⟩
        replace hN := hN.ext he_
        clear he_
        refine RL.ev rfl rfl ev_move ?_
        refine RL.ev rfl rfl (ev_extract rfl rfl) ?_
        refine RL.ev rfl rfl (ev_extract rfl rfl) ?_
        refine RL.op rfl rfl (opN_alloc (cs := [.int .i64 (0), .slice none 0 0]) zero45 rfl hN ?_)
        intro g34 w34 hN_
        clear hN
        have hN : Now w none_ w34 [_] := hN_
        clear hN_
        refine RL.op rfl rfl (opN_storeAll (vs := [.int .i64 (room), .slice none 0 0]) sz45 rfl rfl rfl (by intro u hu; simp only [List.mem_cons, List.not_mem_nil, or_false] at hu; rcases hu with rfl | rfl <;> first | rfl) hN 0 rfl rfl ?_)
        intro w35 hN_
        clear hN
        have hN : Now w none_ w35 [_] := hN_
        clear hN_
        refine RL.ev rfl rfl ev_assign ?_
        refine RL.nil ?_
        refine thenN ?_
        refine RW.seq ?_
        refine RW.region ?_
        refine RL.ev rfl rfl ev_move ?_
        refine RL.op rfl rfl (op_call1 Try.func12 rfl rfl rfl ((newNone_calls room _ hroom).mono ?_))
        rintro _ _ ⟨rfl, rfl⟩
        refine RL.ev rfl rfl ev_assign ?_
        refine RL.nil ?_
        refine thenN ?_
        refine RW.seq ?_
        refine RW.seq ?_
        refine RW.region ?_
        refine RL.ev rfl rfl ev_move ?_
        refine RL.ev rfl rfl (ev_false (ev_notNil Try.underlying27 rfl rfl) (by simp)) ?_
        refine RL.ev rfl rfl ev_move ?_
        refine RL.ev rfl rfl (ev_boolNe Try.underlying4 rfl rfl) ?_
        refine RL.nil ?_
        refine thenN ?_
        refine RW.condF rfl ?_
        refine RW.skip ?_
        refine thenN ?_
        refine RW.seq ?_
        refine RW.seq ?_
        refine RW.region ?_
        refine RL.ev rfl rfl ev_move ?_
        refine RL.ev rfl rfl (ev_not rfl) ?_
        refine RL.nil ?_
        refine thenN ?_
        refine RW.condT rfl ?_
        refine RW.seq ?_
        refine RW.region ?_
        refine RL.ev rfl rfl ev_move ?_
        refine RL.ev rfl rfl (ev_buildL (cs := [.int .i64 (1), str [97], .string ByteArray.empty, .slice none 0 0]) Try.underlying33 zero33 (places := #[(0, 1), (1, 1), (2, 1), (3, 1)]) (by intro w; kernel_rfl) (pl := [(0, .const (.int .i64 (1))), (1, .const (str [97]))]) rfl (ps := [(0, .int .i64 (1)), (1, str [97])]) rfl (zc := [.int .i64 (0), .string ByteArray.empty, .string ByteArray.empty, .slice none 0 0]) rfl (fill_step (vs := [.int .i64 (1)]) rfl rfl (Nat.le_of_ble_eq_true rfl) (fill_step (vs := [str [97]]) rfl rfl (Nat.le_of_ble_eq_true rfl) rfl))) ?_
        refine RL.op rfl rfl (op_call2 Try.func14 rfl rfl rfl rfl ((do_nil ⟨1, [97], [], []⟩ nilH _ (Sl.nil _ _)).mono ?_))
        rintro _ w37 ⟨rfl, he_⟩
        replace hN := hN.ext he_
        clear he_
        refine RL.ev rfl rfl (ev_true (ev_eql rfl rfl) rfl) ?_
        refine RL.ev rfl rfl ev_move ?_
        refine RL.on rfl rfl (by decide) rfl rfl (op_call0 Try.func11 rfl rfl ((known_calls _).mono ?_))
        rintro _ w38 ⟨rfl, he_⟩
        replace hN := hN.ext he_
        clear he_
        refine RL.ev rfl rfl (ev_pickT rfl) ?_
        refine RL.ev rfl rfl ev_assign ?_
        refine RL.nil ?_
        refine thenN ?_
        refine RW.ret ?_
        refine thenR ?_
        refine retI (RV.tmp rfl) ?_
        exact ⟨rfl, hN.ext0⟩

end Go.Proofs.Ytlblpiapeieofaa
